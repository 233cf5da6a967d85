/- A part of the proofs of the seat YtblffnoimmmpeaaGreatDoor: the contracts of functions, each proved out of its code. -/
import Derived.Test.YtblffnoimmmpeaaGreatDoorVc
import Derived.Test.YtblffnoimmmpeaaGreatDoorProg
import Derived.Shelf.Strings.BuilderK
import Derived.WalkKit
import Derived.BigCall
import Derived.Lib.Bytealg
import Derived.Shelf.Strings.Search2
import Derived.Shelf.Strings.Count
import Derived.Shelf.Small.Strs
import Derived.Shelf.Strconv.Itoa4
import Derived.Lib.AppendIntMem
namespace Go.Vc
open Go.Proofs
set_option maxRecDepth 100000
def Nt (s:Nat):MC:=(.seq (.reg [⟨(some 9),none,(.q (.bin .lss (.t 8) (.t 7)))⟩] [] [0,1,7,8,9] []) (.seq (.cond (.t 9) .skip (.exit 0)) (.seq (.block 1 (.seq (.reg [⟨(some 10),none,(.q (.mv (.t 8)))⟩,⟨(some 5),none,(.q (.mv (.t 10)))⟩] [] [0,1,5,7,8] []) (.seq (.reg [⟨(some 11),none,(.q (.mv (.t 1)))⟩,⟨(some 12),none,(.q (.mv (.t 0)))⟩,⟨(some 13),none,(.q (.mv (.t 5)))⟩,⟨(some 14),none,(.q (.ia (.t 12) (.t 13) s))⟩,⟨(some 15),none,(.q (.ld (.t 14) s true))⟩,⟨(some 16),none,(.call (.t 11) [(.t 15)])⟩] [] [0,1,5,7,8,16] [1016]) (.cond (.t 16) (.seq (.reg [⟨(some 17),none,(.q (.mv (.t 5)))⟩,⟨(some 4),none,(.q (.mv (.t 17)))⟩] [] [4] []) .ret) .skip)))) (.reg [⟨(some 18),none,(.q (.bin .add (.t 8) (ic 1)))⟩,⟨(some 8),none,(.q (.mv (.t 18)))⟩] [] [0,1,7,8] []))))
def O6:MC:=(.seq (.reg [⟨(some 4),none,(.q (.mv (.c (.int .i64 (-1)))))⟩] [] [4] []) .ret)
def xC (s:Nat):MC:=(.seq (.reg [⟨(some 4),none,(.q (.mv (ic 0)))⟩] [] [0,1] []) (.seq (.seq (.reg [⟨(some 6),none,(.q (.mv (.t 0)))⟩,⟨(some 7),none,(.q (.len (.t 6) false))⟩,⟨(some 8),none,(.q (.mv (ic 0)))⟩] [] [0,1,7,8] []) (.block 0 (.loop (Nt s)))) O6))
def rU:List (Nat×RD):=[(0,⟨[0,1],[],[],0,[],none⟩),(1,⟨[0,1,7,8],[],[],0,[],none⟩),(2,⟨[0,1,7,8,9],[],[],0,[],none⟩),(3,⟨[0,1,5,7,8],[],[],0,[],none⟩),(4,⟨[0,1,5,7,8,16],[1016],[],0,[],none⟩),(5,⟨[4],[],[],0,[],none⟩),(6,⟨[0,1,7,8],[],[],0,[],none⟩),(7,⟨[4],[],[],0,[],none⟩)]
def Az (s:Nat) (z:Nat):MC:=(.seq (.reg [⟨(some 2),none,(.q (.mv .nil))⟩] [] [0] []) (.seq (.seq (.reg [⟨(some 3),none,(.q (.mv (.t 0)))⟩,⟨(some 4),none,(.isnil (.t 3) false)⟩] [] [0,4] []) (.cond (.t 4) (.seq (.reg [⟨(some 2),none,(.q (.mv .nil))⟩] [(2,2002,s)] [2] [7,2002]) .ret) .skip)) (.seq (.reg [⟨(some 5),none,(.lits [] s)⟩,⟨(some 6),none,(.q (.mv (.t 0)))⟩,⟨(some 7),none,(.app (.t 5) (.t 6) s z)⟩,⟨(some 2),none,(.q (.mv (.t 7)))⟩] [] [2] [7,2002]) .ret)))
def vT (s:Nat):List (Nat×RD):=[(0,⟨[0],[],[],0,[],none⟩),(1,⟨[0,4],[],[],0,[],none⟩),(2,⟨[2],[7,2002],[],0,[(2,2002,s)],none⟩),(3,⟨[2],[7,2002],[],0,[],none⟩)]
def Ej (s:Nat) (z:Nat) (d:PV) (ov:FuncId) (rt:FuncId):MC:=(.seq (.reg [⟨(some 6),none,(.q (.mv .nil))⟩] [] [0,1,2] [0,1067]) (.seq (.reg [⟨(some 10),none,(.q (.mv (.t 0)))⟩,⟨(some 11),none,(.q (.mv (.t 1)))⟩,⟨(some 12),none,(.q (.slc (.t 10) (some (.t 11)) none s false))⟩] [] [0,1,2] [0,1067]) (.seq (.reg [⟨(some 13),none,(.q (.mv (.t 2)))⟩,⟨(some 14),none,(.q (.len (.t 13) false))⟩,⟨(some 7),none,(.q (.mv (.t 14)))⟩] [] [0,1,2,7] [0,1067]) (.seq (.seq (.reg [⟨(some 15),none,(.q (.mv (.t 7)))⟩,⟨(some 16),none,(.q (.bin .eql (.t 15) (ic 0)))⟩] [] [0,1,2,7,16] [0,1067]) (.cond (.t 16) (.seq (.reg [⟨(some 17),none,(.q (.mv (.t 0)))⟩,⟨(some 6),none,(.q (.mv (.t 17)))⟩] [] [6] [0,25,40,1067]) .ret) .skip)) (.seq (.reg [⟨(some 18),none,(.q (.mv (.t 0)))⟩,⟨(some 19),none,(.q (.len (.t 18) false))⟩,⟨(some 8),none,(.q (.mv (.t 19)))⟩] [] [0,1,2,7,8] [0,1067]) (.seq (.seq (.reg [⟨(some 20),none,(.q (.mv (.t 1)))⟩,⟨(some 21),none,(.q (.mv (.t 8)))⟩,⟨(some 22),none,(.q (.bin .eql (.t 20) (.t 21)))⟩] [] [0,1,2,7,8,22] [0,1067]) (.cond (.t 22) (.seq (.reg [⟨(some 23),none,(.q (.mv (.t 0)))⟩,⟨(some 24),none,(.q (.mv (.t 2)))⟩,⟨(some 25),none,(.app (.t 23) (.t 24) s z)⟩,⟨(some 6),none,(.q (.mv (.t 25)))⟩] [] [6] [0,25,40,1067]) .ret) .skip)) (.seq (.seq (.reg [⟨(some 26),none,(.q (.mv (.t 8)))⟩,⟨(some 27),none,(.q (.mv (.t 7)))⟩,⟨(some 28),none,(.q (.bin .add (.t 26) (.t 27)))⟩,⟨(some 29),none,(.q (.mv (.t 0)))⟩,⟨(some 30),none,(.capr (.t 29))⟩,⟨(some 31),none,(.q (.bin .gtr (.t 28) (.t 30)))⟩] [] [0,1,2,7,8,31] [0,1067]) (.cond (.t 31) (.seq (.reg [⟨(some 32),none,(.q (.mv (.t 0)))⟩,⟨(some 33),none,(.q (.mv (.t 1)))⟩,⟨(some 34),none,(.q (.slc (.t 32) none (some (.t 33)) s false))⟩,⟨(some 35),none,(.q (.mv (.t 8)))⟩,⟨(some 36),none,(.q (.mv (.t 7)))⟩,⟨(some 37),none,(.q (.bin .add (.t 35) (.t 36)))⟩,⟨(some 38),none,(.q (.mv (.t 1)))⟩,⟨(some 39),none,(.q (.bin .sub (.t 37) (.t 38)))⟩,⟨(some 40),none,(.appz (.t 34) (.t 39) s z d)⟩,⟨(some 9),none,(.q (.mv (.t 40)))⟩] [] [0,1,2,7,9] [0,40,1067]) (.seq (.reg [⟨(some 41),none,(.q (.mv (.t 9)))⟩,⟨(some 42),none,(.q (.mv (.t 1)))⟩,⟨(some 43),none,(.q (.slc (.t 41) (some (.t 42)) none s false))⟩,⟨(some 44),none,(.q (.mv (.t 2)))⟩,⟨(some 45),none,(.cpy (.t 43) (.t 44) s)⟩] [] [0,1,7,9] [0,40,1067]) (.seq (.reg [⟨(some 46),none,(.q (.mv (.t 9)))⟩,⟨(some 47),none,(.q (.mv (.t 1)))⟩,⟨(some 48),none,(.q (.mv (.t 7)))⟩,⟨(some 49),none,(.q (.bin .add (.t 47) (.t 48)))⟩,⟨(some 50),none,(.q (.slc (.t 46) (some (.t 49)) none s false))⟩,⟨(some 51),none,(.q (.mv (.t 0)))⟩,⟨(some 52),none,(.q (.mv (.t 1)))⟩,⟨(some 53),none,(.q (.slc (.t 51) (some (.t 52)) none s false))⟩,⟨(some 54),none,(.cpy (.t 50) (.t 53) s)⟩] [] [9] [0,40,1067]) (.seq (.reg [⟨(some 55),none,(.q (.mv (.t 9)))⟩,⟨(some 6),none,(.q (.mv (.t 55)))⟩] [] [6] [0,25,40,1067]) .ret)))) .skip)) (.seq (.reg [⟨(some 56),none,(.q (.mv (.t 0)))⟩,⟨(some 57),none,(.q (.mv (.t 8)))⟩,⟨(some 58),none,(.q (.mv (.t 7)))⟩,⟨(some 59),none,(.q (.bin .add (.t 57) (.t 58)))⟩,⟨(some 60),none,(.q (.slcx (.t 56) none (some (.t 59)) s))⟩,⟨(some 0),none,(.q (.mv (.t 60)))⟩] [] [0,1,2,7,8] [0,1067]) (.seq (.seq (.reg [⟨(some 61),none,(.q (.mv (.t 2)))⟩,⟨(some 62),none,(.q (.mv (.t 0)))⟩,⟨(some 63),none,(.q (.mv (.t 1)))⟩,⟨(some 64),none,(.q (.mv (.t 7)))⟩,⟨(some 65),none,(.q (.bin .add (.t 63) (.t 64)))⟩,⟨(some 66),none,(.q (.slc (.t 62) (some (.t 65)) none s false))⟩,⟨(some 67),none,(.calls (.f ov) [(.t 61),(.t 66)])⟩,⟨(some 68),none,(.q (.not (.t 67)))⟩] [] [0,1,2,7,8,68] [0,1067]) (.cond (.t 68) (.seq (.reg [⟨(some 69),none,(.q (.mv (.t 0)))⟩,⟨(some 70),none,(.q (.mv (.t 1)))⟩,⟨(some 71),none,(.q (.mv (.t 7)))⟩,⟨(some 72),none,(.q (.bin .add (.t 70) (.t 71)))⟩,⟨(some 73),none,(.q (.slc (.t 69) (some (.t 72)) none s false))⟩,⟨(some 74),none,(.q (.mv (.t 0)))⟩,⟨(some 75),none,(.q (.mv (.t 1)))⟩,⟨(some 76),none,(.q (.slc (.t 74) (some (.t 75)) none s false))⟩,⟨(some 77),none,(.cpy (.t 73) (.t 76) s)⟩] [] [0,1,2] [0,1067]) (.seq (.reg [⟨(some 78),none,(.q (.mv (.t 0)))⟩,⟨(some 79),none,(.q (.mv (.t 1)))⟩,⟨(some 80),none,(.q (.slc (.t 78) (some (.t 79)) none s false))⟩,⟨(some 81),none,(.q (.mv (.t 2)))⟩,⟨(some 82),none,(.cpy (.t 80) (.t 81) s)⟩] [] [0] [0,1067]) (.seq (.reg [⟨(some 83),none,(.q (.mv (.t 0)))⟩,⟨(some 6),none,(.q (.mv (.t 83)))⟩] [] [6] [0,25,40,1067]) .ret))) .skip)) (.seq (.reg [⟨(some 84),none,(.q (.mv (.t 0)))⟩,⟨(some 85),none,(.q (.mv (.t 8)))⟩,⟨(some 86),none,(.q (.slc (.t 84) (some (.t 85)) none s false))⟩,⟨(some 87),none,(.q (.mv (.t 2)))⟩,⟨(some 88),none,(.cpy (.t 86) (.t 87) s)⟩] [] [0,1,7] [0,1067]) (.seq (.reg [⟨(some 89),none,(.q (.mv (.t 0)))⟩,⟨(some 90),none,(.q (.mv (.t 1)))⟩,⟨(some 91),none,(.q (.slc (.t 89) (some (.t 90)) none s false))⟩,⟨(some 92),none,(.q (.mv (.t 7)))⟩,⟨(some 93),none,(.call (.f rt) [(.t 91),(.t 92)])⟩] [] [0] [0,1067]) (.seq (.reg [⟨(some 94),none,(.q (.mv (.t 0)))⟩,⟨(some 6),none,(.q (.mv (.t 94)))⟩] [] [6] [0,25,40,1067]) .ret))))))))))))
def CU:List (Nat×RD):=[(0,⟨[0,1,2],[0,1067],[],0,[],none⟩),(1,⟨[0,1,2],[0,1067],[],0,[],none⟩),(2,⟨[0,1,2,7],[0,1067],[],0,[],none⟩),(3,⟨[0,1,2,7,16],[0,1067],[],0,[],none⟩),(4,⟨[6],[0,25,40,1067],[],0,[],none⟩),(5,⟨[0,1,2,7,8],[0,1067],[],0,[],none⟩),(6,⟨[0,1,2,7,8,22],[0,1067],[],0,[],none⟩),(7,⟨[6],[0,25,40,1067],[],0,[],none⟩),(8,⟨[0,1,2,7,8,31],[0,1067],[],0,[],none⟩),(9,⟨[0,1,2,7,9],[0,40,1067],[],0,[],none⟩),(10,⟨[0,1,7,9],[0,40,1067],[],0,[],none⟩),(11,⟨[9],[0,40,1067],[(0,273),(1,282),(2,284),(3,280),(4,272),(5,416),(6,448),(7,384),(8,0)],255,[],none⟩),(12,⟨[6],[0,25,40,1067],[],0,[],none⟩),(13,⟨[0,1,2,7,8],[0,1067],[],0,[],none⟩),(14,⟨[0,1,2,7,8,68],[0,1067],[],0,[],none⟩),(15,⟨[0,1,2],[0,1067],[(0,273),(1,282),(2,284),(3,280),(4,272),(5,416),(6,448),(7,384),(8,0)],255,[],none⟩),(16,⟨[0],[0,1067],[],0,[],none⟩),(17,⟨[6],[0,25,40,1067],[],0,[],none⟩),(18,⟨[0,1,7],[0,1067],[],0,[],none⟩),(19,⟨[0],[0,1067],[],0,[],none⟩),(20,⟨[6],[0,25,40,1067],[],0,[],none⟩)]
def HU (s:Nat) (z:Nat) (d:PV):MC:=(.seq (.reg [⟨(some 6),none,(.q (.mv .nil))⟩] [] [0,1,2] [0]) (.seq (.reg [⟨(some 8),none,(.q (.mv (.t 0)))⟩,⟨(some 9),none,(.q (.mv (.t 1)))⟩,⟨(some 10),none,(.q (.mv (.t 2)))⟩,⟨(some 11),none,(.q (.mv (.t 0)))⟩,⟨(some 12),none,(.q (.len (.t 11) false))⟩,⟨(some 13),none,(.q (.chk (.t 8) (.t 9) (.t 10) (.t 12)))⟩] [] [0,1,2] [0]) (.seq (.seq (.reg [⟨(some 14),none,(.q (.mv (.t 1)))⟩,⟨(some 15),none,(.q (.mv (.t 2)))⟩,⟨(some 16),none,(.q (.bin .eql (.t 14) (.t 15)))⟩] [] [0,1,2,16] [0]) (.cond (.t 16) (.seq (.reg [⟨(some 17),none,(.q (.mv (.t 0)))⟩,⟨(some 6),none,(.q (.mv (.t 17)))⟩] [] [6] [0]) .ret) .skip)) (.seq (.reg [⟨(some 18),none,(.q (.mv (.t 0)))⟩,⟨(some 19),none,(.q (.len (.t 18) false))⟩,⟨(some 7),none,(.q (.mv (.t 19)))⟩] [] [0,1,2,7] [0]) (.seq (.reg [⟨(some 20),none,(.q (.mv (.t 0)))⟩,⟨(some 21),none,(.q (.mv (.t 1)))⟩,⟨(some 22),none,(.q (.slc (.t 20) none (some (.t 21)) s false))⟩,⟨(some 23),none,(.q (.mv (.t 0)))⟩,⟨(some 24),none,(.q (.mv (.t 2)))⟩,⟨(some 25),none,(.q (.slc (.t 23) (some (.t 24)) none s false))⟩,⟨(some 26),none,(.appi (.t 22) (.t 25) s z)⟩,⟨(some 0),none,(.q (.mv (.t 26)))⟩] [] [0,7] [0]) (.seq (.reg [⟨(some 27),none,(.q (.mv (.t 0)))⟩,⟨(some 28),none,(.q (.mv (.t 0)))⟩,⟨(some 29),none,(.q (.len (.t 28) false))⟩,⟨(some 30),none,(.q (.mv (.t 7)))⟩,⟨(some 31),none,(.q (.slcx (.t 27) (some (.t 29)) (some (.t 30)) s))⟩,⟨none,none,(.clr (.t 31) s d)⟩] [] [0] [0]) (.seq (.reg [⟨(some 32),none,(.q (.mv (.t 0)))⟩,⟨(some 6),none,(.q (.mv (.t 32)))⟩] [] [6] [0]) .ret)))))))
def H0:List (Nat×RD):=[(0,⟨[0,1,2],[0],[],0,[],none⟩),(1,⟨[0,1,2],[0],[],0,[],none⟩),(2,⟨[0,1,2,16],[0],[],0,[],none⟩),(3,⟨[6],[0],[],0,[],none⟩),(4,⟨[0,1,2,7],[0],[],0,[],none⟩),(5,⟨[0,7],[0],[(0,197),(1,198),(2,196),(3,232),(4,240),(5,224),(6,0),(7,128)],191,[],none⟩),(6,⟨[0],[0],[],0,[],none⟩),(7,⟨[6],[0],[],0,[],none⟩)]
def KC (g:FuncId):MC:=(.seq (.reg [⟨(some 4),none,(.q (.mv (.c (.bool false))))⟩] [] [0,1] []) (.seq (.reg [⟨(some 5),none,(.q (.mv (.t 0)))⟩,⟨(some 6),none,(.q (.mv (.t 1)))⟩,⟨(some 7),none,(.call (.f g) [(.t 5),(.t 6)])⟩,⟨(some 8),none,(.q (.bin .geq (.t 7) (ic 0)))⟩,⟨(some 4),none,(.q (.mv (.t 8)))⟩] [] [4] [1007]) .ret))
def L9:List (Nat×RD):=[(0,⟨[0,1],[],[],0,[],none⟩),(1,⟨[4],[1007],[],0,[],none⟩)]
end Go.Vc

namespace Go.Vc
open Go.Proofs
set_option linter.unusedSimpArgs false
set_option linter.unusedVariables false
set_option maxRecDepth 10000
theorem rZ {α:Type} {f:FuncId} {s:Nat} {c:α→List PV} (hR:∀{args:List PV} {v:AV} {rs:List (Nat×List PV)} (ids:List Bool),args.length≤19→run Tryz.prog (uL [RV.tmp 4] ids v rs) (xC s) [] ⟨entry 0 args,[]⟩→Fn Tryz.prog f args v rs)
  (l:List α) (wf:cY s (l.map fun x=>.agg (c x))) (hc:∀x,(c x).length=s) (g:Nat) (caps:List PV) (q:α→Bool) (hl:l.length<100000) (hg:∀k∈l,Fn Tryz.prog g (.agg (c k)::caps) (.pv (pB (q k))) []):
  Fn Tryz.prog f [.lst (l.map fun x=>.agg (c x)),.fn g caps] (.pv (pI (gZ q l))) []:=by
 have h1:∀x,List.take s (c x)=c x:=fun x=>List.take_of_length_le (by rw[hc];exact Nat.le_refl _)
 have h2:∀x,(s≤(c x).length)=True:=fun x=>by rw[hc];simp
 refine hR [] (by simp) ?_
 simp only[go_sem,xC]
 refine aZ (T:=Nat) (fun i=>⟨[(0,.pv (.lst (l.map fun x=>.agg (c x)))),(1,.pv (.fn g caps)),(7,.pv (pI l.length)),(8,.pv (pI i))],[]⟩) (fun i=>i≤l.length∧∀j (h:j<l.length),j<i→q l[j]=false) (fun i=>l.length-i) 0 rfl ⟨Nat.zero_le _,fun j _ h=>absurd h (by omega)⟩ ?_
 intro i ⟨hi,hq⟩
 by_cases hlt:i<l.length
 ·simp only[go_sem,Nt,wf,aK hlt,h1,h2,show(i:Int)<(l.length:Int)by omega]
  refine aA (by simp only[go_sem]) (by simp only[go_sem,pQ _ 3]) (hg _ (List.getElem_mem hlt)) ⟨rfl,trivial⟩ trivial ?_
  simp only[go_sem]
  refine⟨fun hq1=>?_,fun hq0=>⟨⟨by omega,by omega⟩,i+1,rfl,⟨hlt,fun j hj hji=>?_⟩,by omega⟩⟩
  ·rw[Jz hlt hq1 hq]
  ·by_cases hj2:j=i
   ·subst hj2;exact hq0
   ·exact hq j hj (by omega)
 ·simp only[go_sem,Nt,O6,show ¬((i:Int)<(l.length:Int))by omega]
  rw[Lz fun j hj=>hq j hj (by omega)]
theorem JA {α:Type} (q:α→Bool) (l:List α):decide (0≤gZ q l)=l.any q:=by
 unfold gZ
 cases l.any q<;>simp
theorem Ml {α:Type} {f g0:FuncId} {pv:α→PV} (hR:∀{args:List PV} {v:AV} {rs:List (Nat×List PV)} (ids:List Bool),args.length≤9→run Tryz.prog (uL [RV.tmp 4] ids v rs) (KC g0) [] ⟨entry 0 args,[]⟩→Fn Tryz.prog f args v rs)
  (l:List α) (g:Nat) (caps:List PV) (q:α→Bool) (hI:Fn Tryz.prog g0 [.lst (l.map pv),.fn g caps] (.pv (pI (gZ q l))) []):
  Fn Tryz.prog f [.lst (l.map pv),.fn g caps] (.pv (pB (l.any q))) []:=by
 refine hR [] (by simp) ?_
 simp only[go_sem,KC]
 refine aA (by simp only[go_sem]) (by simp only[go_sem]<;>rfl) (hI) ⟨rfl,trivial⟩ trivial ?_
 simp only[go_sem]
 rw[JA]
theorem Q8 (s:Nat) (cs:List PV) (h:cs.length=s) (h1:cs.all PV.one=true):cY s [.agg cs]:=fun p hp=>by
 rw[List.mem_singleton]at hp
 subst hp
 exact⟨h,fun c hc=>List.all_eq_true.1 h1 c hc⟩
theorem M2 {n z:Nat} (hn:n≤200000) (hz:z≤1000):n*z≤140737488355328:=Nat.le_trans (Nat.mul_le_mul hn hz) (by decide)
theorem v1 {α:Type} {f:FuncId} {s z:Nat} {pv:α→PV} (hR:∀{args:List PV} {v:AV} {rs:List (Nat×List PV)} (ids:List Bool),args.length≤8→run Tryz.prog (uL [RV.tmp 2] ids v rs) (Az s z) [] ⟨entry 0 args,[]⟩→Fn Tryz.prog f args v rs)
  (l:List α) (wf:cY s (l.map pv)) (hl:l.length<100000) (hs:(s=0)=False) (hz:z≤1000):Fn Tryz.prog f [.lst (l.map pv)] (.row 0 0 l.length) [(s,l.map pv)]:=by
 refine hR [true] (by simp) ?_
 simp only[go_sem,Az,wf,hs]
 refine EL rfl rfl ?_
 intro b hb
 simp only[go_sem,wf,hs]
 refine⟨fun h=>?_,fun h=>⟨⟨M2 (by omega) hz,by omega⟩,?_⟩⟩
 ·have:l=[]:=by simpa using hb h
  subst this
  simp
 ·simp
def eZ {α:Type} (l:List α) (i:Nat) (x:α):List α:=l.take i++x::l.drop i
theorem mZ {α β:Type} (f:α→β) (l:List α) (i:Nat) (x:α):eZ (l.map f) i (f x)=(eZ l i x).map f:=by simp[eZ]
theorem gX {α:Type} {l:List α} {i:Nat} {x:α} (h:i≤l.length):(eZ l i x).length=l.length+1:=by simp[eZ];omega
theorem Jy {xs sp:List PV} {i:Nat} (hi:i≤xs.length) (p z:PV):
  (cR (cR ((xs++sp).take i++List.replicate (xs.length+1-i) z) i [p]) (i+1) (((xs++sp).drop i).take (xs.length-i))).take (xs.length+1)=eZ xs i p:=by
 obtain⟨A,B,rfl,rfl⟩:∃A B,xs=A++B∧A.length=i:=⟨xs.take i,xs.drop i,(List.take_append_drop i xs).symm,by simp;omega⟩
 have e1:(A++B).length+1-A.length=B.length+1:=by simp;omega
 have e2:(A++B).length-A.length=B.length:=by simp
 rw[e1,e2]
 simp[cR,eZ,List.take_append,List.drop_append,List.replicate_succ,List.take_of_length_le,show A.length+B.length+1-A.length=B.length+1 by omega]
 rw[List.take_of_length_le (by omega),List.drop_of_length_le (by omega),List.nil_append]
theorem Ha {xs sp:List PV} {i:Nat} (hi:i<xs.length) (hs:0<sp.length) (p:PV):
  (cR (cR (xs++sp) (i+1) ((((xs++sp).drop i).take (xs.length+1-i)).take (xs.length-i))) i [p]).take (xs.length+1)=eZ xs i p:=by
 obtain⟨A,B,rfl,rfl⟩:∃A B,xs=A++B∧A.length=i:=⟨xs.take i,xs.drop i,(List.take_append_drop i xs).symm,by simp;omega⟩
 cases sp with
 | nil=>simp at hs
 | cons q sp=>
  have e1:(A++B).length+1-A.length=B.length+1:=by simp;omega
  have e2:(A++B).length-A.length=B.length:=by simp
  cases B with
  | nil=>simp at hi
  | cons b B=>
   rw[e1,e2]
   simp[cR,eZ,List.take_append,List.drop_append,List.take_of_length_le,show A.length+(B.length+1)+1-A.length=B.length+1+1 by omega,show A.length+1+(B.length+1)-A.length=B.length+1+1 by omega]
   rw[List.take_of_length_le (by omega),List.drop_of_length_le (by omega),List.nil_append]
theorem yJ {f ov rt:FuncId} {s z:Nat} {d:PV} (hs:(s=0)=False) (hz:z≤1000) (hd:cY s [d])
  (hR:∀{args:List AV} {st st':List (Nat×Row)} {v:AV},args.length≤95→(st'.map (·.1)).Nodup→run Tryz.prog (CJ [RV.tmp 6] v st') (Ej s z d ov rt) [] ⟨fY 0 args,st⟩→j4 Tryz.prog f args st v st')
  (hov:∀{ps:List PV} {st:List (Nat×Row)} {r off n:Nat} {xs:List PV},(r,.slf s xs)∈st→cY s ps→J2 Tryz.prog ov [.pv (.lst ps),.row r off n] st (aY false))
  (xs:List PV) (hx:cY s xs) (p:PV) (hp:cY s [p]) (i:Nat) (hi:i≤xs.length) (hl:xs.length<100000):
  j4 Tryz.prog f [.row 0 0 xs.length,.pv (pI i),.pv (.lst [p])] [(0,.sl s xs)] (.pv (.lst (eZ xs i p))) []:=by
 refine hR (by simp) (by simp) ?_
 simp only[go_sem,Ej,hs]
 refine⟨⟨by omega,by omega⟩,fun he=>⟨⟨hp,M2 (by omega) hz,by omega⟩,?_⟩,fun hne=>⟨⟨by omega,by omega⟩,fun sp hsp=>⟨fun hg=>?_,fun hg=>?_⟩⟩⟩
 ·have:i=xs.length:=by omega
  subst this
  rw[List.take_of_length_le (by simp)]
  simp[eZ]
 ·have e1:((xs.length:Int)+1-i).toNat=xs.length+1-i:=by omega
  have e2:((i:Int)+1).toNat=i+1:=by omega
  have e3:(List.take (xs.length-i) (List.drop i (xs++sp))).length=xs.length-i:=by simp;omega
  have e4:i+(xs.length+1-i)=xs.length+1:=by omega
  have e5:(xs++sp).length=xs.length+sp.length:=by simp
  simp only[e1,e2,e3,e4,e5,Nat.sub_zero]
  refine⟨by omega,⟨by omega,by omega⟩,⟨by omega,by omega⟩,by omega,by omega,by omega,M2 (by omega) hz,by omega,⟨by omega,by omega⟩,by omega,hp,1,by omega,?_,⟨by omega,by omega⟩,⟨by omega,by omega,by omega⟩,⟨by omega,by omega⟩,by omega,
   (cY.append hx hsp).drop.take,xs.length-i,by omega,?_,?_⟩
  ·show min _ _=_;omega
  ·show min _ _=_;omega
  ·have:=Jy (sp:=sp) hi p d
   rw[List.take_take,Nat.min_self]
   rw[←this]
   rfl
 ·have e1:((xs.length:Int)+1).toNat=xs.length+1:=by omega
  have e2:((i:Int)+1).toNat=i+1:=by omega
  simp only[e1,e2,Nat.sub_zero]
  refine⟨⟨by omega,by omega⟩,⟨by omega,by simp;omega⟩,⟨by omega,by omega⟩,⟨by omega,by omega,by omega⟩,EN (by simp only[go_sem]) (by simp only[go_sem]<;>rfl) (hov (xs:=xs++sp) (r:=0) (by simp) hp) ?_⟩
  simp only[go_sem]
  have e3:(List.take (xs.length+1-i) (List.drop i (xs++sp))).length=xs.length+1-i:=by simp;omega
  simp only[e2,e3]
  refine⟨⟨by omega,by omega⟩,⟨by omega,by omega,by omega⟩,⟨by omega,by omega⟩,by omega,(cY.append hx hsp).drop.take,xs.length-i,by omega,?_,⟨by omega,by omega⟩,by omega,hp,1,by omega,?_,?_⟩
  ·show min _ _=_;omega
  ·show min _ _=_;omega
  ·have:=Ha (sp:=sp) (show i<xs.length by omega) (by omega) p
   rw[←this]
   rfl
theorem Ew {f:FuncId} {s z:Nat} {d:PV} (hs:(s=0)=False) (hz:z≤1000) (hd:cY s [d])
  (hR:∀{args:List AV} {st st':List (Nat×Row)} {v:AV},args.length≤33→(st'.map (·.1)).Nodup→run Tryz.prog (CJ [RV.tmp 6] v st') (HU s z d) [] ⟨fY 0 args,st⟩→j4 Tryz.prog f args st v st')
  (xs:List PV) (hx:cY s xs) (i:Nat) (hi:i<xs.length) (hl:xs.length<100000):
  j4 Tryz.prog f [.row 0 0 xs.length,.pv (pI i),.pv (pI ((i:Int)+1))] [(0,.sl s xs)] (.row 0 0 (xs.length-1)) [(0,.sl s (xs.take i++(xs.drop (i+1)++[d])))]:=by
 refine hR (by simp) (by simp) ?_
 simp only[go_sem,HU,hs]
 have e1:((i:Int)+1).toNat=i+1:=by omega
 have e2:List.take (xs.length-(i+1)) (List.drop (i+1) xs)=List.drop (i+1) xs:=List.take_of_length_le (by rw[List.length_drop];omega)
 have e3:(List.drop (i+1) xs).length=xs.length-(i+1):=List.length_drop
 have e4:(cR xs i (List.drop (i+1) xs)).length=xs.length:=mG (by rw[e3];omega)
 have e5:i+(xs.length-(i+1))=xs.length-1:=by omega
 have e6:xs.length-(xs.length-1)=1:=by omega
 simp only[Nat.sub_zero,e1,e2,e3,e4,e5,e6]
 refine⟨by omega,fun h=>absurd h (by omega),fun _=>⟨by omega,by omega,?_⟩⟩
 rw[if_pos hi]
 refine⟨by omega,hx.drop,by omega,by omega,by omega,by omega,trivial,?_⟩
 congr 1
 unfold cR
 rw[e3,e5,List.replicate_one]
 have e7:(List.take i xs++(List.drop (i+1) xs++List.drop (xs.length-1) xs)).take (xs.length-1)=List.take i xs++List.drop (i+1) xs:=by
  rw[←List.append_assoc,List.take_append_of_le_length (by rw[List.length_append,List.length_take,e3];omega),List.take_of_length_le (by rw[List.length_append,List.length_take,e3];omega)]
 rw[e7,List.append_assoc]
 congr 2
 rw[List.drop_of_length_le (by simp only[List.length_append,List.length_take,List.length_drop,List.length_singleton,List.length_cons,List.length_nil];omega),List.append_nil]
end Go.Vc

namespace Go.Vc
open Go Go.Proofs Go.Shelf Go.RowKit
set_option linter.unusedSimpArgs false
set_option linter.unusedVariables false
set_option maxRecDepth 100000
def Eo:Ren:=⟨fun n=>if n=166 then 143 else if n=240 then 188 else if n=276 then 224 else if n=169 then 145 else n,
 fun t=>if t=70 then 224 else if t=72 then 226 else if t=37 then 153 else if t=127 then 276 else if t=164 then 306 else if t=75 then 228 else if t=80 then 232 else t,
 fun g=>g⟩
theorem Lm:Lays.n166 Tryz.prog Eo where
 mixed:=by kernel_rfl
 f166:=by kernel_rfl
 f240:=by kernel_rfl
 f276:=by kernel_rfl
 t0:=by kernel_rfl
 a0:=fun w=>by kernel_rfl
 z0:=fun w=>by kernel_rfl
 v0:=fun w=>by kernel_rfl
 t3:=by kernel_rfl
 a3:=fun w=>by kernel_rfl
 z3:=fun w=>by kernel_rfl
 v3:=fun w=>by kernel_rfl
 t4:=by kernel_rfl
 a4:=fun w=>by kernel_rfl
 z4:=fun w=>by kernel_rfl
 v4:=fun w=>by kernel_rfl
 t9:=by kernel_rfl
 a9:=fun w=>by kernel_rfl
 z9:=fun w=>by kernel_rfl
 v9:=fun w=>by kernel_rfl
 t20:=by kernel_rfl
 a20:=fun w=>by kernel_rfl
 z20:=fun w=>by kernel_rfl
 v20:=fun w=>by kernel_rfl
 t37:=by kernel_rfl
 a37:=fun w=>by kernel_rfl
 z37:=fun w=>by kernel_rfl
 v37:=fun w=>by kernel_rfl
 t70:=by kernel_rfl
 a70:=fun w=>by kernel_rfl
 z70:=fun w=>by kernel_rfl
 v70:=fun w=>by kernel_rfl
 t72:=by kernel_rfl
 a72:=fun w=>by kernel_rfl
 z72:=fun w=>by kernel_rfl
 v72:=fun w=>by kernel_rfl
 t75:=by kernel_rfl
 a75:=fun w=>by kernel_rfl
 z75:=fun w=>by kernel_rfl
 v75:=fun w=>by kernel_rfl
 t164:=by kernel_rfl
 a164:=fun w=>by kernel_rfl
 z164:=fun w=>by kernel_rfl
 v164:=fun w=>by kernel_rfl
theorem Ll:Lays.n169 Tryz.prog Eo where
 mixed:=by kernel_rfl
 f169:=by kernel_rfl
 t0:=by kernel_rfl
 a0:=fun w=>by kernel_rfl
 z0:=fun w=>by kernel_rfl
 v0:=fun w=>by kernel_rfl
 t3:=by kernel_rfl
 a3:=fun w=>by kernel_rfl
 z3:=fun w=>by kernel_rfl
 v3:=fun w=>by kernel_rfl
 t9:=by kernel_rfl
 a9:=fun w=>by kernel_rfl
 z9:=fun w=>by kernel_rfl
 v9:=fun w=>by kernel_rfl
 t37:=by kernel_rfl
 a37:=fun w=>by kernel_rfl
 z37:=fun w=>by kernel_rfl
 v37:=fun w=>by kernel_rfl
 t70:=by kernel_rfl
 a70:=fun w=>by kernel_rfl
 z70:=fun w=>by kernel_rfl
 v70:=fun w=>by kernel_rfl
 t72:=by kernel_rfl
 a72:=fun w=>by kernel_rfl
 z72:=fun w=>by kernel_rfl
 v72:=fun w=>by kernel_rfl
 t127:=by kernel_rfl
 a127:=fun w=>by kernel_rfl
 z127:=fun w=>by kernel_rfl
 v127:=fun w=>by kernel_rfl
theorem O5:Builder.Extra Tryz.prog Eo where
 sizeBuilder:=by kernel_rfl
 liesBuilder:=by kernel_rfl
 t5:=by kernel_rfl
 a5:=fun w=>by kernel_rfl
 z5:=fun w=>by kernel_rfl
 v5:=fun w=>by kernel_rfl
 infoByte:=by kernel_rfl
 cellsByte:=by kernel_rfl
 sizeByte:=by kernel_rfl
 neB5:=by decide
end Go.Vc

namespace Go.Vc
def iW (n:Nat):List Nat:=if h:n<128 then[n]else(n%128+128)::iW (n / 128)
termination_by n
theorem tM {n:Nat} (h:n<128):iW n=[n]:=by rw[iW,dif_pos h]
theorem tN {n:Nat} (h:¬n<128):iW n=(n%128+128)::iW (n / 128):=by rw[iW,dif_neg h]
def j5:List Nat→Nat→Nat→Nat×Nat×Nat
 | [],i,_=>(0,0,if i<10 then 3 else 2)
 | c::r,i,n=>if 10≤i then(0,0,2)else if 128≤c then j5 r (i+1) (n+c%128*128^i)else if(c=0∧0<i)∨(i=9∧1<c)then(0,0,2)else(n+c%128*128^i,i+1,0)
theorem KF (r:List Nat):∀(n i m:Nat),i≤9→n<2^(64-7*i)→(0<n∨i=0)→j5 (iW n++r) i m=(m+n*128^i,i+(iW n).length,0):=by
 intro n
 induction n using Nat.strongRecOn with
 | ind n ih=>
  intro i m hi hn h0
  by_cases h:n<128
  ·rw[tM h]
   have h9:i=9→n<2:=fun e=>by subst e;simpa using hn
   simp only[List.cons_append,List.nil_append,j5,List.length_singleton]
   rw[if_neg (by omega),if_neg (by omega),if_neg (by rintro(⟨h1,h2⟩|⟨h1,h2⟩)<;>first|omega|(have:=h9 h1;omega)),Nat.mod_eq_of_lt h]
  ·rw[tN h]
   have hi8:i≤8:=by
    by_cases e:i=9
    ·subst e;simp at hn;omega
    ·omega
   simp only[List.cons_append,j5,List.length_cons]
   rw[if_neg (by omega),if_pos (by omega),show(n%128+128)%128=n%128 by omega]
   have h2:n / 128<2^(64-7*(i+1)):=by
    rw[Nat.div_lt_iff_lt_mul (by decide),show(128:Nat)=2^7 by decide,←Nat.pow_add,show 64-7*(i+1)+7=64-7*i by omega]
    exact hn
   rw[ih (n / 128) (by omega) (i+1) _ (by omega) h2 (.inl (by omega))]
   refine Prod.ext ?_ (Prod.ext ?_ rfl)
   ·simp only
    have e1:n=128*(n / 128)+n%128:=(Nat.div_add_mod n 128).symm
    have e2:n*128^i=(n / 128)*128^(i+1)+n%128*128^i:=by
     conv=>lhs;rw[e1]
     rw[Nat.add_mul,Nat.pow_succ]
     congr 1
     rw[Nat.mul_comm 128 (n / 128),Nat.mul_assoc,Nat.mul_comm 128 (128^i)]
    omega
   ·simp only;omega
theorem IJ {n:Nat} (r:List Nat) (h:n<2^64):j5 (iW n++r) 0 0=(n,(iW n).length,0):=by
 have:=KF r n 0 0 (by omega) (by simpa using h) (.inr rfl)
 simpa using this
theorem A4:∀(n k:Nat),n<128^(k+1)→(iW n).length≤k+1:=by
 intro n
 induction n using Nat.strongRecOn with
 | ind n ih=>
  intro k hn
  by_cases h:n<128
  ·rw[tM h];simp
  ·rw[tN h,List.length_cons]
   cases k with
   | zero=>simp at hn;omega
   | succ k=>
    have:=ih (n / 128) (by omega) k (by rw[Nat.div_lt_iff_lt_mul (by decide)];rw[Nat.pow_succ]at hn;exact hn)
    omega
theorem ET:∀(n:Nat),∀c∈iW n,c<256:=by
 intro n
 induction n using Nat.strongRecOn with
 | ind n ih=>
  by_cases h:n<128
  ·rw[tM h];intro c hc;simp at hc;omega
  ·rw[tN h]
   intro c hc
   rcases List.mem_cons.1 hc with rfl|hc
   ·omega
   ·exact ih (n / 128) (by omega) c hc
def vY (n:Int):Nat:=if 0≤n then(2*n).toNat else(2*(-(n+1))+1).toNat
def kH (n:Nat):Int:=if n%2=0 then(n / 2:Nat)else -((n / 2:Nat):Int)-1
theorem KG (n:Int):kH (vY n)=n:=by
 unfold kH vY
 split<;>split<;>omega
theorem tU {n:Int} (h : -9223372036854775808≤n) (h2:n≤9223372036854775807):vY n<2^64:=by
 unfold vY
 split<;>omega
def dX (n:Nat):List UInt8:=(iW n).map UInt8.ofNat
def l9 (s:List UInt8):Nat×Nat×Nat:=j5 (s.map UInt8.toNat) 0 0
theorem GR (n:Nat):(dX n).map UInt8.toNat=iW n:=by
 unfold dX
 rw[List.map_map]
 conv=>rhs;rw[←List.map_id (iW n)]
 refine List.map_congr_left fun c hc=>?_
 have:=ET n c hc
 simp only[Function.comp,UInt8.toNat_ofNat',id]
 omega
theorem yM {n:Nat} (r:List UInt8) (h:n<2^64):l9 (dX n++r)=(n,(dX n).length,0):=by
 unfold l9
 rw[List.map_append,GR,IJ _ h]
 simp[dX]
theorem qX {n:Nat} (k:Nat) (h:n<128^(k+1)):(dX n).length≤k+1:=by
 unfold dX;rw[List.length_map];exact A4 n k h
theorem dS {n:Nat} (h:n<2^64):(dX n).length≤10:=qX 9 (by omega)
abbrev bQ (l:List UInt8):ByteArray:=⟨l.toArray⟩
abbrev cF (b:ByteArray):List UInt8:=b.data.toList
theorem jZ (b:ByteArray):bQ (cF b)=b:=by simp[bQ,cF]
theorem m8 (b:ByteArray):(cF b).length=b.size:=rfl
structure Vl where
 num:Bool
 n:Int
 s:ByteArray
 deriving DecidableEq
instance:Inhabited Vl:=⟨⟨false,0,⟨#[]⟩⟩⟩
def cU (v:Vl):Bool:=if v.num=true then decide (v.s=⟨#[]⟩)else decide (v.n=0)&&decide (v.s.size≤60)
def xX (v:Vl):List UInt8:=if v.num=true then 1::dX (vY v.n)else 2::(dX v.s.size++cF v.s)
def jW:List UInt8→Vl×Nat×Nat
 | []=>(default,0,3)
 | k::s=>if k≠1∧k≠2 then(default,0,2)else
  if(l9 s).2.2≠0 then(default,0,(l9 s).2.2)else
  if k=1 then(⟨true,kH (l9 s).1,⟨#[]⟩⟩,(l9 s).2.1+1,0)else
  if 60<(l9 s).1 then(default,0,2)else
  if s.length<(l9 s).2.1+(l9 s).1 then(default,0,3)else
  (⟨false,0,bQ ((s.drop (l9 s).2.1).take (l9 s).1)⟩,(l9 s).2.1+1+(l9 s).1,0)
theorem Gp {v:Vl} (r:List UInt8) (h:cU v=true) (h1 : -9223372036854775808≤v.n) (h2:v.n≤9223372036854775807):jW (xX v++r)=(v,(xX v).length,0):=by
 obtain⟨m,n,s⟩:=v
 cases m with
 | true=>
  have hs:s=⟨#[]⟩:=by simpa[cU]using h
  subst hs
  simp only[xX,if_true,List.cons_append,jW]
  rw[yM r (tU h1 h2)]
  simp[KG]
 | false=>
  have hs:n=0∧s.size≤60:=by simpa[cU]using h
  obtain⟨rfl,hs⟩:=hs
  simp only[xX,Bool.false_eq_true,if_false,List.cons_append,List.append_assoc,jW]
  rw[yM (cF s++r) (by omega)]
  have hl:=m8 s
  have e1:List.take s.size ((dX s.size++(cF s++r)).drop (dX s.size).length)=cF s:=by
   rw[List.drop_left,←hl,List.take_left]
  rw[if_neg (by decide),if_neg (fun h=>h rfl),if_neg (by decide),if_neg (by simp only;omega),if_neg (by simp only[List.length_append];omega)]
  refine Prod.ext ?_ (Prod.ext ?_ rfl)
  ·simp only[e1,jZ]
  ·simp only[List.length_cons,List.length_append];omega
structure Fd where
 name:ByteArray
 v:Vl
 deriving DecidableEq
instance:Inhabited Fd:=⟨⟨⟨#[]⟩,default⟩⟩
structure Ev where
 topic:ByteArray
 producer:ByteArray
 seq:Int
 l:List Fd
instance:Inhabited Ev:=⟨⟨⟨#[]⟩,⟨#[]⟩,0,[]⟩⟩
def kT (s:ByteArray):List UInt8:=dX s.size++cF s
def Gi (f:Fd):List UInt8:=kT f.name++xX f.v
def iX:List Fd→List UInt8
 | []=>[]
 | f::l=>Gi f++iX l
def eM (e:Ev):List UInt8:=kT e.topic++(kT e.producer++(dX e.seq.toNat++(dX e.l.length++iX e.l)))
structure Rd where
 rest:List UInt8
 at_:Nat
 err:Nat
def Rd.num (r:Rd) (most:Nat):Nat×Rd:=if r.err≠0 then(0,r)else
 if(l9 r.rest).2.2≠0 then(0,{ r with err:=(l9 r.rest).2.2 })else
 if most<(l9 r.rest).1 then(0,{ r with err:=2 })else((l9 r.rest).1,⟨r.rest.drop (l9 r.rest).2.1,r.at_+(l9 r.rest).2.1,0⟩)
def Rd.short (r:Rd) (n:Nat):Rd:=if r.err=0∧r.rest.length<n then { r with err:=3 } else r
def Rd.cut (r:Rd) (n:Nat):ByteArray×Rd:=if r.err≠0 then(⟨#[]⟩,r)else(bQ (r.rest.take n),⟨r.rest.drop n,r.at_+n,0⟩)
def Rd.text (r:Rd) (most:Nat):ByteArray×Rd:=((r.num most).2.short (r.num most).1).cut (r.num most).1
def Rd.value (r:Rd):Vl×Rd:=if r.err≠0 then(default,r)else((jW r.rest).1,⟨r.rest.drop (jW r.rest).2.1,r.at_+(jW r.rest).2.1,(jW r.rest).2.2⟩)
def Rd.field (r:Rd):Fd×Rd:=(⟨(r.text 16).1,((r.text 16).2.value).1⟩,((r.text 16).2.value).2)
def Rd.fields:Nat→Rd→List Fd×Rd
 | 0,r=>([],r)
 | n+1,r=>(r.field.1::(Rd.fields n r.field.2).1,(Rd.fields n r.field.2).2)
theorem Rd.num_pack {n most:Nat} (r:List UInt8) (a:Nat) (h:n≤most) (h2:n<2^64):Rd.num ⟨dX n++r,a,0⟩ most=(n,⟨r,a+(dX n).length,0⟩):=by
 unfold Rd.num
 simp only[yM r h2]
 rw[if_neg (fun h=>h rfl),if_neg (fun h=>h rfl),if_neg (by omega),List.drop_left]
theorem Rd.text_lay {s:ByteArray} {most:Nat} (r:List UInt8) (a:Nat) (h:s.size≤most) (h2:most<2^64):Rd.text ⟨kT s++r,a,0⟩ most=(s,⟨r,a+(kT s).length,0⟩):=by
 unfold Rd.text kT
 rw[List.append_assoc,Rd.num_pack _ _ h (by omega)]
 have hl:=m8 s
 simp only[Rd.short]
 rw[if_neg (by rintro⟨_,h3⟩;simp only[List.length_append]at h3;omega)]
 simp only[Rd.cut]
 rw[if_neg (fun h=>h rfl)]
 refine Prod.ext ?_ ?_
 ·simp only;rw[←hl,List.take_left,jZ]
 ·simp only[Rd.mk.injEq,List.length_append]
  refine⟨?_,by omega,trivial⟩
  rw[←hl,List.drop_left]
def LY (v:Vl):Prop:=cU v=true ∧ -9223372036854775808≤v.n∧v.n≤9223372036854775807
theorem Rd.value_lay {v:Vl} (r:List UInt8) (a:Nat) (h:LY v):Rd.value ⟨xX v++r,a,0⟩=(v,⟨r,a+(xX v).length,0⟩):=by
 unfold Rd.value
 simp only[Gp r h.1 h.2.1 h.2.2]
 rw[if_neg (fun h=>h rfl),List.drop_left]
theorem Rd.field_lay {f:Fd} (r:List UInt8) (a:Nat) (h:f.name.size≤16) (hv:LY f.v):Rd.field ⟨Gi f++r,a,0⟩=(f,⟨r,a+(Gi f).length,0⟩):=by
 unfold Rd.field Gi
 rw[List.append_assoc,Rd.text_lay _ _ h (by decide)]
 simp only[Rd.value_lay r _ hv,List.length_append]
 simp only[Nat.add_assoc]
theorem Rd.fields_lay:∀(l:List Fd) (r:List UInt8) (a:Nat),(∀f∈l,f.name.size≤16∧LY f.v)→Rd.fields l.length ⟨iX l++r,a,0⟩=(l,⟨r,a+(iX l).length,0⟩)
 | [],r,a,_=>by simp[Rd.fields,iX]
 | f::l,r,a,h=>by
  have hf:=h f List.mem_cons_self
  simp only[List.length_cons,Rd.fields,iX,List.append_assoc]
  rw[Rd.field_lay _ _ hf.1 hf.2]
  simp only[Rd.fields_lay l r _ (fun g hg=>h g (List.mem_cons_of_mem _ hg)),List.length_append,Nat.add_assoc]
def mT (s:List UInt8):Ev×Rd:=
 let t:=Rd.text ⟨s,0,0⟩ 40
 let p:=t.2.text 16
 let q:=p.2.num 18446744073709551615
 let n:=q.2.num 8
 let f:=Rd.fields n.1 n.2
 (⟨t.1,p.1,q.1,f.1⟩,f.2)
theorem Ja {e:Ev} (h1:e.topic.size≤40) (h2:e.producer.size≤16) (h3:0≤e.seq) (h4:e.seq≤18446744073709551615) (h5:e.l.length≤8) (h6:∀f∈e.l,f.name.size≤16∧LY f.v):
  mT (eM e)=(e,⟨[],(eM e).length,0⟩):=by
 unfold mT eM
 simp only
 rw[Rd.text_lay _ _ h1 (by decide)]
 simp only
 rw[Rd.text_lay _ _ h2 (by decide)]
 simp only
 rw[Rd.num_pack _ _ (by omega) (by omega)]
 simp only
 rw[Rd.num_pack _ _ h5 (by omega)]
 simp only
 have:=Rd.fields_lay e.l [] (0+(kT e.topic).length+(kT e.producer).length+(dX e.seq.toNat).length+(dX e.l.length).length) h6
 rw[List.append_nil]at this
 rw[this]
 refine Prod.ext ?_ ?_
 ·simp only
  rw[Int.toNat_of_nonneg h3]
 ·simp only[Rd.mk.injEq,true_and,and_true,List.length_append]
  omega
theorem tR {s:ByteArray} (h:s.size≤60):(kT s).length≤s.size+1:=by
 unfold kT
 have:=qX (n:=s.size) 0 (by omega)
 have hl:=m8 s
 rw[List.length_append];omega
theorem Dx {v:Vl} (h:LY v):(xX v).length≤62:=by
 obtain⟨m,n,s⟩:=v
 obtain⟨h1,h2,h3⟩:=h
 simp only at h2 h3
 cases m with
 | true=>
  have:=dS (tU h2 h3)
  simp only[xX,if_true,List.length_cons];omega
 | false=>
  have hs:n=0∧s.size≤60:=by simpa[cU]using h1
  have:=qX (n:=s.size) 0 (by omega)
  have hl:=m8 s
  simp only[xX,Bool.false_eq_true,if_false,List.length_cons,List.length_append];omega
theorem vB:∀{l:List Fd},(∀f∈l,f.name.size≤16∧LY f.v)→(iX l).length≤79*l.length
 | [],_=>by simp[iX]
 | f::l,h=>by
  have hf:=h f List.mem_cons_self
  have h1:=tR (s:=f.name) (by omega)
  have h2:=Dx hf.2
  have h3:=vB (fun g hg=>h g (List.mem_cons_of_mem _ hg))
  simp only[iX,Gi,List.length_append,List.length_cons]
  omega
theorem Jl {e:Ev} (h1:e.topic.size≤40) (h2:e.producer.size≤16) (h3:0≤e.seq) (h4:e.seq≤18446744073709551615) (h5:e.l.length≤8) (h6:∀f∈e.l,f.name.size≤16∧LY f.v):(eM e).length≤800:=by
 have a:=tR (s:=e.topic) (by omega)
 have b:=tR (s:=e.producer) (by omega)
 have c:=dS (n:=e.seq.toNat) (by omega)
 have d:=qX (n:=e.l.length) 0 (by omega)
 have f:=vB h6
 unfold eM
 simp only[List.length_append]
 omega
end Go.Vc

namespace Go.Vc
open Go.Proofs
set_option maxRecDepth 100000
def s6:MC→List RD
 | .reg _ v k r=>[⟨k,r,[],0,v,none⟩]
 | .alt a b=>s6 a++s6 b
 | .seq a b=>s6 a++s6 b
 | .cond _ a b=>s6 a++s6 b
 | .block _ b=>s6 b
 | .loop b=>s6 b
 | _=>[]
def OH (i:Nat) (d:RD):List (Nat×List (Nat×Nat)×Nat)→RD
 | []=>d
 | q::p=>if q.1==i then { d with steps:=q.2.1,calm:=q.2.2 } else OH i d p
def OJ (l:List RD) (p:List (Nat×List (Nat×Nat)×Nat)):Nat→List Nat→List (Nat×RD)
 | _,[]=>[]
 | i,j::js=>(i,OH i (l.getD j default) p)::OJ l p (i+1) js
def rz (g:List (Nat×RD)) (p:List (Nat×List (Nat×Nat)×Nat)) (ix:List Nat) (m:MC):List (Nat×RD):=g++OJ (s6 m) p 0 ix
def rn (g:List (Nat×RD)) (p:List (Nat×List (Nat×Nat)×Nat)) (n:Nat) (m:MC):List (Nat×RD):=rz g p (List.range n) m

structure Cd (f:FuncId) (n:Nat) (rvs:List RV) (m:MC):Prop where
 ex:∃(fn:Func) (owns:List Nat) (rd:List (Nat×RD)),Tryz.prog.funcs[f]?=some fn∧(fn.name == "runtime.NumGoroutine")=false∧fn.body=some (fn.body.getD .skip)∧bX Tryz.prog owns fn.ntmps rd (fn.body.getD .skip)=some m∧kD Tryz.prog fn.results.toList=some rvs∧fn.ntmps=n∧n≤100000
theorem cO {f n:Nat} {rvs:List RV} {m:MC} {fn:Func} (owns:List Nat) (rd:List (Nat×RD)) (hf:Tryz.prog.funcs[f]?=some fn) (hc:bX Tryz.prog owns fn.ntmps rd (fn.body.getD .skip)=some m) (hn:fn.ntmps=n)
  (h2:(fn.name == "runtime.NumGoroutine")=false:=by decide) (hb:fn.body=some (fn.body.getD .skip):=by rfl) (hr:kD Tryz.prog fn.results.toList=some rvs:=by kernel_rfl) (hs:n≤100000:=by decide):Cd f n rvs m:=⟨fn,owns,rd,hf,h2,hb,hc,hr,hn,hs⟩
theorem OM:Tryz.prog.follows .mixedOrders=true:=by kernel_rfl
theorem Cd.r {f n:Nat} {rvs:List RV} {m:MC} (c:Cd f n rvs m) {args:List PV} {v:AV} {rs:List (Nat×List PV)} (ids:List Bool) (h:args.length≤n) (hv:run Tryz.prog (uL rvs ids v rs) m [] ⟨entry 0 args,[]⟩):Fn Tryz.prog f args v rs:=by
 obtain⟨fn,owns,rd,h1,h2,h3,h4,h5,rfl,h7⟩:=c.ex
 exact Oz ids OM h1 h2 h3 h4 h5 h h7 hv
theorem Cd.s {f n:Nat} {rvs:List RV} {m:MC} (c:Cd f n rvs m) {args:List AV} {st st':List (Nat×Row)} {v:AV} (h:args.length≤n) (hk:(st'.map (·.1)).Nodup) (hv:run Tryz.prog (CJ rvs v st') m [] ⟨fY 0 args,st⟩):j4 Tryz.prog f args st v st':=by
 obtain⟨fn,owns,rd,h1,h2,h3,h4,h5,rfl,h7⟩:=c.ex
 exact Ge OM h1 h2 h3 h4 h5 h h7 hk hv
end Go.Vc

namespace Go.Vc
open Go.Proofs
set_option maxRecDepth 100000
def M187:MC:=(.seq (.reg [kI 2 0] [] [0] []) (.seq (.seq (.reg [mi 3 0,qi 4 (.bin .and (.t 3) (.c (.int .u64 1))),qi 5 (.bin .eql (.t 4) (.c (.int .u64 0)))] [] [0,5] []) (.cond (.t 5) (.seq (.reg [mi 6 0,qi 7 (.shf false (.t 6) (.c (.int .u64 1))),qi 8 (.conv .i64 (.t 7)),mi 2 8] [] [2] []) .ret) .skip)) (.seq (.reg [mi 9 0,qi 10 (.shf false (.t 9) (.c (.int .u64 1))),qi 11 (.conv .i64 (.t 10)),qi 12 (.bin .sub (ic 0) (.t 11)),oJ 13 .sub 12 1,mi 2 13] [] [2] []) .ret)))
theorem c187:Cd 187 14 [RV.tmp 2] M187:=cO [] (rn [] [] 4 M187) Tryz.func187 (by kernel_rfl) Tryz.ntmps187
def M189:MC:=(.seq (.reg [qi 2 (.mv (.c (.int .u64 0)))] [] [0] []) (.seq (.seq (.reg [mi 3 0,oJ 4 .geq 3 0] [] [0,4] []) (.cond (.t 4) (.seq (.reg [mi 5 0,qi 6 (.conv .u64 (.t 5)),qi 7 (.shf true (.t 6) (.c (.int .u64 1))),mi 2 7] [] [2] []) .ret) .skip)) (.seq (.reg [mi 8 0,oJ 9 .add 8 1,qi 10 (.bin .sub (ic 0) (.t 9)),qi 11 (.conv .u64 (.t 10)),qi 12 (.shf true (.t 11) (.c (.int .u64 1))),qi 13 (.bin .add (.t 12) (.c (.int .u64 1))),mi 2 13] [] [2] []) .ret)))
theorem c189:Cd 189 14 [RV.tmp 2] M189:=cO [] (rn [] [] 4 M189) Tryz.func189 (by kernel_rfl) Tryz.ntmps189
def B140_0:MC:=(.seq (.reg [oI 12 .lss 11 10] [] [0,5,10,11,12] []) (.seq (.cond (.t 12) .skip (.exit 0)) (.seq (.block 1 (.seq (.reg [mi 13 11,mi 6 13] [] [0,5,6,10,11] []) (.seq (.reg [mi 14 0,mi 15 6,qi 16 (.idx (.t 14) (.t 15)),mi 7 16] [] [0,5,6,7,10,11] []) (.seq (.reg [mi 17 5,mi 18 7,qi 19 (.bin .and (.t 18) (.c (.int .u8 127))),qi 20 (.conv .u64 (.t 19)),mi 21 6,qi 22 (.bin .mul (ic 7) (.t 21)),qi 23 (.shw (.t 20) (.t 22)),oI 24 .or 17 23,mi 5 24] [] [0,5,6,7,10,11] []) (.seq (.seq (.reg [mi 25 7,qi 26 (.bin .geq (.t 25) (.c (.int .u8 128)))] [] [0,5,6,7,10,11,26] []) (.cond (.t 26) (.exit 1) .skip)) (.seq (.seq (.reg [mi 27 7,qi 28 (.bin .eql (.t 27) (.c (.int .u8 0))),mi 29 28,gT 30 29 (.mv (.t 6)),gT 31 29 (.bin .gtr (.t 30) (ic 0)),qi 32 (.pick (.t 29) (.t 31) (.c (.bool false))),mi 33 32,gF 34 33 (.mv (.t 6)),gF 35 33 (.bin .eql (.t 34) (ic 9)),gF 36 33 (.mv (.t 35)),gT 37 36 (.mv (.t 7)),gT 38 36 (.bin .gtr (.t 37) (.c (.int .u8 1))),gF 39 33 (.pick (.t 36) (.t 38) (.c (.bool false))),qi 40 (.pick (.t 33) (.c (.bool true)) (.t 39))] [] [5,6,40] []) (.cond (.t 40) (.seq (.reg [qi 2 (.mv (.c (.int .u64 0))),kI 3 0,kI 4 2] [] [2,3,4] []) .ret) .skip)) (.seq (.reg [mi 41 5,mi 42 6,oJ 43 .add 42 1,mi 2 41,mi 3 43,kI 4 0] [] [2,3,4] []) .ret))))))) (.reg [oJ 44 .add 11 1,mi 11 44] [] [0,5,10,11] []))))
def R140_0:MC:=(.seq (.seq (.reg [mi 45 0,nI 46 45 true,oJ 47 .lss 46 10] [] [47] []) (.cond (.t 47) (.seq (.reg [qi 2 (.mv (.c (.int .u64 0))),kI 3 0,kI 4 3] [] [2,3,4] []) .ret) .skip)) (.seq (.reg [qi 2 (.mv (.c (.int .u64 0))),kI 3 0,kI 4 2] [] [2,3,4] []) .ret))
def M140:MC:=(.seq (.reg [qi 2 (.mv (.c (.int .u64 0))),kI 3 0,kI 4 0] [] [0] []) (.seq (.reg [qi 5 (.mv (.c (.int .u64 0)))] [] [0,5] []) (.seq (.seq (.reg [mi 8 0,nI 9 8 true,qi 10 (.mm false (.t 9) (ic 10)),kI 11 0] [] [0,5,10,11] []) (.block 0 (.loop B140_0))) R140_0)))
theorem c140:Cd 140 48 [RV.tmp 2,RV.tmp 3,RV.tmp 4] M140:=cO [23] (rn [] [] 15 M140) Tryz.func140 (by kernel_rfl) Tryz.ntmps140
def M144:MC:=(.seq (.reg [vI 1 0,qi 2 (.mv (.c (.string ⟨#[]⟩))),kI 3 0] [] [1] [1]) (.seq (.seq (.reg [lI 4 1 3,cI 5 75 [.t 4],qi 6 (.not (.t 5))] [] [1,6] [1,1005]) (.cond (.t 6) (.seq (.reg [qi 2 (.mv (.c (.string ⟨#[]⟩))),kI 3 1] [] [2,3] [1014,1022]) .ret) .skip)) (.seq (.seq (.reg [fI 7 1 0,lJ 8 7 1] [] [1,8] [1]) (.cond (.t 8) (.seq (.seq (.grp [1013,1014] [⟨9,none,.lits [.c (.int .u8 1)] 1,[],[]⟩,⟨10,none,.q (.sob (.t 9)),[9],[]⟩,⟨11,none,.q (.fa (.t 1) 1),[1],[1]⟩,⟨12,none,.q (.ld (.t 11) 1 false),[11],[1]⟩,⟨13,none,.call (.f 189) [.t 12],[12],[]⟩,⟨14,none,.call (.f 26) [.t 13],[13],[1013]⟩,⟨15,none,.q (.bin .add (.t 10) (.t 14)),[10,14],[1014]⟩,⟨2,none,.q (.mv (.t 15)),[15],[1014]⟩,⟨3,none,.q (.mv (ic 0)),[],[]⟩] [2,3] [1014,1022]) (.reg [] [] [2,3] [1014,1022])) .ret) .skip)) (.seq (.seq (.grp [1022] [⟨16,none,.lits [.c (.int .u8 2)] 1,[],[]⟩,⟨17,none,.q (.sob (.t 16)),[16],[]⟩,⟨18,none,.q (.fa (.t 1) 2),[1],[1]⟩,⟨19,none,.q (.ld (.t 18) 1 false),[18],[1]⟩,⟨20,none,.q (.len (.t 19) true),[19],[]⟩,⟨21,none,.q (.conv .u64 (.t 20)),[20],[]⟩,⟨22,none,.call (.f 26) [.t 21],[21],[]⟩,⟨23,none,.q (.bin .add (.t 17) (.t 22)),[17,22],[1022]⟩,⟨24,none,.q (.fa (.t 1) 2),[1],[1]⟩,⟨25,none,.q (.ld (.t 24) 1 false),[24],[1]⟩,⟨26,none,.q (.bin .add (.t 23) (.t 25)),[23,25],[1022]⟩,⟨2,none,.q (.mv (.t 26)),[26],[1022]⟩,⟨3,none,.q (.mv (ic 0)),[],[]⟩] [2,3] [1014,1022]) (.reg [] [] [2,3] [1014,1022])) .ret))))
theorem c144:Cd 144 27 [RV.tmp 2,RV.tmp 3] M144:=cO [] (rz [(4,⟨[2,3],[1014,1022],[],511,[],some ⟨[1013,1014],[(0,[],[]),(1,[9],[]),(2,[1],[1]),(3,[11],[1]),(4,[12],[]),(5,[13],[1013]),(6,[10,14],[1014]),(7,[15],[1014]),(8,[],[])],[2,3],[1014,1022]⟩⟩),(5,⟨[2,3],[1014,1022],[],8191,[],some ⟨[1022],[(0,[],[]),(1,[16],[]),(2,[1],[1]),(3,[18],[1]),(4,[19],[]),(5,[20],[]),(6,[21],[]),(7,[17,22],[1022]),(8,[1],[1]),(9,[24],[1]),(10,[23,25],[1022]),(11,[26],[1022]),(12,[],[])],[2,3],[1014,1022]⟩⟩)] [] [0,1,2,3,0,0] M144) Tryz.func144 (by kernel_rfl) Tryz.ntmps144
def M141:MC:=(.seq (.reg [aI 2 [.pv (.sc (.bool false)),.pv (.sc (.int .i64 0)),.pv (.sc (.string ⟨#[]⟩))],kI 3 0,kI 4 0] [] [0,2] [2,1025,1038]) (.seq (.seq (.reg [mi 10 0,qi 11 (.bin .eql (.t 10) (.c (.string ⟨#[]⟩)))] [] [0,2,11] [2,1025,1038]) (.cond (.t 11) (.seq (.reg [qi 12 (.mk [.pv (.sc (.bool false)),.pv (.sc (.int .i64 0)),.pv (.sc (.string ⟨#[]⟩))] []),⟨none,none,.st (.t 2) (.t 12) 3⟩,kI 3 0,kI 4 3] [] [2,3,4] [2,1025,1038]) .ret) .skip)) (.seq (.reg [mi 13 0,qi 14 (.idx (.t 13) (ic 0)),mi 5 14] [] [0,2,5] [2,1025,1038]) (.seq (.seq (.reg [mi 15 5,qi 16 (.bin .neq (.t 15) (.c (.int .u8 1))),mi 17 16,gT 18 17 (.mv (.t 5)),gT 19 17 (.bin .neq (.t 18) (.c (.int .u8 2))),qi 20 (.pick (.t 17) (.t 19) (.c (.bool false)))] [] [0,2,5,20] [2,1025,1038]) (.cond (.t 20) (.seq (.reg [qi 21 (.mk [.pv (.sc (.bool false)),.pv (.sc (.int .i64 0)),.pv (.sc (.string ⟨#[]⟩))] []),⟨none,none,.st (.t 2) (.t 21) 3⟩,kI 3 0,kI 4 2] [] [2,3,4] [2,1025,1038]) .ret) .skip)) (.seq (.reg [mi 23 0,qi 24 (.slc (.t 23) (some (ic 1)) none 0 true),cI 25 140 [.t 24],mi 22 25,xI 26 22 0,xI 27 22 1,xI 28 22 2,mi 6 26,mi 7 27,mi 8 28] [] [0,2,5,6,7,8] [2,1025,1038]) (.seq (.seq (.reg [mi 29 8,oJ 30 .neq 29 0] [] [0,2,5,6,7,8,30] [2,1025,1038]) (.cond (.t 30) (.seq (.reg [qi 31 (.mk [.pv (.sc (.bool false)),.pv (.sc (.int .i64 0)),.pv (.sc (.string ⟨#[]⟩))] []),mi 32 8,⟨none,none,.st (.t 2) (.t 31) 3⟩,kI 3 0,mi 4 32] [] [2,3,4] [2,1025,1038]) .ret) .skip)) (.seq (.reg [mi 33 7,oJ 34 .add 33 1,mi 7 34] [] [0,2,5,6,7] [2,1025,1038]) (.seq (.seq (.reg [mi 35 5,qi 36 (.bin .eql (.t 35) (.c (.int .u8 1)))] [] [0,2,6,7,36] [2,1025,1038]) (.cond (.t 36) (.seq (.reg [mi 37 6,cI 38 187 [.t 37],qi 39 (.mk [.pv (.sc (.bool false)),.pv (.sc (.int .i64 0)),.pv (.sc (.string ⟨#[]⟩))] [(0,1,(.c (.bool true))),(1,1,(.t 38))]),mi 40 7,⟨none,none,.st (.t 2) (.t 39) 3⟩,mi 3 40,kI 4 0] [] [2,3,4] [2,1025,1038]) .ret) .skip)) (.seq (.seq (.reg [mi 41 6,qi 42 (.bin .gtr (.t 41) (.c (.int .u64 60)))] [] [0,2,6,7,42] [2,1025,1038]) (.cond (.t 42) (.seq (.reg [qi 43 (.mk [.pv (.sc (.bool false)),.pv (.sc (.int .i64 0)),.pv (.sc (.string ⟨#[]⟩))] []),⟨none,none,.st (.t 2) (.t 43) 3⟩,kI 3 0,kI 4 2] [] [2,3,4] [2,1025,1038]) .ret) .skip)) (.seq (.reg [mi 44 7,mi 45 6,qi 46 (.conv .i64 (.t 45)),oI 47 .add 44 46,mi 9 47] [] [0,2,7,9] [2,1025,1038]) (.seq (.seq (.reg [mi 48 9,mi 49 0,nI 50 49 true,oI 51 .gtr 48 50] [] [0,2,7,9,51] [2,1025,1038]) (.cond (.t 51) (.seq (.reg [qi 52 (.mk [.pv (.sc (.bool false)),.pv (.sc (.int .i64 0)),.pv (.sc (.string ⟨#[]⟩))] []),⟨none,none,.st (.t 2) (.t 52) 3⟩,kI 3 0,kI 4 3] [] [2,3,4] [2,1025,1038]) .ret) .skip)) (.seq (.reg [mi 53 0,mi 54 7,mi 55 9,qi 56 (.slc (.t 53) (some (.t 54)) (some (.t 55)) 0 true),qi 57 (.mk [.pv (.sc (.bool false)),.pv (.sc (.int .i64 0)),.pv (.sc (.string ⟨#[]⟩))] [(2,1,(.t 56))]),mi 58 9,⟨none,none,.st (.t 2) (.t 57) 3⟩,mi 3 58,kI 4 0] [] [2,3,4] [2,1025,1038]) .ret))))))))))))
theorem c141:Cd 141 59 [RV.cell 2 3 true,RV.tmp 3,RV.tmp 4] M141:=cO [] (rn [] [] 18 M141) Tryz.func141 (by kernel_rfl) Tryz.ntmps141
end Go.Vc

namespace Go.Vc
open Go.Proofs
set_option maxRecDepth 100000
def M75:MC:=(.seq (.reg [vI 1 0,bI 2 false] [] [1] [1]) (.seq (.seq (.reg [fI 3 1 0,lJ 4 3 1] [] [1,4] [1]) (.cond (.t 4) (.seq (.reg [fI 5 1 2,lJ 6 5 1,qi 7 (.bin .eql (.t 6) (.c (.string ⟨#[]⟩))),mi 2 7] [] [2] []) .ret) .skip)) (.seq (.reg [fI 8 1 1,lJ 9 8 1,oJ 10 .eql 9 0,mi 11 10,gT 12 11 (.fa (.t 1) 2),gT 13 11 (.ld (.t 12) 1 false),gT 14 11 (.len (.t 13) true),gT 15 11 (.bin .leq (.t 14) (ic 60)),qi 16 (.pick (.t 11) (.t 15) (.c (.bool false))),mi 2 16] [] [2] []) .ret)))
theorem c75:Cd 75 17 [RV.tmp 2] M75:=cO [] (rn [] [] 4 M75) Tryz.func75 (by kernel_rfl) Tryz.ntmps75
def M71:MC:=(.seq (.reg [bI 2 false] [] [0] []) (.seq (.reg [mi 3 0,nI 4 3 true,oJ 5 .leq 4 16,mi 6 5,gT 7 6 (.mv (.t 0)),⟨some 8,some (6,true),.call (.f 128) [.t 7,.c (.string ⟨#[46]⟩)]⟩,gT 9 6 (.not (.t 8)),qi 10 (.pick (.t 6) (.t 9) (.c (.bool false))),mi 11 10,gT 12 11 (.mv (.t 0)),⟨some 13,some (11,true),.call (.f 78) [.t 12]⟩,qi 14 (.pick (.t 11) (.t 13) (.c (.bool false))),mi 2 14] [] [2] [1008,1013]) .ret))
theorem c71:Cd 71 15 [RV.tmp 2] M71:=cO [] (rn [] [] 2 M71) Tryz.func71 (by kernel_rfl) Tryz.ntmps71
def M128:MC:=(.seq (.reg [bI 4 false] [] [0,1] []) (.seq (.reg [mi 5 0,mi 6 1,cI 7 177 [.t 5,.t 6],oJ 8 .geq 7 0,mi 4 8] [] [4] [1007]) .ret))
theorem c128:Cd 128 9 [RV.tmp 4] M128:=cO [] (rn [] [] 2 M128) Tryz.func128 (by kernel_rfl) Tryz.ntmps128
def B26_0:MC:=(.seq (.seq (.reg [mi 5 0,qi 6 (.bin .geq (.t 5) (.c (.int .u64 128)))] [] [0,3,6] [4,12]) (.cond (.t 6) .skip (.exit 0))) (.block 1 (.seq (.reg [mi 7 3,mi 8 0,qi 9 (.cvw .u8 (.t 8)),qi 10 (.bin .or (.t 9) (.c (.int .u8 128))),⟨some 11,none,.lits [.t 10] 1⟩,⟨some 12,none,.app (.t 7) (.t 11) 1 1⟩,mi 3 12] [] [0,3] [4,12]) (.reg [mi 13 0,qi 14 (.shf false (.t 13) (.c (.int .u64 7))),mi 0 14] [] [0,3] [4,12]))))
def R26_0:MC:=(.seq (.reg [mi 15 3,mi 16 0,qi 17 (.cvw .u8 (.t 16)),⟨some 18,none,.lits [.t 17] 1⟩,⟨some 19,none,.app (.t 15) (.t 18) 1 1⟩,qi 20 (.sob (.t 19)),mi 2 20] [] [2] [4,12,19]) .ret)
def M26:MC:=(.seq (.reg [qi 2 (.mv (.c (.string ⟨#[]⟩)))] [] [0] []) (.seq (.reg [⟨some 4,none,.mks (ic 0) (ic 10) 1 1 (.sc (.int .u8 0))⟩,mi 3 4] [] [0,3] [4,12]) (.seq (.block 0 (.loop B26_0)) R26_0)))
theorem c26:Cd 26 21 [RV.tmp 2] M26:=cO [9,17] (rn [] [] 6 M26) Tryz.func26 (by kernel_rfl) Tryz.ntmps26
def B25_0:MC:=(.seq (.reg [oI 19 .lss 18 17] [] [1,4,17,18,19] [1,35,42]) (.seq (.cond (.t 19) .skip (.exit 0)) (.seq (.block 1 (.seq (.reg [mi 20 18,mi 5 20] [] [1,4,5,17,18] [1,35,42]) (.seq (.seq (.reg [fI 21 1 2,lJ 22 21 1,mi 23 5,qi 24 (.idx (.t 22) (.t 23)),qi 25 (.bin .eql (.t 24) (.c (.int .u8 34))),mi 26 25,gF 27 26 (.fa (.t 1) 2),gF 28 26 (.ld (.t 27) 1 false),gF 29 26 (.mv (.t 5)),gF 30 26 (.idx (.t 28) (.t 29)),gF 31 26 (.bin .eql (.t 30) (.c (.int .u8 92))),qi 32 (.pick (.t 26) (.c (.bool true)) (.t 31))] [] [1,4,5,17,18,32] [1,35,42]) (.cond (.t 32) (.reg [mi 33 4,⟨some 34,none,.lits [.c (.int .u8 92)] 1⟩,⟨some 35,none,.app (.t 33) (.t 34) 1 1⟩,mi 4 35] [] [1,4,5,17,18] [1,35,42]) .skip)) (.reg [mi 36 4,fI 37 1 2,lJ 38 37 1,mi 39 5,qi 40 (.idx (.t 38) (.t 39)),⟨some 41,none,.lits [.t 40] 1⟩,⟨some 42,none,.app (.t 36) (.t 41) 1 1⟩,mi 4 42] [] [1,4,17,18] [1,35,42])))) (.reg [oJ 43 .add 18 1,mi 18 43] [] [1,4,17,18] [1,35,42]))))
def R25_0:MC:=(.seq (.reg [mi 44 4,⟨some 45,none,.lits [.c (.int .u8 34)] 1⟩,⟨some 46,none,.app (.t 44) (.t 45) 1 1⟩,qi 47 (.sob (.t 46)),mi 2 47,kI 3 0] [] [2,3] [35,42,46,1013]) .ret)
def M25:MC:=(.seq (.reg [vI 1 0,qi 2 (.mv (.c (.string ⟨#[]⟩))),kI 3 0] [] [1] [1]) (.seq (.seq (.reg [lI 6 1 3,cI 7 75 [.t 6],qi 8 (.not (.t 7))] [] [1,8] [1,1007]) (.cond (.t 8) (.seq (.reg [qi 2 (.mv (.c (.string ⟨#[]⟩))),kI 3 1] [] [2,3] [35,42,46,1013]) .ret) .skip)) (.seq (.seq (.reg [fI 9 1 0,lJ 10 9 1] [] [1,10] [1]) (.cond (.t 10) (.seq (.reg [fI 11 1 1,lJ 12 11 1,cI 13 76 [.t 12,.c (.int .i64 10)],mi 2 13,kI 3 0] [] [2,3] [35,42,46,1013]) .ret) .skip)) (.seq (.reg [⟨some 14,none,.lits [.c (.int .u8 34)] 1⟩,mi 4 14] [] [1,4] [1,35,42]) (.seq (.seq (.reg [fI 15 1 2,lJ 16 15 1,nI 17 16 true,kI 18 0] [] [1,4,17,18] [1,35,42]) (.block 0 (.loop B25_0))) R25_0)))))
theorem c25:Cd 25 48 [RV.tmp 2,RV.tmp 3] M25:=cO [] (rn [] [] 14 M25) Tryz.func25 (by kernel_rfl) Tryz.ntmps25
def M8:MC:=(.seq (.reg [bI 0 false] [] [] []) (.seq (.reg [qi 4 (.mk [.pv (.sc (.bool false)),.pv (.sc (.int .i64 0)),.pv (.sc (.string ⟨#[]⟩))] [(0,1,(.c (.bool true))),(1,1,(.c (.int .i64 (-7))))]),cI 5 25 [.t 4],mi 3 5,xI 6 3 0,xI 7 3 1,mi 1 6,mi 2 7] [] [1,2] [1005]) (.seq (.reg [cI 8 26 [.c (.int .u64 300)],qi 9 (.bin .eql (.t 8) (.c (.string ⟨#[172,2]⟩))),mi 10 9,gT 11 10 (.mv (.t 1)),gT 12 10 (.bin .eql (.t 11) (.c (.string ⟨#[45,55]⟩))),qi 13 (.pick (.t 10) (.t 12) (.c (.bool false))),mi 14 13,gT 15 14 (.mv (.t 2)),gT 16 14 (.bin .eql (.t 15) (ic 0)),qi 17 (.pick (.t 14) (.t 16) (.c (.bool false))),mi 18 17,⟨some 19,some (18,true),.call (.f 27) [.c (.string ⟨#[97,46,42,42]⟩),.c (.string ⟨#[97,46,98]⟩)]⟩,qi 20 (.pick (.t 18) (.t 19) (.c (.bool false))),mi 0 20] [] [0] [1005,1008,1019]) .ret)))
theorem c8:Cd 8 21 [RV.tmp 0] M8:=cO [] (rn [] [] 3 M8) Tryz.func8 (by kernel_rfl) Tryz.ntmps8
def B85_0:MC:=(.seq (.reg [oI 30 .lss 29 28] [] [1,27,28,29,30] [1]) (.seq (.cond (.t 30) .skip (.exit 0)) (.seq (.block 1 (.seq (.reg [mi 31 29,qi 32 (.ia (.t 27) (.t 29) 4),lI 33 32 4,aI 4 [.pv (.sc (.string ⟨#[]⟩)),.pv (.sc (.bool false)),.pv (.sc (.int .i64 0)),.pv (.sc (.string ⟨#[]⟩))],mi 3 31,⟨none,none,.st (.t 4) (.t 33) 4⟩] [] [1,3,4,27,28,29] [1,4]) (.seq (.reg [fI 34 4 0,lJ 35 34 1,cI 36 71 [.t 35],qi 37 (.not (.t 36)),mi 38 37,gF 39 38 (.fa (.t 4) 1),gF 40 38 (.ld (.t 39) 3 true),⟨some 41,some (38,false),.call (.f 75) [.t 40]⟩,gF 42 38 (.not (.t 41)),qi 43 (.pick (.t 38) (.c (.bool true)) (.t 42)),mi 44 43,gF 45 44 (.mv (.t 3)),gF 46 44 (.bin .gtr (.t 45) (ic 0)),gF 47 44 (.mv (.t 46)),gT 48 47 (.fa (.t 1) 3),gT 49 47 (.ld (.t 48) 1 false),gT 50 47 (.mv (.t 3)),gT 51 47 (.bin .sub (.t 50) (ic 1)),gT 52 47 (.ia (.t 49) (.t 51) 4),gT 53 47 (.fa (.t 52) 0),gT 54 47 (.ld (.t 53) 1 false),gT 55 47 (.fa (.t 4) 0),gT 56 47 (.ld (.t 55) 1 false),gT 57 47 (.bin .geq (.t 54) (.t 56)),gF 58 44 (.pick (.t 47) (.t 57) (.c (.bool false))),qi 59 (.pick (.t 44) (.c (.bool true)) (.t 58))] [] [1,27,28,29,59] [1,1036,1041]) (.cond (.t 59) (.seq (.reg [bI 2 false] [] [2] []) .ret) .skip)))) (.reg [oJ 60 .add 29 1,mi 29 60] [] [1,27,28,29] [1]))))
def R85_0:MC:=(.seq (.reg [bI 2 true] [] [2] []) .ret)
def M85:MC:=(.seq (.reg [vI 1 0,bI 2 false] [] [1] [1]) (.seq (.seq (.reg [fI 5 1 0,lJ 6 5 1,cI 7 78 [.t 6],qi 8 (.not (.t 7)),mi 9 8,gF 10 9 (.fa (.t 1) 1),gF 11 9 (.ld (.t 10) 1 false),⟨some 12,some (9,false),.call (.f 71) [.t 11]⟩,gF 13 9 (.not (.t 12)),qi 14 (.pick (.t 9) (.c (.bool true)) (.t 13)),mi 15 14,gF 16 15 (.fa (.t 1) 2),gF 17 15 (.ld (.t 16) 1 false),gF 18 15 (.bin .lss (.t 17) (.c (.int .u64 1))),qi 19 (.pick (.t 15) (.c (.bool true)) (.t 18)),mi 20 19,gF 21 20 (.fa (.t 1) 3),gF 22 20 (.ld (.t 21) 1 false),gF 23 20 (.len (.t 22) false),gF 24 20 (.bin .gtr (.t 23) (ic 8)),qi 25 (.pick (.t 20) (.c (.bool true)) (.t 24))] [] [1,25] [1,1007,1012]) (.cond (.t 25) (.seq (.reg [bI 2 false] [] [2] []) .ret) .skip)) (.seq (.seq (.reg [fI 26 1 3,lJ 27 26 1,nI 28 27 false,kI 29 0] [] [1,27,28,29] [1]) (.block 0 (.loop B85_0))) R85_0)))
theorem c85:Cd 85 61 [RV.tmp 2] M85:=cO [] (rn [] [(6,[(0,67108863),(1,67108862),(2,0),(3,67108856),(4,67108848),(5,67108832),(6,67108800),(7,0),(8,67108608),(9,67108352),(10,67107840),(11,67106816),(12,67104768),(13,67100672),(14,60604416),(15,60588032),(16,60751872),(17,60686336),(18,60555264),(19,60293120),(20,59768832),(21,65011712),(22,62914560),(23,58720256),(24,50331648),(25,33554432)],67108863)] 10 M85) Tryz.func85 (by kernel_rfl) Tryz.ntmps85
end Go.Vc

namespace Go.Vc
set_option linter.unusedSimpArgs false
set_option linter.unusedVariables false
abbrev Q7 (l:List UInt8):ByteArray:=⟨⟨l⟩⟩
theorem Jf (s:ByteArray):Q7 s.data.toList=s:=by cases s;rfl
abbrev xV:ByteArray:=⟨#[46]⟩
abbrev Gh:ByteArray:=⟨#[42]⟩
abbrev wY:ByteArray:=⟨#[42,42]⟩
def dE (s:ByteArray):Int:=Lib.indexByte s.data.toList 46
def Fy (c:UInt8):List (List UInt8)→List (List UInt8)
 | []=>[[c]]
 | p::ps=>(c::p)::ps
def rL:List UInt8→List (List UInt8)
 | []=>[[]]
 | c::l=>if c=46 then[]::rL l else Fy c (rL l)
theorem F9:∀l,rL l≠[]
 | []=>by simp[rL]
 | c::l=>by
  unfold rL;split
  ·simp
  ·cases h:rL l<;>simp[Fy]
def eS (s:ByteArray):List ByteArray:=(rL s.data.toList).map Q7
theorem LI (s:ByteArray):eS s≠[]:=by simp[eS,F9]
theorem DP (s:ByteArray):0<(eS s).length:=List.length_pos_iff.2 (LI s)
theorem kK:∀(l:List UInt8) (c:UInt8),Lib.indexByte l c = -1∨0≤Lib.indexByte l c∧Lib.indexByte l c<l.length
 | [],_=>.inl rfl
 | b::l,c=>by
  have ih:=kK l c
  simp only[Lib.indexByte]
  split
  ·right;simp only[List.length_cons];omega
  ·split
   ·exact .inl rfl
   ·rename_i h;right
    have:Lib.indexByte l c ≠ -1:=by simpa using h
    simp only[List.length_cons]
    omega
theorem y9 (s:ByteArray):dE s = -1∨0≤dE s∧dE s<s.size:=by
 have:=kK s.data.toList 46
 simpa[dE]using this
theorem Bu:∀l:List UInt8,Lib.indexByte l 46 = -1→rL l=[l]
 | [],_=>rfl
 | b::l,h=>by
  simp only[Lib.indexByte]at h
  split at h
  ·omega
  ·rename_i hb
   have hb':b≠46:=by simpa using hb
   have hl:Lib.indexByte l 46 = -1:=by
    split at h
    ·rename_i h2;simpa using h2
    ·rename_i h2
     have:=kK l 46
     have h3:Lib.indexByte l 46 ≠ -1:=by simpa using h2
     omega
   simp[rL,hb',Bu l hl,Fy]
theorem Bt:∀l:List UInt8,0≤Lib.indexByte l 46→rL l=l.take (Lib.indexByte l 46).toNat::rL (l.drop ((Lib.indexByte l 46).toNat+1))
 | [],h=>by simp[Lib.indexByte]at h
 | b::l,h=>by
  by_cases hb:b=46
  ·subst hb
   have e:Lib.indexByte (46::l) 46=0:=by simp[Lib.indexByte]
   rw[e];simp[rL]
  ·have hb':(b==46)=false:=by simpa using hb
   rcases kK l 46 with h1|h1
   ·simp[Lib.indexByte,hb',h1]at h
   ·have hne:(Lib.indexByte l 46 == -1)=false:=by simp;omega
    have e:Lib.indexByte (b::l) 46=Lib.indexByte l 46+1:=by simp[Lib.indexByte,hb',hne]
    rw[e]
    have e2:(Lib.indexByte l 46+1).toNat=(Lib.indexByte l 46).toNat+1:=by omega
    rw[e2,List.take_succ_cons,List.drop_succ_cons]
    simp only[rL,hb,if_false]
    rw[Bt l h1.1]
    rfl
def rM (s:ByteArray):ByteArray:=if 0≤dE s then s.extract 0 (dE s).toNat else s
def sG (s:ByteArray):ByteArray:=if 0≤dE s then s.extract ((dE s).toNat+1) s.size else⟨#[]⟩
theorem uF (s:ByteArray) (a b:Nat):(s.extract a b).data.toList=(s.data.toList.drop a).take (b-a):=by
 rw[ByteArray.data_extract,Array.toList_extract]
theorem JI {a b:ByteArray} (h:a.data.toList=b.data.toList):a=b:=by
 cases a;cases b;simp only at h;rw[Array.toList_inj.1 h]
theorem Bs {s:ByteArray} (h:¬0≤dE s):eS s=[s]:=by
 have h1:Lib.indexByte s.data.toList 46 = -1:=by rcases y9 s with h2|h2;exact h2;omega
 unfold eS
 rw[Bu _ h1,List.map_cons,List.map_nil,Jf]
theorem Br {s:ByteArray} (h:0≤dE s):eS s=rM s::eS (sG s):=by
 unfold eS
 rw[Bt _ h,List.map_cons]
 have e1:Q7 (s.data.toList.take (Lib.indexByte s.data.toList 46).toNat)=rM s:=JI (by
  unfold rM;rw[if_pos h,uF];simp[dE])
 have e2:(sG s).data.toList=s.data.toList.drop ((Lib.indexByte s.data.toList 46).toNat+1):=by
  unfold sG;rw[if_pos h,uF]
  rw[List.take_of_length_le (by simp[dE])]
  rfl
 rw[e1,e2]
theorem Bv (s:ByteArray):(sG s).size≤s.size:=by
 unfold sG;split
 ·rw[ByteArray.size_extract];omega
 ·exact Nat.zero_le _
def JY (r:Int):Bool:=decide (97≤r∧r≤122)||decide (48≤r∧r≤57)||decide (r=95)
def x6 (s:ByteArray):Bool:=decide (s≠⟨#[]⟩)&&s.data.toList.all (fun b=>JY b.toNat)
def Fq (s:ByteArray):Bool:=decide (s=Gh)||(decide (s=wY)||x6 s)
def BK (may:ByteArray→Bool):Nat→ByteArray→Bool
 | 0,_=>false
 | n+1,s=>may (rM s)&&(!decide (0≤dE s)||BK may n (sG s))
theorem DT (may:ByteArray→Bool):∀n s,BK may n s=(decide ((eS s).length≤n)&&(eS s).all may)
 | 0,s=>by
  have h:¬(eS s).length≤0:=by have:=DP s;omega
  simp only[BK,h,decide_false,Bool.false_and]
 | n+1,s=>by
  simp only[BK]
  by_cases h:0≤dE s
  ·rw[Br h,DT may n]
   simp only[h,decide_true,Bool.not_true,Bool.false_or,List.length_cons,Nat.add_le_add_iff_right,List.all_cons]
   cases may (rM s)<;>simp
  ·have e:rM s=s:=by unfold rM;rw[if_neg h]
   rw[Bs h,e]
   simp[h]
def vV (may:ByteArray→Bool) (s:ByteArray):Bool:=decide (s.size≤40)&&(decide ((eS s).length≤8)&&(eS s).all may)
def nS (s:ByteArray):Bool:=vV x6 s
def rY (s:ByteArray):Bool:=vV Fq s
def mD:List ByteArray→List ByteArray→Bool
 | [],t=>decide (t.length=0)
 | p::g,t=>if p=wY then(List.range (t.length+1)).any (fun i=>mD g (t.drop i))else match t with
  | []=>false
  | q::t'=>(decide (p=Gh)||decide (p=q))&&mD g t'
inductive MatchP:List ByteArray→List ByteArray→Prop
 | nil:MatchP [] []
 | skip {g t}:MatchP g t→MatchP (wY::g) t
 | take {g q t}:MatchP (wY::g) t→MatchP (wY::g) (q::t)
 | one {p g q t}:p≠wY→(p=Gh∨p=q)→MatchP g t→MatchP (p::g) (q::t)
theorem qD {g:List ByteArray}:∀{t:List ByteArray},MatchP (wY::g) t↔∃i,i≤t.length∧MatchP g (t.drop i)
 | []=>by
  constructor
  ·intro h
   cases h with
   | skip h=>exact⟨0,Nat.le_refl _,h⟩
  ·rintro⟨i,hi,h⟩
   simp only[List.drop_nil]at h
   exact .skip h
 | q::t=>by
  constructor
  ·intro h
   cases h with
   | skip h=>exact⟨0,Nat.zero_le _,h⟩
   | take h=>
    obtain⟨i,hi,h⟩:=qD.1 h
    exact⟨i+1,by simp;omega,by simpa using h⟩
   | one h1 h2 h3=>exact absurd rfl h1
  ·rintro⟨i,hi,h⟩
   cases i with
   | zero=>exact .skip h
   | succ i=>exact .take (qD.2 ⟨i,by simpa using hi,by simpa using h⟩)
theorem lK:∀{g t:List ByteArray},mD g t=true↔MatchP g t
 | [],t=>by
  simp only[mD,decide_eq_true_eq,List.length_eq_zero_iff]
  constructor
  ·rintro rfl;exact .nil
  ·intro h;cases h;rfl
 | p::g,t=>by
  by_cases hp:p=wY
  ·subst hp
   rw[qD]
   simp only[mD,if_true,List.any_eq_true,List.mem_range]
   exact exists_congr fun i=>⟨fun⟨h1,h2⟩=>⟨by omega,lK.1 h2⟩,fun⟨h1,h2⟩=>⟨by omega,lK.2 h2⟩⟩
  ·cases t with
   | nil=>
    simp only[mD,hp,if_false,Bool.false_eq_true,false_iff]
    intro h
    cases h with
    | skip h=>exact hp rfl
   | cons q t=>
    simp only[mD,hp,if_false,Bool.and_eq_true,Bool.or_eq_true,decide_eq_true_eq]
    constructor
    ·rintro⟨h1,h2⟩;exact .one hp h1 (lK.1 h2)
    ·intro h
     cases h with
     | skip h=>exact absurd rfl hp
     | take h=>exact absurd rfl hp
     | one h1 h2 h3=>exact⟨h2,lK.2 h3⟩
def nT (g t:ByteArray):Bool:=rY g&&(nS t&&mD (eS g) (eS t))
end Go.Vc

namespace Go.Vc
open Go.Proofs
set_option maxRecDepth 100000
def M28:MC:=(.seq (.reg [qi 2 (.mv (.c (.string ⟨#[]⟩)))] [] [0] []) (.seq (.seq (.reg [mi 3 0,nI 4 3 true,oJ 5 .gtr 4 60] [] [0,5] []) (.cond (.t 5) (.seq (.reg [mi 6 0,qi 7 (.slc (.t 6) none (some (ic 60)) 0 true),mi 2 7] [] [2] []) .ret) .skip)) (.seq (.reg [mi 8 0,mi 2 8] [] [2] []) .ret)))
theorem c28:Cd 28 9 [RV.tmp 2] M28:=cO [] (rn [] [] 4 M28) Tryz.func28 (by kernel_rfl) Tryz.ntmps28
def M78:MC:=(.seq (.reg [bI 2 false] [] [0] []) (.seq (.reg [mi 3 0,cI 4 135 [.t 3,.f 137],mi 2 4] [] [2] [1004]) .ret))
theorem c78:Cd 78 5 [RV.tmp 2] M78:=cO [] (rn [] [] 2 M78) Tryz.func78 (by kernel_rfl) Tryz.ntmps78
def M77:MC:=(.seq (.reg [bI 2 false] [] [0] []) (.seq (.reg [mi 3 0,cI 4 135 [.t 3,.f 136],mi 2 4] [] [2] [1004]) .ret))
theorem c77:Cd 77 5 [RV.tmp 2] M77:=cO [] (rn [] [] 2 M77) Tryz.func77 (by kernel_rfl) Tryz.ntmps77
def M79:MC:=(.seq (.reg [qi 4 (.mv .nil)] [] [0,1] []) (.seq (.reg [mi 5 0,mi 6 1,cI 7 138 [.t 5,.t 6,.c (.int .i64 0),.c (.int .i64 (-1))],mi 4 7] [] [4] [1007]) .ret))
theorem c79:Cd 79 8 [RV.tmp 4] M79:=cO [] (rn [] [] 2 M79) Tryz.func79 (by kernel_rfl) Tryz.ntmps79
def B135_0:MC:=(.seq (.reg [oJ 12 .lss 11 8] [] [0,1,11,12] [1015]) (.seq (.cond (.t 12) .skip (.exit 0)) (.seq (.block 1 (.seq (.reg [mi 14 0,cI 15 183 [.t 14,.c (.string ⟨#[46]⟩)],mi 13 15,xI 16 13 0,xI 17 13 1,xI 18 13 2,mi 5 16,mi 6 17,mi 7 18] [] [1,5,6,7,11] [1015]) (.seq (.seq (.reg [mi 19 1,mi 20 5,⟨some 21,none,.call (.t 19) [.t 20]⟩,qi 22 (.not (.t 21))] [] [1,6,7,11,22] [1015,1021]) (.cond (.t 22) (.seq (.reg [bI 4 false] [] [4] []) .ret) .skip)) (.seq (.seq (.reg [mi 23 7,qi 24 (.not (.t 23))] [] [1,6,11,24] [1015]) (.cond (.t 24) (.seq (.reg [bI 4 true] [] [4] []) .ret) .skip)) (.reg [mi 25 6,mi 0 25] [] [0,1,11] [1015]))))) (.reg [oJ 26 .add 11 1,mi 11 26] [] [0,1,11] [1015]))))
def R135_0:MC:=(.seq (.reg [bI 4 false] [] [4] []) .ret)
def M135:MC:=(.seq (.reg [bI 4 false] [] [0,1] [1015]) (.seq (.seq (.reg [mi 8 0,nI 9 8 true,oJ 10 .gtr 9 40] [] [0,1,10] [1015]) (.cond (.t 10) (.seq (.reg [bI 4 false] [] [4] []) .ret) .skip)) (.seq (.seq (.reg [kI 11 0] [] [0,1,11] [1015]) (.block 0 (.loop B135_0))) R135_0)))
theorem c135:Cd 135 27 [RV.tmp 4] M135:=cO [] (rn [] [] 13 M135) Tryz.func135 (by kernel_rfl) Tryz.ntmps135
def B137_0:MC:=(.seq (.reg [⟨some 8,none,.nxts (.t 7)⟩,xI 9 8 0] [] [0,3,7,8,9] [7]) (.seq (.cond (.t 9) .skip (.exit 0)) (.block 1 (.seq (.reg [xI 10 8 2,mi 5 10] [] [0,3,5,7] [7]) (.seq (.reg [mi 11 3,mi 12 5,⟨some 13,none,.call (.t 11) [.t 12]⟩,qi 14 (.not (.t 13))] [] [0,3,7,14] [7,1013]) (.cond (.t 14) (.seq (.reg [bI 2 false] [] [2] []) .ret) .skip))))))
def R137_0:MC:=(.seq (.reg [mi 15 0,qi 16 (.bin .neq (.t 15) (.c (.string ⟨#[]⟩))),mi 2 16] [] [2] []) .ret)
def M137:MC:=(.seq (.reg [bI 2 false] [] [0] []) (.seq (.reg [qi 3 (.mv (.f 184))] [] [0,3] []) (.seq (.seq (.reg [mi 6 0,⟨some 7,none,.rngs (.t 6)⟩] [] [0,3,7] [7]) (.block 0 (.loop B137_0))) R137_0)))
theorem c137:Cd 137 17 [RV.tmp 2] M137:=cO [] (rn [] [] 8 M137) Tryz.func137 (by kernel_rfl) Tryz.ntmps137
def M136:MC:=(.seq (.reg [bI 2 false] [] [0] []) (.seq (.reg [mi 3 0,qi 4 (.bin .eql (.t 3) (.c (.string ⟨#[42]⟩))),mi 5 4,gF 6 5 (.mv (.t 0)),gF 7 5 (.bin .eql (.t 6) (.c (.string ⟨#[42,42]⟩))),qi 8 (.pick (.t 5) (.c (.bool true)) (.t 7)),mi 9 8,gF 10 9 (.mv (.t 0)),⟨some 11,some (9,false),.call (.f 137) [.t 10]⟩,qi 12 (.pick (.t 9) (.c (.bool true)) (.t 11)),mi 2 12] [] [2] [1011]) .ret))
theorem c136:Cd 136 13 [RV.tmp 2] M136:=cO [] (rn [] [] 2 M136) Tryz.func136 (by kernel_rfl) Tryz.ntmps136
def B138_0:MC:=(.seq (.seq (.reg [mi 34 10,mi 35 3,oI 36 .lss 34 35] [] [0,1,2,3,9,10,36] [31,1023,1039]) (.cond (.t 36) .skip (.exit 0))) (.block 1 (.seq (.reg [mi 37 0,mi 38 1,cI 39 177 [.t 37,.t 38],mi 11 39] [] [0,1,2,3,9,10,11] [31,1023,1039]) (.seq (.seq (.reg [mi 40 11,oJ 41 .lss 40 0] [] [0,1,2,3,9,10,11,41] [31,1023,1039]) (.cond (.t 41) (.exit 0) .skip)) (.seq (.reg [mi 42 9,mi 43 10,mi 44 0,mi 45 11,mi 46 2,oI 47 .add 45 46,qi 48 (.slc (.t 44) none (some (.t 47)) 0 true),qi 49 (.ia (.t 42) (.t 43) 1),⟨none,none,.st (.t 49) (.t 48) 1⟩] [] [0,1,2,3,9,10,11] [31,1023,1039]) (.seq (.reg [mi 50 0,mi 51 11,mi 52 1,nI 53 52 true,oI 54 .add 51 53,qi 55 (.slc (.t 50) (some (.t 54)) none 0 true),mi 0 55] [] [0,1,2,3,9,10] [31,1023,1039]) (.reg [mi 56 10,oJ 57 .add 56 1,mi 10 57] [] [0,1,2,3,9,10] [31,1023,1039])))))))
def R138_0:MC:=(.seq (.reg [mi 58 9,mi 59 10,mi 60 0,qi 61 (.ia (.t 58) (.t 59) 1),⟨none,none,.st (.t 61) (.t 60) 1⟩] [] [9,10] [31,1039]) (.seq (.reg [mi 62 9,mi 63 10,oJ 64 .add 63 1,qi 65 (.slc (.t 62) none (some (.t 64)) 1 false),mi 8 65] [] [8] [31,1018,1039]) .ret))
def M138:MC:=(.seq (.reg [qi 8 (.mv .nil)] [] [0,1,2,3] [1023,1039]) (.seq (.seq (.reg [mi 12 3,oJ 13 .eql 12 0] [] [0,1,2,3,13] [1023,1039]) (.cond (.t 13) (.seq (.reg [qi 8 (.mv .nil)] [] [8] [31,1018,1039]) .ret) .skip)) (.seq (.seq (.reg [mi 14 1,qi 15 (.bin .eql (.t 14) (.c (.string ⟨#[]⟩)))] [] [0,1,2,3,15] [1023,1039]) (.cond (.t 15) (.seq (.reg [mi 16 0,mi 17 3,cI 18 185 [.t 16,.t 17],mi 8 18] [] [8] [31,1018,1039]) .ret) .skip)) (.seq (.seq (.reg [mi 19 3,oJ 20 .lss 19 0] [] [0,1,2,3,20] [1023,1039]) (.cond (.t 20) (.reg [mi 21 0,mi 22 1,cI 23 186 [.t 21,.t 22],oJ 24 .add 23 1,mi 3 24] [] [0,1,2,3] [1023,1039]) .skip)) (.seq (.reg [mi 25 3,mi 26 0,nI 27 26 true,oJ 28 .add 27 1,qi 29 (.mm false (.t 25) (.t 28)),mi 3 29] [] [0,1,2,3] [1023,1039]) (.seq (.reg [mi 30 3,⟨some 31,none,.mks (.t 30) (.t 30) 1 16 (.sc (.string ⟨#[]⟩))⟩,mi 9 31] [] [0,1,2,3,9] [31,1023,1039]) (.seq (.reg [mi 32 3,oJ 33 .sub 32 1,mi 3 33] [] [0,1,2,3,9] [31,1023,1039]) (.seq (.reg [kI 10 0] [] [0,1,2,3,9,10] [31,1023,1039]) (.seq (.block 0 (.loop B138_0)) R138_0)))))))))
theorem c138:Cd 138 66 [RV.tmp 8] M138:=cO [] (rn [] [] 19 M138) Tryz.func138 (by kernel_rfl) Tryz.ntmps138
def M183:MC:=(.seq (.reg [qi 4 (.mv (.c (.string ⟨#[]⟩))),qi 5 (.mv (.c (.string ⟨#[]⟩))),bI 6 false] [] [0,1] []) (.seq (.reg [mi 7 0,mi 8 1,cI 9 220 [.t 7,.t 8],xI 10 9 0,xI 11 9 1,xI 12 9 2,mi 4 10,mi 5 11,mi 6 12] [] [4,5,6] [1009]) .ret))
theorem c183:Cd 183 13 [RV.tmp 4,RV.tmp 5,RV.tmp 6] M183:=cO [] (rn [] [] 2 M183) Tryz.func183 (by kernel_rfl) Tryz.ntmps183
def M184:MC:=(.seq (.reg [bI 2 false] [] [0] []) (.seq (.reg [mi 3 0,qi 4 (.bin .geq (.t 3) (.c (.int .i32 97))),mi 5 4,gT 6 5 (.mv (.t 0)),gT 7 5 (.bin .leq (.t 6) (.c (.int .i32 122))),qi 8 (.pick (.t 5) (.t 7) (.c (.bool false))),mi 9 8,gF 10 9 (.mv (.t 0)),gF 11 9 (.bin .geq (.t 10) (.c (.int .i32 48))),gF 12 9 (.mv (.t 11)),gT 13 12 (.mv (.t 0)),gT 14 12 (.bin .leq (.t 13) (.c (.int .i32 57))),gF 15 9 (.pick (.t 12) (.t 14) (.c (.bool false))),qi 16 (.pick (.t 9) (.c (.bool true)) (.t 15)),mi 17 16,gF 18 17 (.mv (.t 0)),gF 19 17 (.bin .eql (.t 18) (.c (.int .i32 95))),qi 20 (.pick (.t 17) (.c (.bool true)) (.t 19)),mi 2 20] [] [2] []) .ret))
theorem c184:Cd 184 21 [RV.tmp 2] M184:=cO [] (rn [] [] 2 M184) Tryz.func184 (by kernel_rfl) Tryz.ntmps184
def M177:MC:=(.seq (.reg [kI 4 0] [] [0,1] []) (.seq (.reg [mi 5 0,mi 6 1,cI 7 214 [.t 5,.t 6],mi 4 7] [] [4] [1007]) .ret))
theorem c177:Cd 177 8 [RV.tmp 4] M177:=cO [] (rn [] [] 2 M177) Tryz.func177 (by kernel_rfl) Tryz.ntmps177
def M220:MC:=(.seq (.reg [qi 4 (.mv (.c (.string ⟨#[]⟩))),qi 5 (.mv (.c (.string ⟨#[]⟩))),bI 6 false] [] [0,1] []) (.seq (.seq (.reg [mi 8 0,mi 9 1,cI 10 214 [.t 8,.t 9],mi 7 10] [] [0,1,7] [1010]) (.seq (.reg [mi 11 7,oJ 12 .geq 11 0] [] [0,1,7,12] [1010]) (.cond (.t 12) (.seq (.reg [mi 13 0,mi 14 7,qi 15 (.slc (.t 13) none (some (.t 14)) 0 true),mi 16 0,mi 17 7,mi 18 1,nI 19 18 true,oI 20 .add 17 19,qi 21 (.slc (.t 16) (some (.t 20)) none 0 true),mi 4 15,mi 5 21,bI 6 true] [] [4,5,6] [1010]) .ret) .skip))) (.seq (.reg [mi 22 0,mi 4 22,qi 5 (.mv (.c (.string ⟨#[]⟩))),bI 6 false] [] [4,5,6] [1010]) .ret)))
theorem c220:Cd 220 23 [RV.tmp 4,RV.tmp 5,RV.tmp 6] M220:=cO [] (rn [] [(3,[(0,3589),(1,3590),(2,3588),(3,3336),(4,3472),(5,3552),(6,3520),(7,3456),(8,3328),(9,3584),(10,3072),(11,2048)],4095)] 5 M220) Tryz.func220 (by kernel_rfl) Tryz.ntmps220
end Go.Vc

namespace Go.Vc
open Go.Proofs Go.Shelf Go.RowKit
set_option linter.unusedSimpArgs false
set_option linter.unusedVariables false
def Ny:Ren:=⟨fun n=>if n=219 then 214 else if n=217 then 246 else if n=225 then 247 else if n=224 then 248 else if n=267 then 249 else if n=266 then 255 else if n=314 then 256 else n,
 fun t=>if t=46 then 154 else if t=146 then 324 else if t=51 then 299 else t,
 fun g=>g⟩
def Nz:Ren:=⟨fun n=>if n=138 then 186 else if n=195 then 221 else if n=218 then 223 else if n=143 then 177 else if n=219 then 214 else if n=217 then 246 else if n=225 then 247 else if n=224 then 248 else if n=267 then 249 else if n=266 then 255 else if n=314 then 256 else n,
 fun t=>if t=46 then 154 else if t=146 then 324 else if t=51 then 299 else t,
 fun g=>g⟩
theorem Li:Lays.n219 Tryz.prog Ny where
 mixed:=by kernel_rfl
 f217:=by kernel_rfl
 f219:=by kernel_rfl
 f224:=by kernel_rfl
 f225:=by kernel_rfl
 f266:=by kernel_rfl
 f267:=by kernel_rfl
 f314:=by kernel_rfl
 t3:=by kernel_rfl
 a3:=fun w=>by kernel_rfl
 z3:=fun w=>by kernel_rfl
 v3:=fun w=>by kernel_rfl
 t4:=by kernel_rfl
 a4:=fun w=>by kernel_rfl
 z4:=fun w=>by kernel_rfl
 v4:=fun w=>by kernel_rfl
 t5:=by kernel_rfl
 a5:=fun w=>by kernel_rfl
 z5:=fun w=>by kernel_rfl
 v5:=fun w=>by kernel_rfl
 t9:=by kernel_rfl
 a9:=fun w=>by kernel_rfl
 z9:=fun w=>by kernel_rfl
 v9:=fun w=>by kernel_rfl
 t46:=by kernel_rfl
 a46:=fun w=>by kernel_rfl
 z46:=fun w=>by kernel_rfl
 v46:=fun w=>by kernel_rfl
 t51:=by kernel_rfl
 a51:=fun w=>by kernel_rfl
 z51:=fun w=>by kernel_rfl
 v51:=fun w=>by kernel_rfl
 t146:=by kernel_rfl
 a146:=fun w=>by kernel_rfl
 z146:=fun w=>by kernel_rfl
 v146:=fun w=>by kernel_rfl
 g1:=by kernel_rfl
theorem Ln:Lays.n138 Tryz.prog Nz where
 mixed:=by kernel_rfl
 f138:=by kernel_rfl
 f143:=by kernel_rfl
 f195:=by kernel_rfl
 f217:=by kernel_rfl
 f218:=by kernel_rfl
 f219:=by kernel_rfl
 f224:=by kernel_rfl
 f225:=by kernel_rfl
 f266:=by kernel_rfl
 f267:=by kernel_rfl
 f314:=by kernel_rfl
 t0:=by kernel_rfl
 a0:=fun w=>by kernel_rfl
 z0:=fun w=>by kernel_rfl
 v0:=fun w=>by kernel_rfl
 t3:=by kernel_rfl
 a3:=fun w=>by kernel_rfl
 z3:=fun w=>by kernel_rfl
 v3:=fun w=>by kernel_rfl
 t4:=by kernel_rfl
 a4:=fun w=>by kernel_rfl
 z4:=fun w=>by kernel_rfl
 v4:=fun w=>by kernel_rfl
 t5:=by kernel_rfl
 a5:=fun w=>by kernel_rfl
 z5:=fun w=>by kernel_rfl
 v5:=fun w=>by kernel_rfl
 t9:=by kernel_rfl
 a9:=fun w=>by kernel_rfl
 z9:=fun w=>by kernel_rfl
 v9:=fun w=>by kernel_rfl
 t46:=by kernel_rfl
 a46:=fun w=>by kernel_rfl
 z46:=fun w=>by kernel_rfl
 v46:=fun w=>by kernel_rfl
 t51:=by kernel_rfl
 a51:=fun w=>by kernel_rfl
 z51:=fun w=>by kernel_rfl
 v51:=fun w=>by kernel_rfl
 t146:=by kernel_rfl
 a146:=fun w=>by kernel_rfl
 z146:=fun w=>by kernel_rfl
 v146:=fun w=>by kernel_rfl
 g1:=by kernel_rfl
theorem Mp (s:ByteArray):Fn Tryz.prog 214 [pS s,pS xV] (.pv (pI (dE s))) []:=by
 refine⟨fT (fn:=Tryz.f214) Tryz.func214 (by decide) rfl,fun w F vs hF htb hv=>?_⟩
 simp only[aE,aG]at hv
 obtain⟨u,r,rfl,rfl,u',r',rfl,rfl,rfl⟩:=hv
 have:=Any.stringslite_Index_one Li s 46 w
 refine this.mono fun en w' ⟨e1,e2⟩=>?_
 subst e1;subst e2
 refine⟨_,⟨w',F,fun _=>default⟩,rfl,rfl,⟨Below.refl _ _,by simp[aB,aG,dE],fun i s xs h=>by simp at h,fun i j hi=>by simp at hi,fun i hi=>by simp at hi,fun b=>by simp⟩⟩
def i7 (s:ByteArray):Nat:=Lib.countByte s.data.toList 46
theorem Qe (s:ByteArray):Fn Tryz.prog 186 [pS s,pS xV] (.pv (pI (i7 s))) []:=by
 refine⟨fT (fn:=Tryz.f186) Tryz.func186 (by decide) rfl,fun w F vs hF htb hv=>?_⟩
 simp only[aE,aG]at hv
 obtain⟨u,r,rfl,rfl,u',r',rfl,rfl,rfl⟩:=hv
 have:=Any.strings_Count_one Ln s 46 w
 refine this.mono fun en w' ⟨e1,e2⟩=>?_
 subst e1;subst e2
 refine⟨_,⟨w',F,fun _=>default⟩,rfl,rfl,⟨Below.refl _ _,by simp[aB,aG,i7],fun i s xs h=>by simp at h,fun i j hi=>by simp at hi,fun i hi=>by simp at hi,fun b=>by simp⟩⟩
theorem Mw (s:ByteArray):Fn Tryz.prog 177 [pS s,pS xV] (.pv (pI (dE s))) []:=by
 refine c177.r [] (by simp) ?_
 simp only[go_sem,M177]
 refine aA (by simp only[go_sem]) (by simp only[go_sem]<;>rfl) (Mp s) ⟨rfl,trivial⟩ trivial ?_
 simp only[go_sem]
theorem P2 (s:ByteArray) (hs:s.size≤1000):Fn Tryz.prog 220 [pS s,pS xV] (.pv (.tup [pS (rM s),pS (sG s),pB (decide (0≤dE s))])) []:=by
 refine c220.r [] (by simp) ?_
 simp only[go_sem,M220]
 refine aA (by simp only[go_sem]) (by simp only[go_sem]<;>rfl) (Mp s) ⟨rfl,trivial⟩ trivial ?_
 have hd:=y9 s
 have e1:xV.size=1:=rfl
 simp only[go_sem,e1]
 refine⟨fun h=>⟨⟨h,by omega⟩,⟨by omega,by omega⟩,⟨by omega,by omega,by omega⟩,?_⟩,fun h=>?_⟩
 ·have e2:(dE s+((1:Nat):Int)).toNat=(dE s).toNat+1:=by omega
  have e3:(dE s+1).toNat=(dE s).toNat+1:=by omega
  simp[e2,e3,rM,sG,h]
 ·simp[rM,sG,h]
theorem Qf (s:ByteArray) (hs:s.size≤1000):Fn Tryz.prog 183 [pS s,pS xV] (.pv (.tup [pS (rM s),pS (sG s),pB (decide (0≤dE s))])) []:=by
 refine c183.r [] (by simp) ?_
 simp only[go_sem,M183]
 refine aA (by simp only[go_sem]) (by simp only[go_sem]<;>rfl) (P2 s hs) ⟨rfl,trivial⟩ trivial ?_
 simp only[go_sem]
theorem Aj:∀l:List UInt8,(rL l).length=Lib.countByte l 46+1
 | []=>rfl
 | c::l=>by
  have ih:=Aj l
  unfold Lib.countByte at*
  simp only[rL]
  split
  ·rename_i h;subst h;simp[ih]
  ·rename_i h
   rw[List.count_cons_of_ne h]
   cases h2:rL l with
   | nil=>exact absurd h2 (F9 l)
   | cons p ps=>rw[h2]at ih;simpa[Fy]using ih
theorem sS (s:ByteArray):(eS s).length=i7 s+1:=by unfold eS i7;rw[List.length_map,Aj]
theorem Cq (s:ByteArray):i7 s≤s.size:=by
 have:i7 s≤s.data.toList.length:=List.count_le_length
 simpa using this
abbrev ss (l:List ByteArray):PV:=.lst (l.map pS)
theorem mQ (l:List ByteArray):cY 1 (l.map pS):=kZ (f:=pS) (s:=1) (fun a=>⟨rfl,fun c hc=>by simp only[PV.cells,List.mem_cons,List.not_mem_nil,or_false]at hc;subst hc;rfl⟩) l
theorem DF {α:Type} {f:α→PV} {A:List α} {z p:PV} {k:Nat}:(A.map f++List.replicate (k+1) z).set A.length p=A.map f++p::List.replicate k z:=by
 rw[List.set_append_right _ _ (by simp)]
 simp[List.replicate_succ]
theorem JH {α:Type} {f:α→PV} {A:List α} {z:PV} {k:Nat}:(A.map f++List.replicate (k+1) z).getD A.length default=z:=by
 simp[List.getD_eq_getElem?_getD,List.getElem?_append_right,List.replicate_succ]
theorem Qv (s:ByteArray) (hs:s.size≤1000):Fn Tryz.prog 138 [pS s,pS xV,pI 0,pI (-1)] (.pv (ss (eS s))) []:=by
 refine c138.r [false] (by simp) ?_
 simp only[go_sem,M138]
 have hd:=Cq s
 have hc:=sS s
 have e1:xV.size=1:=rfl
 refine⟨fun h=>absurd h (by decide),fun _=>?_⟩
 refine aA (by simp only[go_sem]) (by simp only[go_sem]<;>rfl) (Qe s) ⟨rfl,trivial⟩ trivial ?_
 simp only[go_sem,e1]
 refine⟨⟨by omega,by omega⟩,⟨by omega,by omega⟩,?_⟩
 have hmin:(if(s.size:Int)+1<(i7 s:Int)+1 then(s.size:Int)+1 else(i7 s:Int)+1)=(i7 s:Int)+1:=by rw[if_neg (by omega)]
 simp only[go_sem,hmin]
 obtain⟨N,hN⟩:∃N,N=(eS s).length:=⟨_,rfl⟩
 have hN2:((i7 s:Int)+1).toNat=N:=by omega
 rw[hN2]
 refine⟨⟨by omega,by omega,by omega,by omega⟩,⟨by omega,by omega⟩,?_⟩
 refine aZ (T:=Nat×ByteArray) (fun t=>⟨[(0,.pv (pS t.2)),(1,.pv (pS xV)),(2,.pv (pI 0)),(3,.pv (pI (i7 s+1-1))),(9,.row 31 0 N),(10,.pv (pI t.1))],[(31,.sl 1 (((eS s).take t.1).map pS++List.replicate (N-t.1) (pS ⟨#[]⟩)))]⟩) (fun t=>t.1<N∧eS s=(eS s).take t.1++eS t.2∧t.2.size≤s.size) (fun t=>N-t.1) ⟨0,s⟩ (by simp) ⟨by omega,by simp,Nat.le_refl _⟩ ?_
 rintro⟨i,u⟩ ⟨hi,hq,hu⟩
 simp only at hi hq hu
 have hlen:((eS s).take i).length=i:=by simp;omega
 have hul:(eS u).length=N-i:=by
  have:=congrArg List.length hq
  rw[List.length_append,hlen]at this;omega
 obtain⟨k,hk⟩:∃k,N-i=k+1:=⟨N-i-1,by omega⟩
 have hset:=DF (f:=pS) (A:=(eS s).take i) (z:=pS ⟨#[]⟩) (p:=pS (rM u)) (k:=k)
 have hset2:=DF (f:=pS) (A:=(eS s).take i) (z:=pS ⟨#[]⟩) (p:=pS u) (k:=k)
 have hget:=JH (f:=pS) (A:=(eS s).take i) (z:=pS ⟨#[]⟩) (k:=k)
 rw[hlen]at hset hset2 hget
 have hdl:=y9 u
 by_cases hdt:0≤dE u
 ·have hcu:=Br hdt
  have hca:=DP (sG u)
  have hnext:(eS s).take (i+1)=(eS s).take i++[rM u]:=by
   conv=>lhs;rw[hq,hcu]
   rw[List.take_append,hlen,show i+1-i=1 by omega,List.take_of_length_le (by omega)];rfl
  rw[hcu,List.length_cons]at hul
  rw[hk]
  simp only[go_sem,B138_0,show(i:Int)<(i7 s:Int)+1-1 by omega]
  refine aA (by simp only[go_sem]) (by simp only[go_sem]<;>rfl) (Mw u) ⟨rfl,trivial⟩ trivial ?_
  have hB:u.extract 0 (dE u+0).toNat=rM u:=by unfold rM;rw[if_pos hdt,Int.add_zero]
  have hA:u.extract (dE u+1).toNat u.size=sG u:=by unfold sG;rw[if_pos hdt,show(dE u+1).toNat=(dE u).toNat+1 by omega]
  have hcl:=Bv u
  simp only[go_sem,e1,show ¬dE u<0 by omega,hget,hB,hA,hset]
  refine⟨⟨by omega,by omega⟩,⟨by omega,by omega⟩,by omega,by simp;omega,⟨by omega,by omega⟩,⟨by omega,by omega,by omega⟩,⟨by omega,by omega⟩,⟨i+1,sG u⟩,?_,⟨by simp only;omega,?_,by simp only;omega⟩,by simp only;omega⟩
  ·rw[hnext,List.map_append,show N-(i+1)=k by omega,List.append_assoc];rfl
  ·simp only
   rw[hnext,List.append_assoc,hq,hcu]
   simp[hlen]
 ·have hcu:=Bs hdt
  rw[hcu,List.length_singleton]at hul
  rw[hk]
  simp only[go_sem,B138_0,R138_0,show ¬(i:Int)<(i7 s:Int)+1-1 by omega,hget,hset2]
  refine⟨by omega,by simp;omega,⟨by omega,by omega⟩,⟨by omega,by omega⟩,?_⟩
  have hk0:k=0:=by omega
  subst hk0
  rw[show((i:Int)+1).toNat-0=i+1 by omega,List.replicate_zero,←List.map_singleton,←List.map_append,←hcu,←hq,List.take_of_length_le (by simp;omega)]
end Go.Vc

namespace Go.Vc
open Go.Proofs
set_option linter.unusedSimpArgs false
set_option linter.unusedVariables false
set_option maxRecDepth 10000
theorem OV (s:ByteArray) (hs:s.size≤1000):Fn Tryz.prog 79 [pS s,pS xV] (.pv (ss (eS s))) []:=by
 refine c79.r [] (by simp) ?_
 simp only[go_sem,M79]
 refine aC (by simp only[go_sem]) rfl (Qv s hs) (.inl rfl) trivial ?_
 simp only[go_sem]
theorem Mv (r:Int):Fn Tryz.prog 184 [.sc (.int .i32 r)] (.pv (pB (JY r))) []:=by
 refine c184.r [] (by simp) ?_
 simp only[go_sem,M184]
 unfold JY
 by_cases h1:97≤r<;>by_cases h2:r≤122<;>by_cases h3:48≤r<;>by_cases h4:r≤57<;>by_cases h5:r=95<;>simp[h1,h2,h3,h4,h5]
theorem CD {s:ByteArray} {i:Nat} (h:(s.get! i).toNat<128):Utf8.decode s i=((s.get! i).toNat,1):=by
 simp[Utf8.decode,h]
theorem Fa {s:ByteArray} {i:Nat} (h:128≤(s.get! i).toNat):128≤(Utf8.decode s i).1:=by
 unfold Utf8.decode
 simp only[Nat.add_zero]
 rw[if_neg (by omega)]
 repeat' split
 all_goals simp only[Utf8.runeError,Bool.and_eq_true,decide_eq_true_eq,ge_iff_le]at * <;> omega
theorem JB {s:ByteArray} {i:Nat} (h:i<s.size):s.get! i=s.data.toList[i]'(by simpa using h):=by
 obtain⟨a⟩:=s
 have h':i<a.size:=h
 simp[ByteArray.get!,h']
theorem ME (s:ByteArray):Fn Tryz.prog 137 [pS s] (.pv (pB (x6 s))) []:=by
 refine c137.r [] (by simp) ?_
 simp only[go_sem,M137]
 refine aZ (T:=Nat×List (Nat×AV)) (fun t=>⟨[(0,.pv (pS s)),(3,.fn 184 []),(7,.it 7)]++t.2,[(7,.sit s t.1)]⟩) (fun t=>t.1≤s.size∧∀j (h:j<s.data.toList.length),j<t.1→JY s.data.toList[j].toNat=true) (fun t=>s.size-t.1) ⟨0,[]⟩ rfl ⟨Nat.zero_le _,fun j _ h=>absurd h (by omega)⟩ ?_
 rintro⟨i,ex⟩ ⟨hi,hq⟩
 simp only at hi hq
 have hsz:s.data.toList.length=s.size:=by simp
 by_cases hlt:i<s.size
 ·have hg:=JB hlt
  have hmem:s.data.toList[i]'(by omega)∈s.data.toList:=List.getElem_mem _
  have no:JY (s.get! i).toNat=false→x6 s=false:=fun h=>by
   unfold x6
   rw[Bool.and_eq_false_iff,List.all_eq_false]
   right
   exact⟨_,hmem,by rw[←hg,h];simp⟩
  by_cases hb:(s.get! i).toNat<128
  ·simp only[go_sem,B137_0,hlt,CD hb]
   refine aA (by simp only[go_sem]) (by simp only[go_sem]<;>rfl) (Mv (((s.get! i).toNat:Nat):Int)) ⟨rfl,trivial⟩ trivial ?_
   simp only[go_sem]
   refine⟨fun h=>?_,fun h=>⟨⟨i+1,[(14,.pv (pB false))]⟩,by rw[h];rfl,⟨hlt,fun j hj hji=>?_⟩,by simp only;omega⟩⟩
   ·rw[no h]
   ·by_cases hji2:j=i
    ·subst hji2;rw[←hg];exact h
    ·exact hq j hj (by simp only at hji;omega)
  ·have hbig:=Fa (s:=s) (i:=i) (by omega)
   have h1:JY (s.get! i).toNat=false:=by simp[JY];omega
   have h2:JY (((Utf8.decode s i).1:Nat):Int)=false:=by simp[JY];omega
   simp only[go_sem,B137_0,hlt]
   refine aA (by simp only[go_sem]) (by simp only[go_sem]<;>rfl) (Mv (((Utf8.decode s i).1:Nat):Int)) ⟨rfl,trivial⟩ trivial ?_
   simp only[go_sem,h2]
   rw[no h1]
 ·simp only[go_sem,B137_0,R137_0,hlt]
  have:s.data.toList.all (fun b=>JY b.toNat)=true:=List.all_eq_true.2 fun b hb=>by
   obtain⟨j,hj,rfl⟩:=List.mem_iff_getElem.1 hb
   exact hq j hj (by omega)
  unfold x6
  rw[this]
  simp
theorem Qw (s:ByteArray):Fn Tryz.prog 136 [pS s] (.pv (pB (Fq s))) []:=by
 refine c136.r [] (by simp) ?_
 simp only[go_sem,M136]
 refine aF (by simp only[go_sem]) (by simp only[go_sem]) (by simp only[go_sem]<;>rfl) (fun _=>ME s) rfl ?_
 simp only[go_sem]
 unfold Fq
 by_cases h1:s=Gh<;>by_cases h2:s=wY<;>simp[h1,h2]
theorem MF (g:Nat) (may:ByteArray→Bool) (hg:∀u,Fn Tryz.prog g [pS u] (.pv (pB (may u))) []) (s:ByteArray):Fn Tryz.prog 135 [pS s,.fn g []] (.pv (pB (vV may s))) []:=by
 have e:vV may s=(decide (s.size≤40)&&BK may 8 s):=by unfold vV;rw[DT]
 rw[e]
 refine c135.r [] (by simp) ?_
 simp only[go_sem,M135]
 refine⟨fun h=>?_,fun h=>?_⟩
 ·simp[show ¬s.size≤40 by omega]
 ·have h40:s.size≤40:=by omega
  simp only[h40,decide_true,Bool.true_and]
  obtain⟨R,hR⟩:∃R,BK may 8 s=R:=⟨_,rfl⟩
  rw[hR]
  refine aZ (T:=Nat×ByteArray×List (Nat×AV)) (fun t=>⟨[(0,.pv (pS t.2.1)),(1,.pv (.fn g [])),(11,.pv (pI t.1))]++t.2.2,[]⟩) (fun t=>t.1≤8∧t.2.1.size≤40∧BK may (8-t.1) t.2.1=R) (fun t=>8-t.1) ⟨0,s,[]⟩ rfl ⟨Nat.zero_le _,h40,hR⟩ ?_
  rintro⟨i,u,ex⟩ ⟨hi,hu,hq⟩
  simp only at hi hu hq
  by_cases hlt:i<8
  ·obtain⟨n,hn⟩:∃n,8-i=n+1:=⟨7-i,by omega⟩
   have hn2:8-(i+1)=n:=by omega
   rw[hn]at hq
   simp only[BK]at hq
   have hca:=Bv u
   simp only[go_sem,B135_0,show(i:Int)<8 by omega]
   refine aA (by simp only[go_sem]) (by simp only[go_sem]<;>rfl) (Qf u (by omega)) ⟨rfl,trivial⟩ trivial ?_
   simp only[go_sem]
   refine aA (by simp only[go_sem]) (by simp only[go_sem]<;>rfl) (hg (rM u)) ⟨rfl,trivial⟩ trivial ?_
   simp only[go_sem]
   refine⟨fun h=>?_,fun h=>⟨fun hd=>?_,fun hd=>⟨⟨by omega,by omega⟩,⟨i+1,sG u,[]⟩,rfl,⟨by simp only;omega,by simp only;omega,?_⟩,by simp only;omega⟩⟩⟩
   ·rw[←hq,h];rfl
   ·rw[←hq,h];simp[hd]
   ·simp only[hn2]
    rw[←hq,h];simp[hd]
  ·simp only[go_sem,B135_0,R135_0,show ¬(i:Int)<8 by omega]
   rw[show 8-i=0 by omega]at hq
   simpa[BK]using hq
theorem HN (s:ByteArray):Fn Tryz.prog 78 [pS s] (.pv (pB (nS s))) []:=by
 refine c78.r [] (by simp) ?_
 simp only[go_sem,M78]
 refine aA (by simp only[go_sem]) (by simp only[go_sem]<;>rfl) (MF 137 x6 ME s) ⟨rfl,trivial⟩ trivial ?_
 simp only[go_sem]
 rfl
theorem Nj (s:ByteArray):Fn Tryz.prog 77 [pS s] (.pv (pB (rY s))) []:=by
 refine c77.r [] (by simp) ?_
 simp only[go_sem,M77]
 refine aA (by simp only[go_sem]) (by simp only[go_sem]<;>rfl) (MF 136 Fq Qw s) ⟨rfl,trivial⟩ trivial ?_
 simp only[go_sem]
 rfl
def rK (s:ByteArray):ByteArray:=if 60<s.size then s.extract 0 60 else s
theorem Ku (s:ByteArray):Fn Tryz.prog 28 [pS s] (.pv (pS (rK s))) []:=by
 refine c28.r [] (by simp) ?_
 simp only[go_sem,M28]
 unfold rK
 refine⟨fun h=>⟨by omega,?_⟩,fun h=>?_⟩
 ·rw[if_pos (by omega)]
 ·rw[if_neg (by omega)]
end Go.Vc

namespace Go.Vc
open Go.Proofs
set_option maxRecDepth 100000
def M80:MC:=(.seq (.reg [vI 3 0] [] [1,2,3] [3,20,150000,200000,200001,200002]) (.seq (.reg [lJ 7 1 1,lI 8 3 2,qi 9 (.mget (.t 7) (.t 8) true (Kk.st [0,0]) (.pv (.agg []))),mi 6 9,xI 10 6 0,xI 11 6 1,aI 4 [],⟨none,none,.st (.t 4) (.t 10) 0⟩,mi 5 11] [] [1,2,3,5] [3,20,150000,200000,200001,200002]) (.seq (.reg [mi 12 5,qi 13 (.not (.t 12))] [] [1,2,3,13] [3,20,150000,200000,200001,200002]) (.cond (.t 13) (.seq (.reg [lJ 14 1 1,lI 15 3 2,qi 16 (.mk [] []),⟨none,none,.mset (.t 14) (.t 15) (.t 16) (Kk.st [0,0])⟩] [] [2,3] [3,20,150000,200000,200001,200002]) (.reg [lJ 17 2 1,lI 18 3 2,⟨some 19,none,.lits [.t 18] 2⟩,⟨some 20,none,.app (.t 17) (.t 19) 2 16⟩,⟨none,none,.st (.t 2) (.t 20) 1⟩] [] [] [20,150000,200000,200001,200002])) .skip))))
theorem c80:Cd 80 21 [] M80:=cO [] (rn [] [] 5 M80) Tryz.func80 (by kernel_rfl) Tryz.ntmps80
def B27_0:MC:=(.seq (.seq (.reg [lJ 34 8 1,nI 35 34 false,oJ 36 .gtr 35 0] [] [5,6,7,8,9,36] [7,8,27,32,1024,1026,1072,1081,1104]) (.cond (.t 36) .skip (.exit 0))) (.block 1 (.seq (.reg [lJ 37 8 1,lJ 38 8 1,nI 39 38 false,oJ 40 .sub 39 1,qi 41 (.ia (.t 37) (.t 40) 2),lI 42 41 2,aI 10 [.pv (.sc (.int .i64 0)),.pv (.sc (.int .i64 0))],⟨none,none,.st (.t 10) (.t 42) 2⟩] [] [5,6,7,8,9,10] [7,8,10,27,32,1024,1026,1072,1081,1104]) (.seq (.reg [lJ 43 8 1,lJ 44 8 1,nI 45 44 false,oJ 46 .sub 45 1,qi 47 (.slc (.t 43) none (some (.t 46)) 2 false),⟨none,none,.st (.t 8) (.t 47) 1⟩] [] [5,6,7,8,9,10] [7,8,10,27,32,1024,1026,1072,1081,1104]) (.seq (.seq (.reg [fI 48 10 0,lJ 49 48 1,mi 50 5,nI 51 50 false,oI 52 .eql 49 51] [] [5,6,7,8,9,10,52] [7,8,10,27,32,1024,1026,1072,1081,1104]) (.cond (.t 52) (.exit 1) .skip)) (.seq (.reg [mi 53 5,fI 54 10 0,lJ 55 54 1,qi 56 (.ia (.t 53) (.t 55) 1),lJ 57 56 1,fI 58 10 1,lJ 59 58 1,mi 60 6,nI 61 60 false,oI 62 .lss 59 61,mi 11 57,mi 12 62] [] [5,6,7,8,9,10,11,12] [7,8,10,27,32,1024,1026,1072,1081,1104]) (.seq (.reg [mi 63 11,qi 64 (.bin .eql (.t 63) (.c (.string ⟨#[42,42]⟩)))] [] [5,6,7,8,9,10,11,12,64] [7,8,10,27,32,1024,1026,1072,1081,1104]) (.cond (.t 64) (.seq (.reg [mi 65 9,fI 66 10 0,lJ 67 66 1,oJ 68 .add 67 1,fI 69 10 1,lJ 70 69 1,qi 71 (.mk [.pv (.sc (.int .i64 0)),.pv (.sc (.int .i64 0))] [(0,1,(.t 68)),(1,1,(.t 70))]),⟨some 72,none,.calls (.t 65) [.t 71]⟩] [] [5,6,7,8,9,10,12] [7,8,10,27,32,1024,1026,1072,1081,1104]) (.seq (.reg [mi 73 12] [] [5,6,7,8,9,10,73] [7,8,10,27,32,1024,1026,1072,1081,1104]) (.cond (.t 73) (.reg [mi 74 9,fI 75 10 0,lJ 76 75 1,fI 77 10 1,lJ 78 77 1,oJ 79 .add 78 1,qi 80 (.mk [.pv (.sc (.int .i64 0)),.pv (.sc (.int .i64 0))] [(0,1,(.t 76)),(1,1,(.t 79))]),⟨some 81,none,.calls (.t 74) [.t 80]⟩] [] [5,6,7,8,9] [7,8,27,32,1024,1026,1072,1081,1104]) .skip))) (.seq (.reg [mi 82 12,mi 83 82,gT 84 83 (.mv (.t 11)),gT 85 83 (.bin .eql (.t 84) (.c (.string ⟨#[42]⟩))),gT 86 83 (.mv (.t 85)),gF 87 86 (.mv (.t 11)),gF 88 86 (.mv (.t 6)),gF 89 86 (.fa (.t 10) 1),gF 90 86 (.ld (.t 89) 1 false),gF 91 86 (.ia (.t 88) (.t 90) 1),gF 92 86 (.ld (.t 91) 1 false),gF 93 86 (.bin .eql (.t 87) (.t 92)),gT 94 83 (.pick (.t 86) (.c (.bool true)) (.t 93)),qi 95 (.pick (.t 83) (.t 94) (.c (.bool false)))] [] [5,6,7,8,9,10,95] [7,8,10,27,32,1024,1026,1072,1081,1104]) (.cond (.t 95) (.reg [mi 96 9,fI 97 10 0,lJ 98 97 1,oJ 99 .add 98 1,fI 100 10 1,lJ 101 100 1,oJ 102 .add 101 1,qi 103 (.mk [.pv (.sc (.int .i64 0)),.pv (.sc (.int .i64 0))] [(0,1,(.t 99)),(1,1,(.t 102))]),⟨some 104,none,.calls (.t 96) [.t 103]⟩] [] [5,6,7,8,9] [7,8,27,32,1024,1026,1072,1081,1104]) .skip))))))))))
def R27_0:MC:=(.seq (.reg [lJ 106 7 1,mi 107 5,nI 108 107 false,mi 109 6,nI 110 109 false,qi 111 (.mk [.pv (.sc (.int .i64 0)),.pv (.sc (.int .i64 0))] [(0,1,(.t 108)),(1,1,(.t 110))]),qi 112 (.mget (.t 106) (.t 111) true (Kk.st [0,0]) (.pv (.agg []))),mi 105 112,xI 113 105 0,xI 114 105 1,aI 13 [],⟨none,none,.st (.t 13) (.t 113) 0⟩,mi 14 114] [] [14] [27,1072,1081,1104]) (.seq (.reg [mi 115 14,mi 4 115] [] [4] [27,1072,1081,1104]) .ret))
def M27:MC:=(.seq (.reg [bI 4 false] [] [0,1] []) (.seq (.seq (.reg [mi 15 0,cI 16 77 [.t 15],qi 17 (.not (.t 16)),mi 18 17,gF 19 18 (.mv (.t 1)),⟨some 20,some (18,false),.call (.f 78) [.t 19]⟩,gF 21 18 (.not (.t 20)),qi 22 (.pick (.t 18) (.c (.bool true)) (.t 21))] [] [0,1,22] [1016,1020]) (.cond (.t 22) (.seq (.reg [bI 4 false] [] [4] [27,1072,1081,1104]) .ret) .skip)) (.seq (.reg [mi 23 0,cI 24 79 [.t 23,.c (.string ⟨#[46]⟩)],mi 25 1,cI 26 79 [.t 25,.c (.string ⟨#[46]⟩)],mi 5 24,mi 6 26] [] [5,6] [1024,1026]) (.seq (.reg [⟨some 27,none,.mkm⟩,qi 28 (.mk [.pv (.sc (.int .i64 0)),.pv (.sc (.int .i64 0))] [(0,1,(ic 0)),(1,1,(ic 0))]),qi 29 (.mk [] []),⟨none,none,.mset (.t 27) (.t 28) (.t 29) (Kk.st [0,0])⟩,mi 30 27,aI 7 [.pv (.sc (.map none))],⟨none,none,.st (.t 7) (.t 30) 1⟩] [] [5,6,7] [7,27,1024,1026,1072,1081,1104]) (.seq (.reg [qi 31 (.mk [.pv (.sc (.int .i64 0)),.pv (.sc (.int .i64 0))] [(0,1,(ic 0)),(1,1,(ic 0))]),⟨some 32,none,.own [.t 31] 2⟩,aI 8 [.e0],⟨none,none,.st (.t 8) (.t 32) 1⟩] [] [5,6,7,8] [7,8,27,32,1024,1026,1072,1081,1104]) (.seq (.reg [qi 33 (.clo 80 [.t 7,.t 8]),mi 9 33] [] [5,6,7,8,9] [7,8,27,32,1024,1026,1072,1081,1104]) (.seq (.block 0 (.loop B27_0)) R27_0)))))))
theorem c27:Cd 27 116 [RV.tmp 4] M27:=cO [32,72,81,104] (rn [] [(11,[(0,3097),(1,3102),(2,3100),(3,3096),(4,3088),(5,2656),(6,2624),(7,2944),(8,2816),(9,2560),(10,3072),(11,2048)],4095)] 20 M27) Tryz.func27 (by kernel_rfl) Tryz.ntmps27
end Go.Vc

namespace Go.Vc
open Go.Proofs
set_option linter.unusedSimpArgs false
set_option linter.unusedVariables false
abbrev lp (k:Nat×Nat):PV:=.agg [pI k.1,pI k.2]
abbrev Fk (k:Nat×Nat):PV×PV:=(lp k,.agg [])
theorem Pa (l:List (Nat×Nat)):cY 2 (l.map lp):=kZ (f:=lp) (s:=2) (fun a=>⟨rfl,fun c hc=>by
 simp only[PV.cells,List.mem_cons,List.not_mem_nil,or_false]at hc
 rcases hc with rfl|rfl<;>rfl⟩) l
theorem Fm (k:Nat×Nat):∀met:List (Nat×Nat),rQ (lp k) (met.map Fk)=if k∈met then some (.agg [])else none
 | []=>rfl
 | m::met=>by
  simp only[List.map_cons,rQ,cG,dP,Fm k met]
  by_cases h:k=m
  ·subst h;simp
  ·have:¬((k.1:Int)=(m.1:Int)∧(k.2:Int)=(m.2:Int)):=fun⟨h1,h2⟩=>h (Prod.ext (by omega) (by omega))
   have h2:(decide ((k.1:Int)=(m.1:Int))&&(decide ((k.2:Int)=(m.2:Int))&&true))=false:=by
    rw[Bool.and_true,Bool.and_eq_false_iff,decide_eq_false_iff_not,decide_eq_false_iff_not];omega
   rw[h2]
   simp[h]
theorem It (k:Nat×Nat):∀{met:List (Nat×Nat)},k∉met→nP (lp k) (.agg []) (met.map Fk)=(met++[k]).map Fk
 | [],_=>rfl
 | m::met,h=>by
  have h1:k≠m:=fun e=>h (by simp[e])
  have h2:(decide ((k.1:Int)=(m.1:Int))&&(decide ((k.2:Int)=(m.2:Int))&&true))=false:=by
   rw[Bool.and_true,Bool.and_eq_false_iff,decide_eq_false_iff_not,decide_eq_false_iff_not]
   have:¬((k.1:Int)=(m.1:Int)∧(k.2:Int)=(m.2:Int)):=fun⟨h1',h2'⟩=>h1 (Prod.ext (by omega) (by omega))
   omega
  simp only[List.map_cons,nP,cG,dP,h2,Bool.false_eq_true,if_false,List.cons_append,List.cons.injEq,true_and]
  exact It k fun hm=>h (List.mem_cons_of_mem _ hm)
theorem B3 (k:Nat×Nat):∀met:List (Nat×Nat),aW (.st [0,0]) (lp k) (met.map Fk)
 | []=>trivial
 | m::met=>by simp only[List.map_cons,aW,iI,dL];exact⟨⟨trivial,trivial,trivial⟩,B3 k met⟩
theorem N6 (k:Nat×Nat) (met:List (Nat×Nat)) (xs:List PV) (n:Nat) (hk:k∈met):
  j4 Tryz.prog 80 [.pv (lp k),.ptr 200000 0,.ptr 200001 0] [(200000,.box [.mp 200002]),(200001,.box [.row 150000 0 n]),(200002,.mp (met.map Fk)),(150000,.sl 2 xs)] (.pv (.tup []))
   [(200000,.box [.mp 200002]),(200001,.box [.row 150000 0 n]),(200002,.mp (met.map Fk)),(150000,.sl 2 xs)]:=by
 refine c80.s (by simp) (by simp) ?_
 have hl:rQ (lp k) (met.map Fk)=some (.agg []):=by rw[Fm,if_pos hk]
 simp only[go_sem,M80,hl,B3]
theorem N7 (k:Nat×Nat) (met:List (Nat×Nat)) (ws:List (Nat×Nat)) (xs:List PV) (hk:k∉met) (hw:ws.length<10000000):
  j4 Tryz.prog 80 [.pv (lp k),.ptr 200000 0,.ptr 200001 0] [(200000,.box [.mp 200002]),(200001,.box [.row 150000 0 ws.length]),(200002,.mp (met.map Fk)),(150000,.sl 2 (ws.map lp++xs))] (.pv (.tup []))
   [(200000,.box [.mp 200002]),(200001,.box [.row 150000 0 (ws.length+1)]),(200002,.mp ((met++[k]).map Fk)),(150000,.sl 2 ((ws++[k]).map lp))]:=by
 refine c80.s (by simp) (by simp) ?_
 have tk:List.take ws.length (ws.map lp++xs)=ws.map lp:=List.take_left' (by simp)
 simp only[go_sem,M80,Fm,B3,hk,It k hk,tk]
 exact⟨⟨Pa [k],by omega,by omega⟩,by rw[List.map_append];rfl⟩
def mU (g t:List ByteArray) (k:Nat×Nat):List (Nat×Nat):=
 if k.1=g.length then[]else if g.getD k.1 ⟨#[]⟩=wY then(k.1+1,k.2)::(if k.2<t.length then[(k.1,k.2+1)]else[])
 else if k.2<t.length∧(g.getD k.1 ⟨#[]⟩=Gh∨g.getD k.1 ⟨#[]⟩=t.getD k.2 ⟨#[]⟩)then[(k.1+1,k.2+1)]else[]
def rO (g t:List ByteArray) (k:Nat×Nat):Prop:=MatchP (g.drop k.1) (t.drop k.2)
theorem iN {l:List ByteArray} {i:Nat} (h:i<l.length):l.drop i=l.getD i ⟨#[]⟩::l.drop (i+1):=by
 rw[List.drop_eq_getElem_cons h];simp[List.getD_eq_getElem?_getD,h]
theorem GV {g t:List ByteArray} {k k':Nat×Nat} (h:k.1≤g.length) (h1:k'∈mU g t k) (h2:rO g t k'):rO g t k:=by
 unfold mU at h1
 split at h1
 ·cases h1
 ·rename_i hne
  have hlt:k.1<g.length:=by omega
  unfold rO at*
  rw[iN hlt]
  split at h1
  ·rename_i ha
   rw[ha]
   rcases List.mem_cons.1 h1 with rfl|h1
   ·exact .skip h2
   ·split at h1
    ·rename_i hlt2
     simp only[List.mem_singleton]at h1
     subst h1
     rw[iN hlt2]
     rw[iN hlt,ha]at h2
     exact .take h2
    ·cases h1
  ·rename_i ha
   split at h1
   ·rename_i hc
    simp only[List.mem_singleton]at h1
    subst h1
    rw[iN hc.1]
    exact .one ha hc.2 h2
   ·cases h1
theorem DV {g t:List ByteArray} {k:Nat×Nat} (h:k.1≤g.length) (h2:k.2≤t.length) (h3:rO g t k):k=(g.length,t.length)∨∃k'∈mU g t k,rO g t k'∧k'.1+k'.2>k.1+k.2:=by
 unfold rO at h3
 by_cases hlt:k.1<g.length
 ·rw[iN hlt]at h3
  unfold mU
  rw[if_neg (by omega)]
  right
  obtain⟨p,hp⟩:∃p,p=g.getD k.1 ⟨#[]⟩:=⟨_,rfl⟩
  rw[←hp]at h3 ⊢
  by_cases ha:p=wY
  ·rw[if_pos ha]
   rw[ha]at h3
   by_cases hlt2:k.2<t.length
   ·rw[iN hlt2]at h3
    rw[if_pos hlt2]
    cases h3 with
    | skip h3=>exact⟨(k.1+1,k.2),by simp,by unfold rO;rw[iN hlt2];exact h3,by simp only;omega⟩
    | take h3=>exact⟨(k.1,k.2+1),by simp,by unfold rO;simp only;rw[iN hlt,←hp,ha];exact h3,by simp only;omega⟩
    | one h4 _ _=>exact absurd rfl h4
   ·rw[List.drop_of_length_le (show t.length≤k.2 by omega)]at h3
    cases h3 with
    | skip h3=>exact⟨(k.1+1,k.2),by simp,by unfold rO;rw[List.drop_of_length_le (show t.length≤k.2 by omega)];exact h3,by simp only;omega⟩
  ·rw[if_neg ha]
   by_cases hlt2:k.2<t.length
   ·rw[iN hlt2]at h3
    cases h3 with
    | skip h3=>exact absurd rfl ha
    | take h3=>exact absurd rfl ha
    | one _ h4 h5=>exact⟨(k.1+1,k.2+1),by rw[if_pos ⟨hlt2,h4⟩];simp,h5,by simp only;omega⟩
   ·rw[List.drop_of_length_le (show t.length≤k.2 by omega)]at h3
    cases h3 with
    | skip h3=>exact absurd rfl ha
 ·left
  rw[List.drop_of_length_le (show g.length≤k.1 by omega)]at h3
  have:t.drop k.2=[]:=by cases h:t.drop k.2 with
   | nil=>rfl
   | cons q u=>rw[h]at h3;cases h3
  have h5:t.length-k.2=0:=by rw[←List.length_drop,this];rfl
  exact Prod.ext (by simp only;omega) (by simp only;omega)
theorem Dq {g t:List ByteArray} {k k':Nat×Nat} (h:k.1≤g.length) (h2:k.2≤t.length) (h1:k'∈mU g t k):k'.1≤g.length∧k'.2≤t.length:=by
 unfold mU at h1
 split at h1
 ·cases h1
 ·split at h1
  ·rcases List.mem_cons.1 h1 with rfl|h1
   ·exact⟨by simp only;omega,h2⟩
   ·split at h1
    ·simp only[List.mem_singleton]at h1;subst h1;exact⟨h,by simp only;omega⟩
    ·cases h1
  ·split at h1
   ·rename_i hc
    simp only[List.mem_singleton]at h1;subst h1;exact⟨by simp only;omega,by simp only;omega⟩
   ·cases h1
structure InvK (g t:List ByteArray) (met ws:List (Nat×Nat)):Prop where
 nodup:met.Nodup
 inn:∀k∈met,k.1≤g.length∧k.2≤t.length
 zero:(0,0)∈met
 sub:∀k∈ws,k∈met
 sound:∀k∈met,rO g t k→rO g t (0,0)
 shut:∀k∈met,k∈ws∨∀k'∈mU g t k,k'∈met
structure MidK (g t:List ByteArray) (k:Nat×Nat) (todo met ws:List (Nat×Nat)):Prop where
 nodup:met.Nodup
 inn:∀k∈met,k.1≤g.length∧k.2≤t.length
 zero:(0,0)∈met
 sub:∀k∈ws,k∈met
 sound:∀k∈met,rO g t k→rO g t (0,0)
 own:k∈met
 left:∀k'∈mU g t k,k'∈met∨k'∈todo
 rest:∀k'∈todo,k'∈mU g t k
 shut:∀j∈met,j=k∨j∈ws∨∀k'∈mU g t j,k'∈met
theorem InvK.pop {g t:List ByteArray} {met ws:List (Nat×Nat)} {k:Nat×Nat} (h:InvK g t met (ws++[k])):MidK g t k (mU g t k) met ws where
 nodup:=h.nodup
 inn:=h.inn
 zero:=h.zero
 sub:=fun j hj=>h.sub j (List.mem_append_left _ hj)
 sound:=h.sound
 own:=h.sub k (by simp)
 left:=fun k' hk=>.inr hk
 rest:=fun k' hk=>hk
 shut:=fun j hj=>by
  rcases h.shut j hj with h1|h1
  ·rcases List.mem_append.1 h1 with h1|h1
   ·exact .inr (.inl h1)
   ·simp only[List.mem_singleton]at h1;exact .inl h1
  ·exact .inr (.inr h1)
theorem MidK.old {g t:List ByteArray} {met ws todo:List (Nat×Nat)} {k k1:Nat×Nat} (h:MidK g t k (k1::todo) met ws) (hk:k1∈met):MidK g t k todo met ws:=
 {h with
  left:=fun k' hk'=>by
   rcases h.left k' hk' with h1|h1
   ·exact .inl h1
   ·rcases List.mem_cons.1 h1 with rfl|h1
    ·exact .inl hk
    ·exact .inr h1
  rest:=fun k' hk'=>h.rest k' (List.mem_cons_of_mem _ hk') }
theorem MidK.new {g t:List ByteArray} {met ws todo:List (Nat×Nat)} {k k1:Nat×Nat} (h:MidK g t k (k1::todo) met ws) (hk:k1∉met):MidK g t k todo (met++[k1]) (ws++[k1]):=by
 have h1:=h.rest k1 (by simp)
 have hin:=Dq (h.inn k h.own).1 (h.inn k h.own).2 h1
 refine⟨?_,fun j hj=>?_,List.mem_append_left _ h.zero,fun j hj=>?_,fun j hj hacc=>?_,List.mem_append_left _ h.own,fun k' hk'=>?_,fun k' hk'=>h.rest k' (List.mem_cons_of_mem _ hk'),fun j hj=>?_⟩
 ·rw[List.nodup_append]
  exact⟨h.nodup,by simp,fun a ha b hb=>by simp only[List.mem_singleton]at hb;subst hb;exact fun e=>hk (by rw[←e];exact ha)⟩
 ·rcases List.mem_append.1 hj with hj|hj
  ·exact h.inn j hj
  ·simp only[List.mem_singleton]at hj;subst hj;exact hin
 ·rcases List.mem_append.1 hj with hj|hj
  ·exact List.mem_append_left _ (h.sub j hj)
  ·exact List.mem_append_right _ hj
 ·rcases List.mem_append.1 hj with hj|hj
  ·exact h.sound j hj hacc
  ·simp only[List.mem_singleton]at hj;subst hj
   exact h.sound k h.own (GV (h.inn k h.own).1 h1 hacc)
 ·rcases h.left k' hk' with h2|h2
  ·exact .inl (List.mem_append_left _ h2)
  ·rcases List.mem_cons.1 h2 with rfl|h2
   ·exact .inl (by simp)
   ·exact .inr h2
 ·rcases List.mem_append.1 hj with hj|hj
  ·rcases h.shut j hj with h2|h2|h2
   ·exact .inl h2
   ·exact .inr (.inl (List.mem_append_left _ h2))
   ·exact .inr (.inr fun k' hk'=>List.mem_append_left _ (h2 k' hk'))
  ·exact .inr (.inl (List.mem_append_right _ hj))
theorem MidK.done {g t:List ByteArray} {met ws:List (Nat×Nat)} {k:Nat×Nat} (h:MidK g t k [] met ws):InvK g t met ws where
 nodup:=h.nodup
 inn:=h.inn
 zero:=h.zero
 sub:=h.sub
 sound:=h.sound
 shut:=fun j hj=>by
  rcases h.shut j hj with rfl|h1|h1
  ·exact .inr fun k' hk'=>(h.left k' hk').resolve_right (by simp)
  ·exact .inl h1
  ·exact .inr h1
theorem InvK.init (g t:List ByteArray):InvK g t [(0,0)] [(0,0)]:=
 ⟨by simp,fun k hk=>by simp only[List.mem_singleton]at hk;subst hk;exact⟨Nat.zero_le _,Nat.zero_le _⟩,by simp,fun k hk=>hk,fun k hk h=>by simp only[List.mem_singleton]at hk;subst hk;exact h,fun k hk=>.inl hk⟩
theorem InvK.end_ {g t:List ByteArray} {met:List (Nat×Nat)} (h:InvK g t met []):(g.length,t.length)∈met↔MatchP g t:=by
 have e0:rO g t (0,0)↔MatchP g t:=Iff.rfl
 constructor
 ·intro hm
  exact e0.1 (h.sound _ hm (by unfold rO;simp only;rw[List.drop_length,List.drop_length];exact .nil))
 ·intro hm
  have go:∀n (k:Nat×Nat),k∈met→rO g t k→g.length+t.length-(k.1+k.2)≤n→(g.length,t.length)∈met:=by
   intro n
   induction n with
   | zero=>
    intro k hk hacc hn
    have hi:=h.inn k hk
    rcases DV hi.1 hi.2 hacc with rfl|⟨k',h1,h2,h3⟩
    ·exact hk
    ·have:=Dq hi.1 hi.2 h1;omega
   | succ n ih=>
    intro k hk hacc hn
    have hi:=h.inn k hk
    rcases DV hi.1 hi.2 hacc with rfl|⟨k',h1,h2,h3⟩
    ·exact hk
    ·exact ih k' (((h.shut k hk).resolve_left (by simp)) k' h1) h2 (by omega)
  exact go _ (0,0) h.zero (e0.2 hm) (Nat.le_refl _)
theorem InvK.le {g t:List ByteArray} {met:List (Nat×Nat)} (hn:met.Nodup) (hi:∀k∈met,k.1≤g.length∧k.2≤t.length):met.length≤(g.length+1)*(t.length+1):=by
 have:=List.Nodup.length_le_of_subset (l₂:=(List.range (g.length+1)).flatMap fun i=>(List.range (t.length+1)).map fun j=>(i,j)) hn (fun k hk=>by
  have:=hi k hk
  rw[List.mem_flatMap]
  exact⟨k.1,List.mem_range.2 (by omega),List.mem_map.2 ⟨k.2,List.mem_range.2 (by omega),rfl⟩⟩)
 refine Nat.le_trans this ?_
 rw[List.length_flatMap]
 simp only[List.length_map,List.length_range]
 rw[List.map_const',List.length_range,List.sum_replicate_nat]
 exact Nat.le_refl _
end Go.Vc

namespace Go.Vc
open Go.Proofs
set_option linter.unusedSimpArgs false
set_option linter.unusedVariables false
abbrev wA:=List (Nat×Nat)×List (Nat×Nat)×List PV
def kG (k:Nat×Nat) (s:wA):wA:=if k∈s.1 then s else(s.1++[k],s.2.1++[k],[])
theorem H8 (k:Nat×Nat) (s:wA) (hw:s.2.1.length<10000000):
  j4 Tryz.prog 80 [.pv (lp k),.ptr 200000 0,.ptr 200001 0] [(200000,.box [.mp 200002]),(200001,.box [.row 150000 0 s.2.1.length]),(200002,.mp (s.1.map Fk)),(150000,.sl 2 (s.2.1.map lp++s.2.2))] (.pv (.tup []))
   [(200000,.box [.mp 200002]),(200001,.box [.row 150000 0 (kG k s).2.1.length]),(200002,.mp ((kG k s).1.map Fk)),(150000,.sl 2 ((kG k s).2.1.map lp++(kG k s).2.2))]:=by
 unfold kG
 split
 ·rename_i hk
  exact N6 k s.1 _ _ hk
 ·rename_i hk
  have h:=N7 k s.1 s.2.1 s.2.2 hk hw
  simp only[List.append_nil,List.length_append,List.length_singleton]
  exact h
theorem MidK.add {g t:List ByteArray} {s:wA} {todo:List (Nat×Nat)} {k k1:Nat×Nat} (h:MidK g t k (k1::todo) s.1 s.2.1):MidK g t k todo (kG k1 s).1 (kG k1 s).2.1:=by
 unfold kG
 split
 ·rename_i hk;exact h.old hk
 ·rename_i hk;exact h.new hk
def J5 (N:Nat) (s:wA):Nat:=2*(N-s.1.length)+s.2.1.length
theorem MidK.mu {g t:List ByteArray} {s:wA} {todo:List (Nat×Nat)} {k k1:Nat×Nat} (h:MidK g t k (k1::todo) s.1 s.2.1):J5 ((g.length+1)*(t.length+1)) (kG k1 s)≤J5 ((g.length+1)*(t.length+1)) s:=by
 have h2:=h.add
 have h3:=InvK.le h2.nodup h2.inn
 unfold J5 kG at*
 split
 ·exact Nat.le_refl _
 ·rename_i hk
  rw[if_neg hk]at h3
  simp only[List.length_append,List.length_singleton]at h3 ⊢
  omega
theorem Is {N:Nat} {k:Nat×Nat} {a w:List (Nat×Nat)} {xs ys:List PV}:J5 N (a,w,xs)<J5 N (a,w++[k],ys):=by
 unfold J5;simp only[List.length_append,List.length_singleton];omega
theorem Ix (a b:Nat) (met:List (Nat×Nat)):rQ (.agg [pI a,pI b]) (met.map Fk)=if(a,b)∈met then some (.agg [])else none:=Fm (a,b) met
theorem FW (a b:Nat) (met:List (Nat×Nat)):aW (.st [0,0]) (.agg [pI a,pI b]) (met.map Fk):=B3 (a,b) met
set_option maxHeartbeats 2000000 in
theorem No (g t:ByteArray) (hg:g.size≤1000) (ht:t.size≤1000):Fn Tryz.prog 27 [pS g,pS t] (.pv (pB (nT g t))) []:=by
 refine c27.r [] (by simp) ?_
 simp only[go_sem,M27]
 refine aA (by simp only[go_sem]) (by simp only[go_sem]<;>rfl) (Nj g) ⟨rfl,trivial⟩ trivial ?_
 simp only[go_sem]
 refine aF (by simp only[go_sem]) (by simp only[go_sem]) (by simp only[go_sem]<;>rfl) (fun _=>HN t) rfl ?_
 simp only[go_sem]
 refine⟨fun h=>?_,fun h=>?_⟩
 ·unfold nT
  rcases h with h|h
  ·rw[h];rfl
  ·rw[h];simp
 have e:nT g t=mD (eS g) (eS t):=by unfold nT;rw[h.1,h.2];rfl
 rw[e]
 have l1:=sS g
 have l2:=sS t
 have d1:=Cq g
 have d2:=Cq t
 refine aC (by simp only[go_sem]) rfl (OV g hg) (.inl rfl) trivial ?_
 simp only[go_sem]
 refine aC (by simp only[go_sem]) rfl (OV t ht) (.inl rfl) trivial ?_
 simp only[go_sem]
 have lg:(eS g).length≤1001:=by omega
 have lt:(eS t).length≤1001:=by omega
 generalize eS g=G at lg ⊢
 generalize eS t=T at lt ⊢
 refine⟨⟨fun v hv c hc=>?_,⟨_,rfl⟩⟩,?_⟩
 ·subst hv
  simp only[List.map_cons,List.map_nil,List.mem_cons,List.not_mem_nil,or_false]at hc
  rcases hc with rfl|rfl<;>rfl
 have hN:(G.length+1)*(T.length+1)≤1002*1002:=Nat.mul_le_mul (by omega) (by omega)
 refine bK (T:=wA) [5,6,7,8,9] [7,8,27,32] (fun s=>⟨[(5,.pv (ss G)),(6,.pv (ss T)),(7,.ptr 7 0),(8,.ptr 8 0),(9,.fn 80 [.ptr 7 0,.ptr 8 0])],
   [(7,.box [.mp 27]),(8,.box [.row 32 0 s.2.1.length]),(27,.mp (s.1.map Fk)),(32,.sl 2 (s.2.1.map lp++s.2.2))]⟩) (fun s=>InvK G T s.1 s.2.1∧s.2.1.length≤s.1.length) (J5 ((G.length+1)*(T.length+1))) ([(0,0)],[(0,0)],[]) rfl ⟨InvK.init G T,Nat.le_refl _⟩ ?_
 rintro⟨met,ws,xs⟩ ⟨hI,hws⟩
 simp only at hI hws
 have hle:=InvK.le hI.nodup hI.inn
 rcases List.eq_nil_or_concat ws with rfl|⟨w1,k,rfl⟩
 ·have hE:=hI.end_
  rw[←lK]at hE
  cases hm:mD G T with
  | true=>
   have h2:=hE.2 hm
   simp only[go_sem,B27_0,R27_0,Ix,FW,h2]
  | false=>
   have h2:¬(G.length,T.length)∈met:=fun h3=>by rw[hE.1 h3]at hm;cases hm
   simp only[go_sem,B27_0,R27_0,Ix,FW,h2]
 ·rw[List.concat_eq_append]at*
  have hP:=hI.pop
  have hin:=hI.inn k (hI.sub k (by simp))
  rw[List.length_append,List.length_singleton]at hws
  have e1:(((w1.length+1:Nat):Int)-1).toNat=w1.length:=by omega
  have hget:((w1++[k]).map lp++xs).getD w1.length default=lp k:=by simp[List.getD_eq_getElem?_getD]
  have hbs:((w1++[k]).map lp++xs)=w1.map lp++(lp k::xs):=by simp
  by_cases hkg:k.1=G.length
  ·simp only[go_sem,B27_0,List.length_append,List.length_singleton,e1,hget,show(0:Int)<((w1.length+1:Nat):Int)by omega,hkg]
   refine⟨⟨by omega,by omega⟩,⟨by omega,by omega⟩,by omega,⟨by omega,by omega⟩,⟨by omega,by omega⟩,⟨met,w1,lp k::xs⟩,?_,⟨?_,by simp only;omega⟩,Is⟩
   ·rw[hbs];rfl
   ·have:=hP
    unfold mU at this
    rw[if_pos hkg]at this
    exact this.done
  ·have hlt:k.1<G.length:=by omega
   have hgd:G.getD k.1 ⟨#[]⟩=G[k.1]:=by simp[List.getD_eq_getElem?_getD,hlt]
   have mS:∀(k':Nat×Nat) (s:wA),s.2.1.length≤s.1.length→(kG k' s).2.1.length≤(kG k' s).1.length:=fun k' s h=>by
    unfold kG;split
    ·exact h
    ·simp only[List.length_append,List.length_singleton];omega
   have hmw:J5 ((G.length+1)*(T.length+1)) (met,w1,lp k::xs)<J5 ((G.length+1)*(T.length+1)) (met,w1++[k],xs):=Is
   have sides:(-9223372036854775808≤((w1.length+1:Nat):Int)-1∧((w1.length+1:Nat):Int)-1≤9223372036854775807)∧(0≤((w1.length+1:Nat):Int)-1∧((w1.length+1:Nat):Int)-1<((w1.length+1:Nat):Int))∧w1.length<w1.length+1+xs.length∧
     (-9223372036854775808≤((w1.length+1:Nat):Int)-1∧((w1.length+1:Nat):Int)-1≤9223372036854775807)∧(0≤((w1.length+1:Nat):Int)-1∧((w1.length+1:Nat):Int)-1≤((w1.length+1:Nat):Int))∧(k.1:Int)<(G.length:Int):=
    ⟨⟨by omega,by omega⟩,⟨by omega,by omega⟩,by omega,⟨by omega,by omega⟩,⟨by omega,by omega⟩,by omega⟩
   have hPn:=hP
   unfold mU at hPn
   rw[if_neg hkg,hgd]at hPn
   by_cases ha:G[k.1]=wY
   ·rw[if_pos ha]at hPn
    have hS:=H8 (k.1+1,k.2) (met,w1,lp k::xs) (by simp only;omega)
    have hA:=hPn.add (s:=(met,w1,lp k::xs))
    have hmu:=hPn.mu (s:=(met,w1,lp k::xs))
    have hl:=InvK.le hA.nodup hA.inn
    have hm1:=mS (k.1+1,k.2) (met,w1,lp k::xs) (by simp only;omega)
    simp only[go_sem,B27_0,List.length_append,List.length_singleton,e1,hget,show(0:Int)<((w1.length+1:Nat):Int)by omega,show ¬((k.1:Int)=(G.length:Int))by omega,mQ,aK hlt,ha,Nat.sub_zero]
    refine⟨sides.1,sides.2.1,sides.2.2.1,sides.2.2.2.1,sides.2.2.2.2.1,sides.2.2.2.2.2,⟨by omega,by omega⟩,?_⟩
    rw[hbs]
    refine aP (fun n=>if n=200000 then 7 else if n=200001 then 8 else if n=200002 then 27 else 32) (by simp only[go_sem]) (by simp only[go_sem]<;>rfl) hS rfl (by intro e he;simp only[List.mem_cons,List.not_mem_nil,or_false]at he;rcases he with rfl|rfl|rfl|rfl<;>simp only[go_sem]) (by simp) (by simp) (by simp) (by intro e he _;simp only[List.mem_cons,List.not_mem_nil,or_false]at he;rcases he with rfl|rfl|rfl|rfl<;>simp) ?_
    generalize kG (k.1+1,k.2) (met,w1,lp k::xs)=s1 at hA hmu hl hm1 ⊢
    simp only[go_sem]
    refine⟨fun h2=>⟨⟨by omega,by omega⟩,?_⟩,fun h2=>⟨s1,rfl,⟨?_,hm1⟩,by omega⟩⟩
    ·rw[if_pos (by omega)]at hA
     have hS:=H8 (k.1,k.2+1) s1 (by omega)
     have hB:=hA.add
     have hmu2:=hA.mu
     have hm2:=mS (k.1,k.2+1) s1 hm1
     refine aP (fun n=>if n=200000 then 7 else if n=200001 then 8 else if n=200002 then 27 else 32) (by simp only[go_sem]) (by simp only[go_sem]<;>rfl) hS rfl (by intro e he;simp only[List.mem_cons,List.not_mem_nil,or_false]at he;rcases he with rfl|rfl|rfl|rfl<;>simp only[go_sem]) (by simp) (by simp) (by simp) (by intro e he _;simp only[List.mem_cons,List.not_mem_nil,or_false]at he;rcases he with rfl|rfl|rfl|rfl<;>simp) ?_
     simp only[go_sem]
     exact⟨kG (k.1,k.2+1) s1,rfl,⟨hB.done,hm2⟩,by omega⟩
    ·rw[if_neg (by omega)]at hA
     exact hA.done
   ·rw[if_neg ha]at hPn
    by_cases h2:k.2<T.length
    ·have hgd2:T.getD k.2 ⟨#[]⟩=T[k.2]:=by simp[List.getD_eq_getElem?_getD,h2]
     rw[hgd2]at hPn
     by_cases hc:G[k.1]=Gh∨G[k.1]=T[k.2]
     ·rw[if_pos ⟨h2,hc⟩]at hPn
      have hS:=H8 (k.1+1,k.2+1) (met,w1,lp k::xs) (by simp only;omega)
      have hA:=hPn.add (s:=(met,w1,lp k::xs))
      have hmu:=hPn.mu (s:=(met,w1,lp k::xs))
      have hm1:=mS (k.1+1,k.2+1) (met,w1,lp k::xs) (by simp only;omega)
      simp only[go_sem,B27_0,List.length_append,List.length_singleton,e1,hget,show(0:Int)<((w1.length+1:Nat):Int)by omega,show ¬((k.1:Int)=(G.length:Int))by omega,mQ,aK hlt,aK h2,ha,show(k.2:Int)<(T.length:Int)by omega,hc,Nat.sub_zero]
      refine⟨sides.1,sides.2.1,sides.2.2.1,sides.2.2.2.1,sides.2.2.2.2.1,sides.2.2.2.2.2,⟨⟨by omega,by omega⟩,⟨by omega,by omega⟩,?_⟩,fun h=>?_⟩
      ·rw[hbs]
       refine aP (fun n=>if n=200000 then 7 else if n=200001 then 8 else if n=200002 then 27 else 32) (by simp only[go_sem]) (by simp only[go_sem]<;>rfl) hS rfl (by intro e he;simp only[List.mem_cons,List.not_mem_nil,or_false]at he;rcases he with rfl|rfl|rfl|rfl<;>simp only[go_sem]) (by simp) (by simp) (by simp) (by intro e he _;simp only[List.mem_cons,List.not_mem_nil,or_false]at he;rcases he with rfl|rfl|rfl|rfl<;>simp) ?_
       simp only[go_sem]
       exact⟨kG (k.1+1,k.2+1) (met,w1,lp k::xs),rfl,⟨hA.done,hm1⟩,by omega⟩
      ·exact absurd hc (fun h5=>h5.elim h.1 h.2)
     ·rw[if_neg (fun h=>hc h.2)]at hPn
      simp only[go_sem,B27_0,List.length_append,List.length_singleton,e1,hget,show(0:Int)<((w1.length+1:Nat):Int)by omega,show ¬((k.1:Int)=(G.length:Int))by omega,mQ,aK hlt,aK h2,ha,show(k.2:Int)<(T.length:Int)by omega,hc,Nat.sub_zero]
      refine⟨sides.1,sides.2.1,sides.2.2.1,sides.2.2.2.1,sides.2.2.2.2.1,sides.2.2.2.2.2,fun _=>⟨(met,w1,lp k::xs),by rw[hbs],⟨hPn.done,by simp only;omega⟩,hmw⟩⟩
    ·rw[if_neg (fun h=>h2 h.1)]at hPn
     simp only[go_sem,B27_0,List.length_append,List.length_singleton,e1,hget,show(0:Int)<((w1.length+1:Nat):Int)by omega,show ¬((k.1:Int)=(G.length:Int))by omega,mQ,aK hlt,ha,show ¬(k.2:Int)<(T.length:Int)by omega,Nat.sub_zero]
     exact⟨sides.1,sides.2.1,sides.2.2.1,sides.2.2.2.1,sides.2.2.2.2.1,sides.2.2.2.2.2,(met,w1,lp k::xs),by rw[hbs],⟨hPn.done,by simp only;omega⟩,hmw⟩
end Go.Vc

namespace Go.Vc
open Go Go.Proofs Go.Shelf Go.RowKit Go.Sort Go.Lib
set_option linter.unusedSimpArgs false
set_option linter.unusedVariables false
set_option maxRecDepth 100000
def Io:Ren:=⟨fun n=>if n=173 then 76 else if n=246 then 134 else if n=283 then 179 else if n=284 then 180 else if n=285 then 181 else if n=286 then 182 else if n=129 then 216 else if n=317 then 215 else if n=318 then 217 else if n=319 then 218 else if n=320 then 219 else if n=337 then 250 else if n=338 then 251 else n,
 fun t=>if t=171 then 265 else if t=53 then 61 else if t=37 then 153 else if t=173 then 268 else if t=212 then 298 else if t=51 then 299 else if t=213 then 300 else if t=46 then 154 else if t=232 then 326 else if t=233 then 327 else t,
 fun g=>if g=17 then 0 else if g=18 then 2 else if g=19 then 3 else g⟩
theorem Lk:Lays.n173 Tryz.prog Io where
 mixed:=by kernel_rfl
 f129:=by kernel_rfl
 f173:=by kernel_rfl
 f246:=by kernel_rfl
 f283:=by kernel_rfl
 f284:=by kernel_rfl
 f285:=by kernel_rfl
 f286:=by kernel_rfl
 f317:=by kernel_rfl
 f318:=by kernel_rfl
 f319:=by kernel_rfl
 f320:=by kernel_rfl
 f337:=by kernel_rfl
 f338:=by kernel_rfl
 t0:=by kernel_rfl
 a0:=fun w=>by kernel_rfl
 z0:=fun w=>by kernel_rfl
 v0:=fun w=>by kernel_rfl
 t2:=by kernel_rfl
 a2:=fun w=>by kernel_rfl
 z2:=fun w=>by kernel_rfl
 v2:=fun w=>by kernel_rfl
 t3:=by kernel_rfl
 a3:=fun w=>by kernel_rfl
 z3:=fun w=>by kernel_rfl
 v3:=fun w=>by kernel_rfl
 t4:=by kernel_rfl
 a4:=fun w=>by kernel_rfl
 z4:=fun w=>by kernel_rfl
 v4:=fun w=>by kernel_rfl
 t5:=by kernel_rfl
 a5:=fun w=>by kernel_rfl
 z5:=fun w=>by kernel_rfl
 v5:=fun w=>by kernel_rfl
 t9:=by kernel_rfl
 a9:=fun w=>by kernel_rfl
 z9:=fun w=>by kernel_rfl
 v9:=fun w=>by kernel_rfl
 t20:=by kernel_rfl
 a20:=fun w=>by kernel_rfl
 z20:=fun w=>by kernel_rfl
 v20:=fun w=>by kernel_rfl
 t37:=by kernel_rfl
 a37:=fun w=>by kernel_rfl
 z37:=fun w=>by kernel_rfl
 v37:=fun w=>by kernel_rfl
 t46:=by kernel_rfl
 a46:=fun w=>by kernel_rfl
 z46:=fun w=>by kernel_rfl
 v46:=fun w=>by kernel_rfl
 t51:=by kernel_rfl
 a51:=fun w=>by kernel_rfl
 z51:=fun w=>by kernel_rfl
 v51:=fun w=>by kernel_rfl
 t53:=by kernel_rfl
 a53:=fun w=>by kernel_rfl
 z53:=fun w=>by kernel_rfl
 v53:=fun w=>by kernel_rfl
 t171:=by kernel_rfl
 a171:=fun w=>by kernel_rfl
 z171:=fun w=>by kernel_rfl
 v171:=fun w=>by kernel_rfl
 t173:=by kernel_rfl
 a173:=fun w=>by kernel_rfl
 z173:=fun w=>by kernel_rfl
 v173:=fun w=>by kernel_rfl
 t212:=by kernel_rfl
 a212:=fun w=>by kernel_rfl
 z212:=fun w=>by kernel_rfl
 v212:=fun w=>by kernel_rfl
 t213:=by kernel_rfl
 a213:=fun w=>by kernel_rfl
 z213:=fun w=>by kernel_rfl
 t232:=by kernel_rfl
 a232:=fun w=>by kernel_rfl
 z232:=fun w=>by kernel_rfl
 v232:=fun w=>by kernel_rfl
 t233:=by kernel_rfl
 a233:=fun w=>by kernel_rfl
 z233:=fun w=>by kernel_rfl
 v233:=fun w=>by kernel_rfl
 g17:=by kernel_rfl
 g18:=by kernel_rfl
 g19:=by kernel_rfl
theorem Jk:LaysM.n173 Tryz.prog Io where
 ton173:=Lk
 i0:=by kernel_rfl
 i2:=by kernel_rfl
 i3:=by kernel_rfl
 i4:=by kernel_rfl
 i5:=by kernel_rfl
 i9:=by kernel_rfl
 i20:=by kernel_rfl
 i37:=by kernel_rfl
 i46:=by kernel_rfl
 i51:=by kernel_rfl
 i53:=by kernel_rfl
 i171:=by kernel_rfl
 i173:=by kernel_rfl
 i212:=by kernel_rfl
 i232:=by kernel_rfl
 i233:=by kernel_rfl
 m17:=by kernel_rfl
 m18:=by kernel_rfl
 m19:=by kernel_rfl
theorem Rq (n:Int) (h0 : -9223372036854775808≤n) (h1:n≤9223372036854775807):Fn Tryz.prog 76 [pI n,pI 10] (.pv (pS ⟨(Lib.itoa n).toArray⟩)) []:=by
 refine⟨fT (fn:=Tryz.f76) Tryz.func76 (by decide) rfl,fun w F vs hF htb hv=>?_⟩
 simp only[aE,aG]at hv
 obtain⟨u,r,rfl,rfl,u',r',rfl,rfl,rfl⟩:=hv
 have hg:Tryz.prog.globalNamed "internal/strconv.uint64pow10"=some 0:=by kernel_rfl
 obtain⟨t1,t2,t3⟩:=htb ("internal/strconv.uint64pow10",.u64,Lib.pow10Tab) (by simp[Ce]) 0 hg
 have:=Any.strconv_FormatInt_10 Jk n h0 h1 w t3
 refine this.mono fun en w' ⟨e1,k,os,e2⟩=>?_
 subst e1;subst e2
 refine⟨_,⟨grow (w.drewN k) os,F,fun _=>default⟩,rfl,rfl,⟨⟨rfl,rfl,rfl,Lib.size_grow w k os,fun g hg=>Lib.heap_grow_old w k os g hg,trivial⟩,by simp[aB,aG],fun i s xs h=>by simp at h,fun i j hi=>by simp at hi,fun i hi=>by simp at hi,fun b=>by simp⟩⟩
end Go.Vc

namespace Go.Vc
open Go.Proofs
set_option linter.unusedSimpArgs false
set_option linter.unusedVariables false
abbrev Vl.pv (v:Vl):PV:=.agg [pB v.num,pI v.n,pS v.s]
theorem Ea (v:Vl):Fn Tryz.prog 75 [v.pv] (.pv (pB (cU v))) []:=by
 refine c75.r [] (by simp) ?_
 obtain⟨m,n,s⟩:=v
 cases m with
 | true=>
  simp only[go_sem,M75,cU]
  done
 | false=>
  simp only[go_sem,M75,cU]
  rw[show(decide ((s.size:Int)≤60))=decide (s.size≤60)from decide_eq_decide.2 (by omega)]
theorem QB (s:ByteArray):Fn Tryz.prog 128 [pS s,pS xV] (.pv (pB (decide (0≤dE s)))) []:=by
 refine c128.r [] (by simp) ?_
 simp only[go_sem,M128]
 refine aA (by simp only[go_sem]) (by simp only[go_sem]<;>rfl) (Mw s) ⟨rfl,trivial⟩ trivial ?_
 simp only[go_sem]
 done
def b8 (s:ByteArray):Bool:=(decide (s.size≤16) && !decide (0≤dE s))&&nS s
theorem x2 (s:ByteArray):Fn Tryz.prog 71 [pS s] (.pv (pB (b8 s))) []:=by
 refine c71.r [] (by simp) ?_
 simp only[go_sem,M71]
 refine aF (by simp only[go_sem]) (by simp only[go_sem]) (by simp only[go_sem]<;>rfl) (fun _=>QB s) rfl ?_
 simp only[go_sem]
 refine aF (by simp only[go_sem]) (by simp only[go_sem]) (by simp only[go_sem]<;>rfl) (fun _=>HN s) rfl ?_
 simp only[go_sem,b8]
 rw[show(decide ((s.size:Int)≤16))=decide (s.size≤16)from decide_eq_decide.2 (by omega)]
theorem L5 (n:Int):cY 1 [PV.sc (.int .u8 n)]:=fun p hp=>by
 rw[List.mem_singleton]at hp
 subst hp
 exact⟨rfl,fun c hc=>by simp only[PV.cells,List.mem_singleton]at hc;subst hc;rfl⟩
theorem RM:Fn Tryz.prog 26 [.sc (.int .u64 300)] (.pv (pS ⟨#[172,2]⟩)) []:=by
 refine c26.r [] (by simp) ?_
 simp only[go_sem,M26]
 refine bK (T:=Bool) [0,3] [4] (fun t=>if t=true then⟨[(0,.pv (.sc (.int .u64 2))),(3,.row 4 0 1)],[(4,.sl 1 [.sc (.int .u8 172)])]⟩else⟨[(0,.pv (.sc (.int .u64 300))),(3,.row 4 0 0)],[(4,.sl 1 [])]⟩) (fun _=>True) (fun t=>if t=true then 0 else 1) false rfl trivial ?_
 have w1:IntKind.u8.wrap 300=44:=by decide +kernel
 have w2:IntKind.u8.wrap 2=2:=by decide +kernel
 have w3:rN .or .u8 44 128=172:=by decide +kernel
 have w4:Int.fdiv 300 (2^(7:Nat))=2:=by decide +kernel
 rintro(_|_) _
 ·simp only[go_sem,B26_0,w1,w3,w4]
  exact⟨L5 _,true,rfl,by simp⟩
 ·simp only[go_sem,B26_0,R26_0,w2]
  exact⟨L5 _,⟨_,rfl⟩,by decide +kernel⟩
theorem RN:Fn Tryz.prog 25 [(⟨true,-7,⟨#[]⟩⟩:Vl).pv] (.pv (.tup [pS ⟨#[45,55]⟩,pI 0])) []:=by
 refine c25.r [false,false] (by simp) ?_
 simp only[go_sem,M25]
 refine aA (by simp only[go_sem]) (by simp only[go_sem]<;>rfl) (Ea ⟨true,-7,⟨#[]⟩⟩) ⟨rfl,trivial⟩ trivial ?_
 simp only[go_sem,cU]
 refine aA (by simp only[go_sem]) (by simp only[go_sem]<;>rfl) (Rq (-7) (by omega) (by omega)) ⟨rfl,trivial⟩ trivial ?_
 simp only[go_sem]
 rw[show(Lib.itoa (-7))=[45,55]from by decide +kernel]
abbrev Fd.pv (f:Fd):PV:=.agg [pS f.name,pB f.v.num,pI f.v.n,pS f.v.s]
abbrev Ev.cells (e:Ev):List AV:=[.pv (pS e.topic),.pv (pS e.producer),.pv (.sc (.int .u64 e.seq)),.pv (.lst (e.l.map Fd.pv))]
abbrev Ev.pv (e:Ev):PV:=.agg [pS e.topic,pS e.producer,.sc (.int .u64 e.seq),.lst (e.l.map Fd.pv)]
theorem HW (l:List Fd):cY 4 (l.map Fd.pv):=kZ (f:=Fd.pv) (s:=4) (fun a=>⟨rfl,fun c hc=>by
 simp only[PV.cells,List.mem_cons,List.not_mem_nil,or_false]at hc
 rcases hc with rfl|rfl|rfl|rfl<;>rfl⟩) l
def HH (l:List Fd) (i:Nat):Bool:=(b8 (l.getD i default).name&&cU (l.getD i default).v)&&(decide (i=0)||Op.bytesLess (l.getD (i-1) default).name.toList (l.getD i default).name.toList)
def iU (e:Ev):Bool:=((nS e.topic&&b8 e.producer)&&(!decide (e.seq<1)&&decide (e.l.length≤8)))&&(List.range e.l.length).all (HH e.l)
theorem Lh {e:Ev} {i:Nat} (h:i<e.l.length) (ho:HH e.l i=false):iU e=false:=by
 have:(List.range e.l.length).all (HH e.l)=false:=by
  rw[List.all_eq_false]
  exact⟨i,List.mem_range.2 h,by rw[ho];simp⟩
 unfold iU
 rw[this,Bool.and_false]
theorem Ks (e:Ev):Fn Tryz.prog 85 [e.pv] (.pv (pB (iU e))) []:=by
 refine c85.r [] (by simp) ?_
 simp only[go_sem,M85]
 refine aA (by simp only[go_sem]) (by simp only[go_sem]<;>rfl) (HN e.topic) ⟨rfl,trivial⟩ trivial ?_
 simp only[go_sem]
 refine aF (by simp only[go_sem]) (by simp only[go_sem]) (by simp only[go_sem]<;>rfl) (fun _=>x2 e.producer) rfl ?_
 simp only[go_sem]
 refine⟨fun h=>?_,fun h=>?_⟩
 ·unfold iU
  rcases h with((h|h)|h)|h
  ·rw[h];simp
  ·rw[h];simp
  ·simp[h]
  ·have:¬e.l.length≤8:=by omega
   simp[this]
 obtain⟨⟨⟨h1,h2⟩,h3⟩,h4⟩:=h
 have hall:(∀i,i<e.l.length→HH e.l i=true)→iU e=true:=fun ha=>by
  have h4':e.l.length≤8:=by omega
  unfold iU
  rw[h1,h2,List.all_eq_true.2 fun i hi=>ha i (List.mem_range.1 hi)]
  simp[h3,h4']
 have hno:∀i,i<e.l.length→HH e.l i=false→iU e=false:=fun i hi ho=>Lh hi ho
 have h4':e.l.length≤8:=by omega
 generalize iU e=M at hall hno ⊢
 refine bK (T:=Nat) [1,27,28,29] [1] (fun i=>⟨[(1,.ptr 1 0),(27,.pv (.lst (e.l.map Fd.pv))),(28,.pv (pI e.l.length)),(29,.pv (pI i))],[(1,.box e.cells)]⟩) (fun i=>i≤e.l.length∧∀j,j<i→HH e.l j=true) (fun i=>e.l.length-i) 0 ?_ ⟨Nat.zero_le _,fun j hj=>absurd hj (by omega)⟩ ?_
 ·simp only[go_sem]
 rintro i ⟨hi,ho⟩
 by_cases hil:i<e.l.length
 ·have hw:=HW e.l
  obtain⟨f,hf⟩:∃f,f=e.l[i]:=⟨_,rfl⟩
  have hfd:e.l.getD i default=f:=by rw[hf];simp[List.getD_eq_getElem?_getD,hil]
  have c62:=Ea f.v
  by_cases h0:i=0
  ·have hok:HH e.l i=(b8 f.name&&cU f.v):=by unfold HH;rw[hfd,h0];simp
   simp only[go_sem,B85_0,show(i:Int)<(e.l.length:Int)by omega,aK hil,←hf]
   refine⟨hw,?_⟩
   refine aA (by simp only[go_sem]) (by simp only[go_sem]<;>rfl) (x2 f.name) ⟨rfl,trivial⟩ trivial ?_
   simp only[go_sem]
   refine aF (by simp only[go_sem]) (by simp only[go_sem]) (by simp only[go_sem]<;>rfl) (fun _=>c62) rfl ?_
   simp only[go_sem,show ¬(0:Int)<(i:Int)by omega]
   refine⟨fun h=>(hno i hil (by rw[hok];rcases h with h|h<;>rw[h]<;>simp)).symm,fun h=>⟨⟨by omega,by omega⟩,i+1,rfl,⟨hil,fun j hj=>?_⟩,by omega⟩⟩
   by_cases hji:j=i
   ·rw[hji,hok,h.1,h.2];rfl
   ·exact ho j (by omega)
  ·have hil2:i-1<e.l.length:=by omega
   have hgd:e.l.getD (i-1) default=e.l[i-1]:=by simp[List.getD_eq_getElem?_getD,hil2]
   have hok:HH e.l i=((b8 f.name&&cU f.v)&&Op.bytesLess e.l[i-1].name.toList f.name.toList):=by unfold HH;rw[hfd,hgd];simp[h0]
   simp only[go_sem,B85_0,show(i:Int)<(e.l.length:Int)by omega,aK hil,←hf]
   refine⟨hw,?_⟩
   refine aA (by simp only[go_sem]) (by simp only[go_sem]<;>rfl) (x2 f.name) ⟨rfl,trivial⟩ trivial ?_
   simp only[go_sem]
   refine aF (by simp only[go_sem]) (by simp only[go_sem]) (by simp only[go_sem]<;>rfl) (fun _=>c62) rfl ?_
   simp only[go_sem,show(0:Int)<(i:Int)by omega,show((i:Int)-1).toNat=i-1 by omega,aK hil2]
   refine⟨fun h=>⟨h,by omega,by omega⟩,fun h=>⟨h,by omega,by omega,hw⟩,fun h=>(hno i hil (by rw[hok];rcases h with(h|h)|h<;>rw[h]<;>simp)).symm,fun h=>⟨⟨by omega,by omega⟩,i+1,rfl,⟨hil,fun j hj=>?_⟩,by omega⟩⟩
   by_cases hji:j=i
   ·rw[hji,hok,h.1.1,h.1.2,h.2];rfl
   ·exact ho j (by omega)
 ·obtain rfl:i=e.l.length:=by omega
  simp only[go_sem,B85_0,R85_0,show ¬(e.l.length:Int)<(e.l.length:Int)by omega]
  exact(hall ho).symm
theorem Hx:nT ⟨#[97,46,42,42]⟩ ⟨#[97,46,98]⟩=true:=by decide +kernel
theorem R6:Fn Tryz.prog 8 [] (.pv (pB true)) []:=by
 refine c8.r [] (by simp) ?_
 simp only[go_sem,M8]
 refine aA (by simp only[go_sem]) (by simp only[go_sem]<;>rfl) (RN) ⟨rfl,trivial⟩ trivial ?_
 simp only[go_sem]
 refine aA (by simp only[go_sem]) (by simp only[go_sem]<;>rfl) (RM) ⟨rfl,trivial⟩ trivial ?_
 simp only[go_sem]
 have h:=No ⟨#[97,46,42,42]⟩ ⟨#[97,46,98]⟩ (by decide) (by decide)
 rw[Hx]at h
 refine aF (by simp only[go_sem]) (by simp only[go_sem]) (by simp only[go_sem]<;>rfl) (fun _=>h) rfl ?_
 simp only[go_sem]
 done
end Go.Vc

namespace Go.Vc
open Go.Proofs
set_option linter.unusedSimpArgs false
set_option linter.unusedVariables false
set_option maxRecDepth 10000
theorem qZ {a:Nat} (ha:a<18446744073709551616):(BitVec.ofInt 64 (a:Int)).toNat=a:=by
 rw[BitVec.ofInt_natCast,BitVec.toNat_ofNat];exact Nat.mod_eq_of_lt (by omega)
theorem LP {a b:Nat} (ha:a<18446744073709551616) (hb:b<18446744073709551616):rN .or .u64 (a:Int) (b:Int)=((a|||b:Nat):Int):=by
 have hx:a|||b<2^64:=Nat.or_lt_two_pow (by omega) (by omega)
 show IntKind.u64.wrap ((BitVec.ofInt 64 (a:Int)|||BitVec.ofInt 64 (b:Int)).toNat:Int)=_
 rw[BitVec.toNat_or,qZ ha,qZ hb,IntKind.wrap_u64]
 omega
theorem JQ {a b:Nat} (ha:a<18446744073709551616) (hb:b<18446744073709551616):rN .and .u64 (a:Int) (b:Int)=((a&&&b:Nat):Int):=by
 have hx:a&&&b<2^64:=Nat.and_lt_two_pow _ (by omega)
 show IntKind.u64.wrap ((BitVec.ofInt 64 (a:Int)&&&BitVec.ofInt 64 (b:Int)).toNat:Int)=_
 rw[BitVec.toNat_and,qZ ha,qZ hb,IntKind.wrap_u64]
 omega
theorem tQ {a:Nat} (ha:a<256):(BitVec.ofInt 8 (a:Int)).toNat=a:=by
 rw[BitVec.ofInt_natCast,BitVec.toNat_ofNat];exact Nat.mod_eq_of_lt (by omega)
theorem JR {a b:Nat} (ha:a<256) (hb:b<256):rN .or .u8 (a:Int) (b:Int)=((a|||b:Nat):Int):=by
 have hx:a|||b<2^8:=Nat.or_lt_two_pow (by omega) (by omega)
 show IntKind.u8.wrap ((BitVec.ofInt 8 (a:Int)|||BitVec.ofInt 8 (b:Int)).toNat:Int)=_
 rw[BitVec.toNat_or,tQ ha,tQ hb,IntKind.wrap_u8]
 omega
theorem Hw {a b:Nat} (ha:a<256) (hb:b<256):rN .and .u8 (a:Int) (b:Int)=((a&&&b:Nat):Int):=by
 have hx:a&&&b<2^8:=Nat.and_lt_two_pow _ (by omega)
 show IntKind.u8.wrap ((BitVec.ofInt 8 (a:Int)&&&BitVec.ofInt 8 (b:Int)).toNat:Int)=_
 rw[BitVec.toNat_and,tQ ha,tQ hb,IntKind.wrap_u8]
 omega
theorem Qc (n:Int) (h : -9223372036854775808≤n) (h2:n≤9223372036854775807):Fn Tryz.prog 189 [pI n] (.pv (.sc (.int .u64 (vY n)))) []:=by
 refine c189.r [] (by simp) ?_
 simp only[go_sem,M189]
 have e:(2:Int)^1=2:=by decide
 rw[e]
 unfold vY
 refine⟨fun h0=>⟨⟨by omega,by omega⟩,⟨by omega,by omega⟩,?_⟩,fun h0=>⟨⟨by omega,by omega⟩,⟨by omega,by omega⟩,⟨by omega,by omega⟩,⟨by omega,by omega⟩,⟨by omega,by omega⟩,?_⟩⟩
 ·rw[if_pos h0];omega
 ·rw[if_neg h0];omega
theorem Qd (n:Nat) (h:n<18446744073709551616):Fn Tryz.prog 187 [.sc (.int .u64 n)] (.pv (pI (kH n))) []:=by
 refine c187.r [] (by simp) ?_
 simp only[go_sem,M187]
 have e1:=JQ (a:=n) (b:=1) h (by decide)
 rw[Nat.and_one_is_mod]at e1
 have e2:(n:Int).fdiv (2^1)=((n / 2:Nat):Int):=by rw[Int.fdiv_eq_ediv_of_nonneg _ (by decide)];rfl
 rw[show rN .and .u64 (n:Int) 1=((n%2:Nat):Int)from e1,e2]
 unfold kH
 refine⟨fun h0=>⟨⟨by omega,by omega⟩,?_⟩,fun h0=>⟨⟨by omega,by omega⟩,⟨by omega,by omega⟩,⟨by omega,by omega⟩,?_⟩⟩
 ·rw[if_pos (by omega)]
 ·rw[if_neg (by omega)];omega
theorem Ij (l:List Nat) (a b:Nat):j5 l 10 a=j5 l 10 b:=by
 cases l with
 | nil=>rfl
 | cons c r=>unfold j5;rw[if_pos (by omega),if_pos (by omega)]
theorem NK {n a k:Nat} (h:n<2^k):n|||a*2^k=n+a*2^k:=by
 have:=Nat.shiftLeft_add_eq_or_of_lt h a
 rw[Nat.shiftLeft_eq]at this
 rw[Nat.or_comm,←this,Nat.add_comm]
theorem MD (s:ByteArray) (hs:s.size≤9223372036854775807):Fn Tryz.prog 140 [pS s] (.pv (.tup [.sc (.int .u64 (l9 (cF s)).1),pI (l9 (cF s)).2.1,pI (l9 (cF s)).2.2])) []:=by
 refine c140.r [] (by simp) ?_
 simp only[go_sem,M140]
 obtain⟨m,hm⟩:∃m:Nat,m=min s.size 10:=⟨_,rfl⟩
 have hm2:(if(10:Int)<(s.size:Int)then(10:Int)else(s.size:Int))=(m:Int):=by split<;>omega
 rw[hm2]
 refine aZ (T:=Nat×Nat) (fun t=>⟨[(0,.pv (pS s)),(5,.pv (.sc (.int .u64 t.2))),(10,.pv (pI m)),(11,.pv (pI t.1))],[]⟩) (fun t=>t.1≤m∧t.2<128^t.1∧j5 (((cF s).map UInt8.toNat).drop t.1) t.1 t.2=l9 (cF s)) (fun t=>m-t.1) (0,0) rfl ⟨Nat.zero_le _,by decide,rfl⟩ ?_
 rintro⟨i,n⟩ ⟨hi,hn,hq⟩
 simp only at hi hn hq
 have hL:((cF s).map UInt8.toNat).length=s.size:=by rw[List.length_map];rfl
 by_cases hil:i<m
 ·obtain⟨c,hc⟩:∃c:Nat,c=(s.data.getD i 0).toNat:=⟨_,rfl⟩
  have hcl:c<256:=by rw[hc];exact(s.data.getD i 0).toNat_lt
  have hdr:((cF s).map UInt8.toNat).drop i=c::((cF s).map UInt8.toNat).drop (i+1):=by
   rw[List.drop_eq_getElem_cons (by omega)]
   congr 1
   have h9:i<s.data.size:=by show i<s.size;omega
   simp only[List.getElem_map,cF,Array.getElem_toList]
   rw[hc,Array.getD_eq_getD_getElem?,Array.getElem?_eq_getElem h9];rfl
  rw[hdr]at hq
  unfold j5 at hq
  rw[if_neg (by omega)]at hq
  simp only[go_sem,B140_0,show(i:Int)<(m:Int)by omega]
  rw[←hc]
  have hi9:i≤9:=by omega
  have e1:rN .and .u8 (c:Int) 127=((c%128:Nat):Int):=by
   have:=Hw (a:=c) (b:=127) hcl (by decide)
   rw[show c&&&127=c%128 from Nat.and_two_pow_sub_one_eq_mod c 7]at this
   exact this
  have e2:(7*(i:Int)).toNat=7*i:=by omega
  obtain⟨w,hw⟩:∃w:Nat,w=c%128*2^(7*i)%18446744073709551616:=⟨_,rfl⟩
  have e3:IntKind.u64.wrap (((c%128:Nat):Int)*2^(7*i))=(w:Int):=by
   have h0:(((c%128*2^(7*i):Nat)):Int)=((c%128:Nat):Int)*2^(7*i):=by rw[Int.natCast_mul,Int.natCast_pow];rfl
   rw[IntKind.wrap_u64,←h0,hw]
   omega
  have hp:(128:Nat)^i=2^(7*i):=by rw[show(128:Nat)=2^7 by decide,←Nat.pow_mul]
  have hp9:2^(7*i)≤2^63:=Nat.pow_le_pow_right (by decide) (by omega)
  rw[hp]at hn
  have hn64:n<18446744073709551616:=by omega
  have hwl:w<18446744073709551616:=by rw[hw];exact Nat.mod_lt _ (by decide)
  have e4:=LP hn64 hwl
  have hor64:n|||w<2^64:=Nat.or_lt_two_pow (by omega) (by omega)
  have hor:i≤8∨c≤1→n|||w=n+c%128*128^i:=fun h=>by
   have:c%128*2^(7*i)<18446744073709551616:=by
    rcases h with h|h
    ·have h8:2^(7*i)≤2^56:=Nat.pow_le_pow_right (by decide) (by omega)
     have h7:c%128≤127:=by omega
     calc c%128*2^(7*i)≤127*2^56:=Nat.mul_le_mul h7 h8
      _<18446744073709551616:=by decide
    ·have h7:c%128≤1:=by omega
     calc c%128*2^(7*i)≤1*2^63:=Nat.mul_le_mul h7 hp9
      _<18446744073709551616:=by decide
   rw[hw,Nat.mod_eq_of_lt this,NK hn,hp]
  rw[e1,e2,e3,e4]
  refine⟨by omega,⟨by omega,by omega⟩,⟨by omega,by omega⟩,⟨by omega,by omega⟩,fun hbig=>⟨⟨by omega,by omega⟩,(i+1,n|||w),rfl,⟨by omega,?_,?_⟩,by show m-(i+1)<m-i;omega⟩,fun hsm=>⟨fun h=>⟨h,?_⟩,fun hbad=>?_,fun hok=>⟨⟨by omega,by omega⟩,?_⟩⟩⟩
  ·show n|||w<128^(i+1)
   by_cases h8:i≤8
   ·rw[hor (.inl h8),Nat.pow_succ,hp]
    have h7:c%128≤127:=by omega
    have:=Nat.mul_le_mul_right (2^(7*i)) h7
    omega
   ·have h9:i=9:=by omega
    subst h9
    have:(128:Nat)^(9+1)=2^70:=by decide
    omega
  ·rw[if_pos (by omega)]at hq
   by_cases h8:i≤8
   ·show j5 _ (i+1) (n|||w)=_
    rw[hor (.inl h8)];exact hq
   ·have h9:i=9:=by omega
    subst h9
    rw[←hq]
    exact Ij _ _ _
  ·by_cases h9:(i:Int)=9
   ·have hd:¬((c:Int)=0∧0<(i:Int)):=fun⟨a,b⟩=>by omega
    by_cases hc0:(c:Int)=0
    ·exact absurd ⟨hc0,by omega⟩ hd
    ·simp[h9,hc0]
     omega
   ·simp[h9]
  ·rw[if_neg (by omega),if_pos (by omega)]at hq
   rw[←hq];rfl
  ·rw[if_neg (by omega),if_neg (by omega)]at hq
   rw[←hq,hor (by omega)];rfl
 ·simp only[go_sem,B140_0,R140_0,show ¬(i:Int)<(m:Int)by omega]
  have him:i=m:=by omega
  refine⟨fun h=>?_,fun h=>?_⟩
  ·have hi2:i=s.size:=by omega
   rw[List.drop_eq_nil_of_le (by omega)]at hq
   unfold j5 at hq
   rw[if_pos (by omega)]at hq
   rw[←hq];rfl
  ·have hi2:i=10:=by omega
   subst hi2
   cases hd:((cF s).map UInt8.toNat).drop 10 with
   | nil=>rw[hd]at hq;unfold j5 at hq;rw[if_neg (by omega)]at hq;rw[←hq];rfl
   | cons c r=>rw[hd]at hq;unfold j5 at hq;rw[if_pos (by omega)]at hq;rw[←hq];rfl
theorem PC:∀a:Nat,a<256→a|||128=a%128+128:=by decide
abbrev LW (n:Nat):PV:=.sc (.int .u8 (n:Int))
theorem L6 (l:List Nat):cY 1 (l.map LW):=kZ (f:=LW) (s:=1) (fun a=>⟨rfl,fun c hc=>by simp only[PV.cells,List.mem_singleton]at hc;subst hc;rfl⟩) l
theorem DA:∀l:List Nat,j9 (l.map LW)=some (l.map fun n:Nat=>(n:Int))
 | []=>rfl
 | n::l=>by simp only[List.map_cons,j9,DA l]
theorem Ad:∀(l:List Int) (b:ByteArray),(l.foldl (fun r n=>r.push (UInt8.ofNat n.toNat)) b).data.toList=b.data.toList++l.map fun n=>UInt8.ofNat n.toNat
 | [],b=>by simp
 | n::l,b=>by
  rw[List.foldl_cons,Ad l]
  simp[ByteArray.push]
theorem KN (l:List Nat):oO (l.map fun n:Nat=>(n:Int))=bQ (l.map UInt8.ofNat):=by
 have h:(oO (l.map fun n:Nat=>(n:Int))).data.toList=l.map UInt8.ofNat:=by
  unfold oO
  rw[Ad,List.map_map]
  simp[ByteArray.empty,ByteArray.emptyWithCapacity,Function.comp_def]
  rfl
 rw[←jZ (oO _)]
 show bQ (oO _).data.toList=_
 rw[h]
theorem C1 (n:Nat) (h:n<18446744073709551616):Fn Tryz.prog 26 [.sc (.int .u64 n)] (.pv (pS (bQ (dX n)))) []:=by
 refine c26.r [] (by simp) ?_
 simp only[go_sem,M26]
 refine bK (T:=Nat×List Nat) [0,3] [4] (fun t=>⟨[(0,.pv (.sc (.int .u64 t.1))),(3,.row 4 0 t.2.length)],[(4,.sl 1 (t.2.map LW))]⟩) (fun t=>t.1<18446744073709551616∧t.2++iW t.1=iW n) (fun t=>t.1) (n,[]) rfl ⟨h,rfl⟩ ?_
 rintro⟨a,l⟩ ⟨ha,hq⟩
 simp only at ha hq
 have hll:l.length≤10:=by
  have h1:=A4 n 9 (by omega)
  rw[←hq,List.length_append]at h1
  omega
 have tk:(l.map LW).take l.length=l.map LW:=List.take_of_length_le (by simp)
 have wr:IntKind.u8.wrap (a:Int)=((a%256:Nat):Int):=by rw[IntKind.wrap_u8];omega
 by_cases hb:128≤a
 ·have e1:rN .or .u8 ((a%256:Nat):Int) 128=((a%128+128:Nat):Int):=by
   have:=JR (a:=a%256) (b:=128) (by omega) (by decide)
   rw[PC _ (by omega)]at this
   rw[show a%128=a%256%128 by omega]
   exact this
  have e2:(a:Int).fdiv (2^7)=((a / 128:Nat):Int):=by rw[Int.fdiv_eq_ediv_of_nonneg _ (by decide)];rfl
  simp only[go_sem,B26_0,show(128:Int)≤(a:Int)by omega,wr,e1,tk]
  refine⟨⟨L6 [a%128+128],by omega,by omega⟩,(a / 128,l++[a%128+128]),?_,⟨by show a / 128<_;omega,?_⟩,by show a / 128<a;omega⟩
  ·rw[e2]
   simp only[List.length_append,List.length_singleton,List.map_append,List.map_cons,List.map_nil]
  ·rw[tN (by omega)]at hq
   simp only[List.append_assoc,List.singleton_append]
   exact hq
 ·simp only[go_sem,B26_0,R26_0,show ¬(128:Int)≤(a:Int)by omega,wr,tk]
  have e3:(l.map LW++[PV.sc (Value.int IntKind.u8 ((a%256:Nat):Int))]).take (l.length+1)=(iW n).map LW:=by
   rw[List.take_of_length_le (by simp),←hq,tM (by omega),List.map_append,Nat.mod_eq_of_lt (show a<256 by omega)]
   rfl
  rw[e3,DA]
  refine⟨⟨L6 [a%256],by omega,by omega⟩,⟨_,rfl⟩,?_⟩
  simp only[go_sem,KN]
  rfl
end Go.Vc

namespace Go.Vc
open Go.Proofs
set_option linter.unusedSimpArgs false
set_option linter.unusedVariables false
set_option maxRecDepth 10000
theorem Dg {a b:ByteArray} (h:cF a=cF b):a=b:=by rw[←jZ a,←jZ b,h]
theorem dR (l:List UInt8):cF (bQ l)=l:=by simp[cF,bQ]
theorem yN (a b:List UInt8):bQ a++bQ b=bQ (a++b):=Dg (by
 rw[dR]
 simp[cF,bQ,ByteArray.data_append])
theorem Gr (a:List UInt8) (b:ByteArray):bQ a++b=bQ (a++cF b):=by
 rw[←yN,jZ]
theorem jD (a:List UInt8):(bQ a).size=a.length:=rfl
theorem Qs (v:Vl) (h : -9223372036854775808≤v.n) (h2:v.n≤9223372036854775807) (hs:v.s.size≤9223372036854775807):Fn Tryz.prog 144 [v.pv] (.pv (.tup [pS (if cU v then bQ (xX v)else⟨#[]⟩),pI (if cU v then 0 else 1)])) []:=by
 refine c144.r [] (by simp) ?_
 simp only[go_sem,M144]
 refine aA (by simp only[go_sem]) (by simp only[go_sem]<;>rfl) (Ea v) ⟨rfl,trivial⟩ trivial ?_
 simp only[go_sem]
 cases hv:cU v with
 | false=>
  simp only[go_sem]
  done
 | true=>
  obtain⟨m,n,b⟩:=v
  simp only at h h2 hs
  cases m with
  | true=>
   simp only[go_sem]
   refine⟨⟨_,rfl⟩,?_⟩
   refine jJ (by simp only[go_sem]) (by simp only[go_sem]<;>rfl) (Qc n h h2) ⟨rfl,trivial⟩ trivial ?_
   simp only[go_sem]
   refine jJ (by simp only[go_sem]) (by simp only[go_sem]<;>rfl) (C1 (vY n) (tU h h2)) ⟨rfl,trivial⟩ trivial ?_
   have hp:=dS (tU h h2)
   have e1:oO [1]=bQ [1]:=rfl
   simp only[go_sem,e1]
   refine⟨?_,?_⟩
   ·simp only[List.size_toArray,List.length_cons,List.length_nil];omega
   ·rw[yN];rfl
  | false=>
   have hb:b.size≤60:=by simp[cU]at hv;omega
   simp only[go_sem]
   refine⟨⟨_,rfl⟩,by omega,?_⟩
   refine jJ (by simp only[go_sem]) (by simp only[go_sem]<;>rfl) (C1 b.size (by omega)) ⟨rfl,trivial⟩ trivial ?_
   have hp:=dS (n:=b.size) (by omega)
   have e1:oO [2]=bQ [2]:=rfl
   simp only[go_sem,e1]
   refine⟨?_,?_,?_⟩
   ·simp only[List.size_toArray,List.length_cons,List.length_nil];omega
   ·simp only[List.size_toArray,List.length_cons,List.length_nil];omega
   ·rw[yN,Gr];rfl
theorem pZ (l:List UInt8) (a b:Nat):(bQ l).extract a b=bQ ((l.drop a).take (b-a)):=Dg (by
 rw[dR]
 simp[cF,bQ,ByteArray.data_extract,Array.toList_extract,List.extract_eq_take_drop])
theorem L8:∀(l:List Nat) (i n:Nat),i≤10→(j5 l i n).2.2=0→(j5 l i n).2.1≤10∧(j5 l i n).2.1≤i+l.length∧i<(j5 l i n).2.1
 | [],i,n,hi,h=>by
  unfold j5 at h
  simp only at h
  split at h<;>cases h
 | c::r,i,n,hi,h=>by
  unfold j5 at h ⊢
  split
  ·rename_i h1;rw[if_pos h1]at h;cases h
  ·rename_i h1
   rw[if_neg h1]at h
   split
   ·rename_i h2
    rw[if_pos h2]at h
    have:=L8 r (i+1) _ (by omega) h
    simp only[List.length_cons]
    omega
   ·rename_i h2
    rw[if_neg h2]at h
    split
    ·rename_i h3;rw[if_pos h3]at h;cases h
    ·simp only[List.length_cons];omega
theorem BS {l:List UInt8} (h:(l9 l).2.2=0):(l9 l).2.1≤10∧(l9 l).2.1≤l.length∧0<(l9 l).2.1:=by
 have:=L8 (l.map UInt8.toNat) 0 0 (by omega) h
 rw[List.length_map]at this
 unfold l9
 omega
theorem L7:∀(l:List Nat) (i n:Nat),i≤9→n<2^(7*i)→(∀c∈l,c<256)→(j5 l i n).1<2^64
 | [],i,n,_,_,_=>by unfold j5;show 0<2^64;decide
 | c::r,i,n,hi,hn,hc=>by
  have hp:(128:Nat)^i=2^(7*i):=by rw[show(128:Nat)=2^7 by decide,←Nat.pow_mul]
  have hc0:=hc c List.mem_cons_self
  have hstep:n+c%128*128^i<2^(7*(i+1)):=by
   rw[hp,Nat.mul_add,Nat.pow_add,show 2^(7*1)=128 by decide]
   have h7:c%128≤127:=by omega
   have:=Nat.mul_le_mul_right (2^(7*i)) h7
   omega
  unfold j5
  rw[if_neg (by omega)]
  split
  ·by_cases h9:i=9
   ·subst h9
    rw[Ij r _ 0]
    cases r with
    | nil=>decide
    | cons d r=>unfold j5;rw[if_pos (by omega)];decide
   ·exact L7 r (i+1) _ (by omega) hstep (fun x hx=>hc x (List.mem_cons_of_mem _ hx))
  ·rename_i h1
   split
   ·decide
   ·rename_i h2
    show n+c%128*128^i<2^64
    by_cases h9:i=9
    ·have hc1:c≤1:=by omega
     subst h9
     have h63:(128:Nat)^9=2^63:=by decide
     rw[h63]
     have h7:c%128≤1:=by omega
     have:=Nat.mul_le_mul_right (2^63) h7
     have hn':n<2^63:=hn
     omega
    ·have:2^(7*(i+1))≤2^63:=Nat.pow_le_pow_right (by decide) (by omega)
     omega
theorem BR (l:List UInt8):(l9 l).1<18446744073709551616:=by
 have:=L7 (l.map UInt8.toNat) 0 0 (by omega) (by decide) (fun c hc=>by obtain⟨b,_,rfl⟩:=List.mem_map.1 hc;exact b.toNat_lt)
 unfold l9
 omega
theorem OO {k:UInt8} (n:Nat) (h:n<256):(k.toNat:Int)=n↔k=UInt8.ofNat n:=by
 constructor
 ·intro e
  have:k.toNat=n:=by omega
  subst this
  simp
 ·intro e
  subst e
  simp
  omega
theorem Qt (s:ByteArray) (hs:s.size≤9223372036854775000):Fn Tryz.prog 141 [pS s] (.pv (.tup [(jW (cF s)).1.pv,pI (jW (cF s)).2.1,pI (jW (cF s)).2.2])) []:=by
 refine c141.r [] (by simp) ?_
 obtain⟨L,hL⟩:∃L,cF s=L:=⟨_,rfl⟩
 have hsl:s=bQ L:=by rw[←hL,jZ]
 subst hsl
 rw[dR]
 cases L with
 | nil=>
  simp only[go_sem,M141]
  rfl
 | cons k r=>
  have hsz:(bQ (k::r)).size=r.length+1:=rfl
  have hne:¬bQ (k::r)=⟨#[]⟩:=fun h=>by have:=congrArg ByteArray.size h;rw[hsz]at this;cases this
  have hne2:(bQ (k::r)=({ data:=#[] }:ByteArray))=False:=by simp only[hne]
  have hk0:(k::r).toArray.getD 0 0=k:=rfl
  have hk1:(k.toNat:Int)=1↔k=1:=OO 1 (by decide)
  have hk2:(k.toNat:Int)=2↔k=2:=OO 2 (by decide)
  rw[hsz]at hs
  simp only[go_sem,M141,hne2,hk0,hk1,hk2]
  have ht:jW (k::r)=if k≠1∧k≠2 then(default,0,2)else if(l9 r).2.2≠0 then(default,0,(l9 r).2.2)else if k=1 then(⟨true,kH (l9 r).1,⟨#[]⟩⟩,(l9 r).2.1+1,0)else
   if 60<(l9 r).1 then(default,0,2)else if r.length<(l9 r).2.1+(l9 r).1 then(default,0,3)else(⟨false,0,bQ ((r.drop (l9 r).2.1).take (l9 r).1)⟩,(l9 r).2.1+1+(l9 r).1,0):=rfl
  generalize jW (k::r)=T at ht ⊢
  refine⟨by simp,fun h=>?_,fun h=>⟨by simp;omega,?_⟩⟩
  ·rw[if_pos h]at ht
   subst ht;rfl
  rw[if_neg (by rintro⟨a,b⟩;rcases h with h|h<;>contradiction)]at ht
  have hx:(bQ (k::r)).extract 1 (k::r).toArray.size=bQ r:=by
   rw[pZ]
   simp
  rw[hx]
  have h140:=MD (bQ r) (by rw[jD];omega)
  rw[dR]at h140
  refine aC (by simp only[go_sem]) rfl (h140) (.inl rfl) trivial ?_
  have hlt:=BR r
  have hle:=BS (l:=r)
  generalize l9 r=u at hle hlt ht ⊢
  obtain⟨n,kk,e⟩:=u
  simp only at hle hlt ht ⊢
  simp only[go_sem]
  refine⟨fun he=>?_,fun he=>⟨?_,fun h1=>?_,fun h1=>⟨fun h60=>?_,fun h60=>?_⟩⟩⟩
  ·rw[if_pos (by omega)]at ht
   subst ht;rfl
  ·have:=hle (by omega)
   omega
  ·rw[if_neg (by omega),if_pos (hk1.1 h1)]at ht
   subst ht
   refine aA (by simp only[go_sem]) (by simp only[go_sem]<;>rfl) (Qd n hlt) ⟨rfl,trivial⟩ trivial ?_
   simp only[go_sem]
   simp only[Int.natCast_add,Int.natCast_one]
  ·rw[if_neg (by omega),if_neg (fun e=>h1 (hk1.2 e)),if_pos (by omega)]at ht
   subst ht;rfl
  ·have hl3:=hle (by omega)
   rw[if_neg (by omega),if_neg (fun e=>h1 (hk1.2 e)),if_neg (by omega)]at ht
   have hsz2:(k::r).toArray.size=r.length+1:=rfl
   simp only[hsz2]
   refine⟨by omega,by omega,fun h4=>?_,fun h4=>⟨by omega,?_⟩⟩
   ·rw[if_pos (by omega)]at ht
    subst ht;rfl
   ·rw[if_neg (by omega)]at ht
    subst ht
    have e1:((kk:Int)+1).toNat=kk+1:=by omega
    have e2:((kk:Int)+1+n).toNat=kk+1+n:=by omega
    have e3:kk+1+n-(kk+1)=n:=by omega
    rw[e1,e2,pZ,e3,List.drop_succ_cons]
    simp only[Int.natCast_add,Int.natCast_one]
    rfl
end Go.Vc

namespace Go.Vc
open Go.Proofs
set_option maxRecDepth 100000
def M83:MC:=(.seq (.reg [qi 4 (.mv (.c (.int .u64 0)))] [] [0,1] [1023,200000]) (.seq (.seq (.reg [mi 8 0,hI 9 8,fI 10 9 2,lJ 11 10 1,oJ 12 .neq 11 0] [] [0,1,12] [1023,200000]) (.cond (.t 12) (.seq (.reg [qi 4 (.mv (.c (.int .u64 0)))] [] [4] [1023,200000]) .ret) .skip)) (.seq (.reg [mi 14 0,hI 15 14,fI 16 15 0,lJ 17 16 1,mi 18 0,hI 19 18,fI 20 19 1,lJ 21 20 1,qi 22 (.slc (.t 17) (some (.t 21)) none 0 true),cI 23 140 [.t 22],mi 13 23,xI 24 13 0,xI 25 13 1,xI 26 13 2,mi 5 24,mi 6 25,mi 7 26] [] [0,1,5,6,7] [1023,200000]) (.seq (.seq (.reg [mi 27 7,oJ 28 .eql 27 0,mi 29 28,gT 30 29 (.mv (.t 5)),gT 31 29 (.mv (.t 1)),gT 32 29 (.bin .gtr (.t 30) (.t 31)),qi 33 (.pick (.t 29) (.t 32) (.c (.bool false)))] [] [0,5,6,7,33] [1023,200000]) (.cond (.t 33) (.reg [kI 7 2] [] [0,5,6,7] [1023,200000]) .skip)) (.seq (.seq (.reg [mi 34 7,oJ 35 .neq 34 0] [] [0,5,6,7,35] [1023,200000]) (.cond (.t 35) (.seq (.reg [mi 36 0,mi 37 7,hI 38 36,fI 39 38 2,⟨none,none,.st (.t 39) (.t 37) 1⟩] [] [] [1023,200000]) (.seq (.reg [qi 4 (.mv (.c (.int .u64 0)))] [] [4] [1023,200000]) .ret)) .skip)) (.seq (.reg [mi 40 0,hI 41 40,fI 42 41 1,lJ 43 42 1,mi 44 6,oI 45 .add 43 44,hI 46 40,fI 47 46 1,⟨none,none,.st (.t 47) (.t 45) 1⟩] [] [5] [1023,200000]) (.seq (.reg [mi 48 5,mi 4 48] [] [4] [1023,200000]) .ret)))))))
theorem c83:Cd 83 49 [RV.tmp 4] M83:=cO [] (rn [] [(3,[(0,130831),(1,130830),(2,130828),(3,130824),(4,131056),(5,131040),(6,131008),(7,130944),(8,130816),(9,0),(10,130048),(11,116736),(12,102400),(13,73728),(14,114688),(15,98304),(16,65536)],131071)] 11 M83) Tryz.func83 (by kernel_rfl) Tryz.ntmps83
def M82:MC:=(.seq (.reg [qi 4 (.mv (.c (.string ⟨#[]⟩)))] [] [0,1] [1008,200000]) (.seq (.reg [mi 6 0,mi 7 1,dI 8 83 [.t 6,.t 7],qi 9 (.conv .i64 (.t 8)),mi 5 9] [] [0,5] [1008,200000]) (.seq (.seq (.reg [mi 10 0,hI 11 10,fI 12 11 2,lJ 13 12 1,oJ 14 .eql 13 0,mi 15 14,gT 16 15 (.mv (.t 5)),gT 17 15 (.mv (.t 0)),gT 18 15 (.nch (.t 17)),gT 19 15 (.fa (.t 18) 0),gT 20 15 (.ld (.t 19) 1 false),gT 21 15 (.len (.t 20) true),gT 22 15 (.mv (.t 0)),gT 23 15 (.nch (.t 22)),gT 24 15 (.fa (.t 23) 1),gT 25 15 (.ld (.t 24) 1 false),gT 26 15 (.bin .sub (.t 21) (.t 25)),gT 27 15 (.bin .gtr (.t 16) (.t 26)),qi 28 (.pick (.t 15) (.t 27) (.c (.bool false)))] [] [0,5,28] [1008,200000]) (.cond (.t 28) (.reg [mi 29 0,hI 30 29,fI 31 30 2,⟨none,none,.st (.t 31) (ic 3) 1⟩] [] [0,5] [1008,200000]) .skip)) (.seq (.seq (.reg [mi 32 0,hI 33 32,fI 34 33 2,lJ 35 34 1,oJ 36 .neq 35 0] [] [0,5,36] [1008,200000]) (.cond (.t 36) (.seq (.reg [qi 4 (.mv (.c (.string ⟨#[]⟩)))] [] [4] [1008,200000]) .ret) .skip)) (.seq (.reg [mi 37 0,hI 38 37,fI 39 38 1,lJ 40 39 1,mi 41 5,oI 42 .add 40 41,hI 43 37,fI 44 43 1,⟨none,none,.st (.t 44) (.t 42) 1⟩] [] [0,5] [1008,200000]) (.seq (.reg [mi 45 0,hI 46 45,fI 47 46 0,lJ 48 47 1,mi 49 0,hI 50 49,fI 51 50 1,lJ 52 51 1,mi 53 5,oI 54 .sub 52 53,mi 55 0,hI 56 55,fI 57 56 1,lJ 58 57 1,qi 59 (.slc (.t 48) (some (.t 54)) (some (.t 58)) 0 true),mi 4 59] [] [4] [1008,200000]) .ret))))))
theorem c82:Cd 82 60 [RV.tmp 4] M82:=cO [8] (rn [] [(2,[(0,524287),(1,524286),(2,524284),(3,524280),(4,524272),(5,524256),(6,393280),(7,462720),(8,462592),(9,462336),(10,461824),(11,460800),(12,520192),(13,516096),(14,507904),(15,491520),(16,458752),(17,393216),(18,262144)],524287),(7,[(0,49167),(1,49166),(2,49164),(3,49160),(4,49904),(5,49888),(6,49856),(7,49792),(8,49920),(9,49664),(10,64512),(11,63488),(12,61440),(13,57344),(14,49152),(15,32768)],65535)] 8 M82) Tryz.func82 (by kernel_rfl) Tryz.ntmps82
def M84:MC:=(.seq (.reg [aI 2 [.pv (.sc (.bool false)),.pv (.sc (.int .i64 0)),.pv (.sc (.string ⟨#[]⟩))]] [] [0,2] [2,1022,200000]) (.seq (.seq (.reg [mi 6 0,hI 7 6,fI 8 7 2,lJ 9 8 1,oJ 10 .neq 9 0] [] [0,2,10] [2,1022,200000]) (.cond (.t 10) (.seq (.reg [qi 11 (.mk [.pv (.sc (.bool false)),.pv (.sc (.int .i64 0)),.pv (.sc (.string ⟨#[]⟩))] []),⟨none,none,.st (.t 2) (.t 11) 3⟩] [] [2] [2,1022,200000]) .ret) .skip)) (.seq (.seq (.grp [3,1022] [⟨13,none,.q (.mv (.t 0)),[0],[200000]⟩,⟨14,none,.q (.nch (.t 13)),[13],[200000]⟩,⟨15,none,.q (.fa (.t 14) 0),[14],[200000]⟩,⟨16,none,.q (.ld (.t 15) 1 false),[15],[200000]⟩,⟨17,none,.q (.mv (.t 0)),[0],[200000]⟩,⟨18,none,.q (.nch (.t 17)),[17],[200000]⟩,⟨19,none,.q (.fa (.t 18) 1),[18],[200000]⟩,⟨20,none,.q (.ld (.t 19) 1 false),[19],[200000]⟩,⟨21,none,.q (.slc (.t 16) (some (.t 20)) none 0 true),[16,20],[]⟩,⟨22,none,.call (.f 141) [.t 21],[21],[]⟩,⟨12,none,.q (.mv (.t 22)),[22],[1022]⟩,⟨23,none,.q (.ext (.t 12) 0),[12],[1022]⟩,⟨24,none,.q (.ext (.t 12) 1),[12],[1022]⟩,⟨25,none,.q (.ext (.t 12) 2),[12],[1022]⟩,⟨3,none,.alloc [.pv (.sc (.bool false)),.pv (.sc (.int .i64 0)),.pv (.sc (.string ⟨#[]⟩))],[],[]⟩] [0,2,3,4,5,23,24,25] [2,3,1022,200000]) (.reg [⟨none,none,.st (.t 3) (.t 23) 3⟩,mi 4 24,mi 5 25] [] [0,2,3,4,5] [2,3,1022,200000])) (.seq (.reg [mi 26 0,mi 27 0,mi 28 0,hI 29 28,fI 30 29 1,lJ 31 30 1,mi 32 4,oI 33 .add 31 32,mi 34 5,hI 35 26,fI 36 35 1,⟨none,none,.st (.t 36) (.t 33) 1⟩,hI 37 27,fI 38 37 2,⟨none,none,.st (.t 38) (.t 34) 1⟩] [] [2,3] [2,3,1022,200000]) (.seq (.reg [lI 39 3 3,⟨none,none,.st (.t 2) (.t 39) 3⟩] [] [2] [2,1022,200000]) .ret)))))
theorem c84:Cd 84 40 [RV.cell 2 3 true] M84:=cO [] (rz [(3,⟨[0,2,3,4,5],[2,3,1022,200000],[(15,0),(16,196608),(17,131072)],229375,[],some ⟨[3,1022],[(0,[0],[200000]),(1,[13],[200000]),(2,[14],[200000]),(3,[15],[200000]),(4,[0],[200000]),(5,[17],[200000]),(6,[18],[200000]),(7,[19],[200000]),(8,[16,20],[]),(9,[21],[]),(10,[22],[1022]),(11,[12],[1022]),(12,[12],[1022]),(13,[12],[1022]),(14,[],[])],[0,2,3,4,5,23,24,25],[2,3,1022,200000]⟩⟩)] [] [0,1,2,0,4,5] M84) Tryz.func84 (by kernel_rfl) Tryz.ntmps84
end Go.Vc

namespace Go.Vc
open Go.Proofs
set_option linter.unusedSimpArgs false
set_option linter.unusedVariables false
set_option maxRecDepth 10000
abbrev LV (L:List UInt8) (r:Rd):Row:=.box [.pv (pS (bQ L)),.pv (pI r.at_),.pv (pI r.err)]
structure RdOk (L:List UInt8) (r:Rd):Prop where
 rest:r.rest=L.drop r.at_
 le:r.at_≤L.length
 big:L.length≤100000
theorem RdOk.len {L:List UInt8} {r:Rd} (h:RdOk L r):r.rest.length=L.length-r.at_:=by rw[h.rest];simp
theorem RdOk.err {L:List UInt8} {r:Rd} (h:RdOk L r) (e:Nat):RdOk L { r with err:=e }:=⟨h.rest,h.le,h.big⟩
theorem RdOk.adv {L:List UInt8} {r:Rd} (h:RdOk L r) {n e:Nat} (hn:n≤r.rest.length):RdOk L ⟨r.rest.drop n,r.at_+n,e⟩:=⟨by rw[h.rest,List.drop_drop],by have:=h.len;have:=h.le;simp only;omega,h.big⟩
theorem RdOk.num {L:List UInt8} {r:Rd} (h:RdOk L r) (most:Nat):RdOk L (r.num most).2∧((r.num most).2.err=0→(r.num most).1≤most)∧((r.num most).2.err≠0→(r.num most).1=0):=by
 unfold Rd.num
 split
 ·exact⟨h,fun h1=>absurd h1 ‹_›,fun _=>rfl⟩
 split
 ·exact⟨h.err _,fun h1=>absurd h1 ‹_›,fun _=>rfl⟩
 split
 ·exact⟨h.err _,fun h1=>absurd h1 (by simp),fun _=>rfl⟩
 ·rename_i h2 h3
  exact⟨h.adv (BS (by omega)).2.1,fun _=>by simp only;omega,fun h4=>absurd rfl h4⟩
theorem H6 (L:List UInt8) (r:Rd) (h:RdOk L r) (most:Nat) (hm:most≤18446744073709551615):
  j4 Tryz.prog 83 [.ptr 200000 0,.pv (pU most)] [(200000,LV L r)] (.pv (pU (r.num most).1)) [(200000,LV L (r.num most).2)]:=by
 refine c83.s (by simp) (by simp) ?_
 simp only[go_sem,M83]
 refine⟨fun he=>?_,fun he=>?_⟩
 ·have:r.num most=(0,r):=by unfold Rd.num;rw[if_pos (by omega)]
  rw[this];exact⟨rfl,rfl⟩
 have hle:=h.le
 have hb:=h.big
 have hls:L.toArray.size=L.length:=rfl
 refine⟨⟨by omega,by omega⟩,?_⟩
 have hx:(bQ L).extract r.at_ L.toArray.size=bQ r.rest:=by
  rw[pZ,h.rest,hls]
  rw[List.take_of_length_le (by simp)]
 rw[hx]
 have h140:=MD (bQ r.rest) (by rw[jD,h.len];omega)
 rw[dR]at h140
 refine aC (by simp only[go_sem]) rfl (h140) (.inl rfl) trivial ?_
 have hlt:=BR r.rest
 have hul:=BS (l:=r.rest)
 have hrl:=h.len
 unfold Rd.num
 rw[if_neg (by omega)]
 generalize l9 r.rest=u at hlt hul ⊢
 obtain⟨n,k,e⟩:=u
 simp only at hlt hul ⊢
 simp only[go_sem]
 refine⟨fun h1=>?_,fun h1=>⟨fun h2=>?_,fun h2=>?_⟩⟩
 ·rw[if_neg (by omega),if_pos (by omega)]
  simp
 ·rw[if_pos (by omega)]
  simp
 ·have:=hul (by omega)
  rw[if_neg (by omega),if_neg (by omega)]
  refine⟨by omega,?_⟩
  have:r.err=0:=by omega
  simp[this]
theorem RdOk.text {L:List UInt8} {r:Rd} (h:RdOk L r) (most:Nat):RdOk L (r.text most).2:=by
 have h1:=(h.num most).1
 unfold Rd.text
 generalize (r.num most).2=q at h1 ⊢
 generalize (r.num most).1=n
 unfold Rd.short
 split
 ·unfold Rd.cut
  rw[if_pos (by simp)]
  exact h1.err _
 ·rename_i h2
  unfold Rd.cut
  split
  ·exact h1
  ·rename_i h3
   refine h1.adv ?_
   refine Nat.le_of_not_lt fun h4=>h2 ⟨by omega,h4⟩
theorem H7 (L:List UInt8) (r:Rd) (h:RdOk L r) (most:Nat) (hm:most≤1000):
  j4 Tryz.prog 82 [.ptr 200000 0,.pv (pU most)] [(200000,LV L r)] (.pv (pS (r.text most).1)) [(200000,LV L (r.text most).2)]:=by
 refine c82.s (by simp) (by simp) ?_
 simp only[go_sem,M82]
 have hS:=H6 L r h most (by omega)
 refine aP (fun _=>200000) (by simp only[go_sem]) (by simp only[go_sem]<;>rfl) hS rfl (by intro e he;simp only[List.mem_cons,List.not_mem_nil,or_false]at he;subst he;simp only[go_sem]) (by simp) (by simp) (by simp) (by intro e he h2;simp only[List.mem_cons,List.not_mem_nil,or_false]at he;subst he;exact absurd h2 (Nat.lt_irrefl _)) ?_
 simp only[go_sem]
 obtain⟨h1,h2,h3⟩:=h.num most
 unfold Rd.text
 generalize (r.num most).2=q at h1 h2 h3 ⊢
 generalize (r.num most).1=n at h1 h2 h3 ⊢
 have hle:=h1.le
 have hb:=h1.big
 have hln:=h1.len
 have hn:n≤most:=by
  by_cases he:q.err=0
  ·exact h2 he
  ·rw[h3 he];omega
 have hls:L.toArray.size=L.length:=rfl
 simp only[go_sem,hls]
 refine⟨by omega,fun _=>⟨by assumption,by omega,by omega⟩,fun h4=>?_,fun h4=>⟨fun h5=>?_,fun h5=>⟨by omega,by omega,by omega,?_⟩⟩⟩
 ·have e1:q.short n={ q with err:=3 }:=by unfold Rd.short;rw[if_pos ⟨by omega,by omega⟩]
  rw[e1]
  unfold Rd.cut
  rw[if_pos (by simp)]
  exact⟨rfl,rfl⟩
 ·have e1:q.short n=q:=by unfold Rd.short;rw[if_neg (by omega)]
  rw[e1]
  unfold Rd.cut
  rw[if_pos (by omega)]
  exact⟨rfl,rfl⟩
 ·have e1:q.short n=q:=by unfold Rd.short;rw[if_neg (by omega)]
  have e2:((q.at_:Int)+n-n).toNat=q.at_:=by omega
  have e3:((q.at_:Int)+n).toNat=q.at_+n:=by omega
  have e4:q.at_+n-q.at_=n:=by omega
  rw[e1,e2,e3,pZ,e4,←h1.rest]
  unfold Rd.cut
  rw[if_neg (by omega)]
  refine⟨rfl,?_⟩
  have:q.err=0:=by omega
  simp[this]
theorem Dd {l:List UInt8} (hl:l.length≤100000):(jW l).2.1≤l.length:=by
 cases l with
 | nil=>exact Nat.zero_le _
 | cons k r=>
  have h1:=BS (l:=r)
  simp only[jW]
  split
  ·simp
  split
  ·simp
  split
  ·have:=h1 (by omega);simp only[List.length_cons];omega
  split
  ·simp
  split
  ·simp
  ·have:=h1 (by omega);simp only[List.length_cons];omega
theorem RdOk.value {L:List UInt8} {r:Rd} (h:RdOk L r):RdOk L r.value.2:=by
 unfold Rd.value
 split
 ·exact h
 ·exact h.adv (Dd (by rw[h.len];have:=h.big;omega))
theorem PN (L:List UInt8) (r:Rd) (h:RdOk L r):
  j4 Tryz.prog 84 [.ptr 200000 0] [(200000,LV L r)] (.pv r.value.1.pv) [(200000,LV L r.value.2)]:=by
 refine c84.s (by simp) (by simp) ?_
 simp only[go_sem,M84]
 unfold Rd.value
 refine⟨fun he=>?_,fun he=>?_⟩
 ·rw[if_pos (by omega)]
  exact⟨rfl,rfl⟩
 have hle:=h.le
 have hb:=h.big
 have hrl:=h.len
 have hls:L.toArray.size=L.length:=rfl
 rw[if_neg (by omega)]
 have htl:=Dd (l:=r.rest) (by omega)
 have hx:(bQ L).extract r.at_ L.toArray.size=bQ r.rest:=by
  rw[pZ,h.rest,hls]
  rw[List.take_of_length_le (by simp)]
 have h141:=Qt (bQ r.rest) (by rw[jD];omega)
 rw[dR]at h141
 simp only[go_sem,hx]
 refine⟨by omega,?_⟩
 refine cC (by simp only[go_sem]) rfl (h141) (.inl rfl) trivial ?_
 generalize jW r.rest=T at htl ⊢
 obtain⟨v,k,e⟩:=T
 simp only at htl ⊢
 simp only[go_sem]
 refine⟨by omega,?_⟩
 simp
end Go.Vc

namespace Go.Vc
open Go.Proofs
set_option maxRecDepth 100000
def M29:MC:=(.seq (.reg [vI 1 0,aI 2 [.pv (.sc (.string ⟨#[]⟩)),.pv (.sc (.int .i64 0)),.pv (.sc (.int .i64 0)),.pv (.sc (.int .i64 0))]] [] [1,2] [1,2]) (.seq (.seq (.reg [fI 3 1 0,lJ 4 3 1,nI 5 4 true,oJ 6 .gtr 5 10] [] [1,2,6] [1,2]) (.cond (.t 6) (.reg [fI 7 1 0,lJ 8 7 1,qi 9 (.slc (.t 8) none (some (ic 10)) 0 true),fI 10 1 0,⟨none,none,.st (.t 10) (.t 9) 1⟩] [] [1,2] [1,2]) .skip)) (.seq (.reg [lI 11 1 4,⟨none,none,.st (.t 2) (.t 11) 4⟩] [] [2] [2]) .ret)))
theorem c29:Cd 29 12 [RV.cell 2 4 true] M29:=cO [] (rn [] [] 4 M29) Tryz.func29 (by kernel_rfl) Tryz.ntmps29
def M94:MC:=(.seq (.reg [vI 1 0,bI 2 false] [] [1] [1]) (.seq (.seq (.reg [fI 3 1 1,lJ 4 3 1,oJ 5 .lss 4 1,mi 6 5,gF 7 6 (.fa (.t 1) 1),gF 8 6 (.ld (.t 7) 1 false),gF 9 6 (.bin .gtr (.t 8) (ic 6)),qi 10 (.pick (.t 6) (.c (.bool true)) (.t 9)),mi 11 10,gF 12 11 (.fa (.t 1) 3),gF 13 11 (.ld (.t 12) 1 false),gF 14 11 (.bin .lss (.t 13) (ic 0)),qi 15 (.pick (.t 11) (.c (.bool true)) (.t 14)),mi 16 15,gF 17 16 (.fa (.t 1) 3),gF 18 16 (.ld (.t 17) 1 false),gF 19 16 (.bin .gtr (.t 18) (ic 1073741824)),qi 20 (.pick (.t 16) (.c (.bool true)) (.t 19))] [] [1,20] [1]) (.cond (.t 20) (.seq (.reg [bI 2 false] [] [2] []) .ret) .skip)) (.seq (.seq (.reg [fI 21 1 0,lJ 22 21 1] [] [1,22] [1]) (.block 0 (.seq (.seq (.reg [qi 24 (.bin .eql (.t 22) (.c (.string ⟨#[97,108,108]⟩))),mi 23 24] [] [1,22,23] [1]) (.cond (.t 23) .skip (.reg [qi 25 (.bin .eql (.t 22) (.c (.string ⟨#[97,110,121]⟩))),mi 23 25] [] [1,22,23] [1]))) (.cond (.t 23) (.seq (.reg [fI 26 1 2,lJ 27 26 1,oJ 28 .eql 27 0,mi 2 28] [] [2] []) .ret) (.seq (.reg [qi 30 (.bin .eql (.t 22) (.c (.string ⟨#[99,111,117,110,116]⟩))),mi 29 30] [] [1,29] [1]) (.cond (.t 29) (.seq (.reg [fI 31 1 2,lJ 32 31 1,oJ 33 .geq 32 1,mi 34 33,gT 35 34 (.fa (.t 1) 2),gT 36 34 (.ld (.t 35) 1 false),gT 37 34 (.bin .leq (.t 36) (ic 30)),qi 38 (.pick (.t 34) (.t 37) (.c (.bool false))),mi 2 38] [] [2] []) .ret) .skip)))))) (.seq (.reg [bI 2 false] [] [2] []) .ret))))
theorem c94:Cd 94 39 [RV.tmp 2] M94:=cO [] (rn [] [] 10 M94) Tryz.func94 (by kernel_rfl) Tryz.ntmps94
def M206:MC:=(.seq (.reg [vI 2 0,vI 3 1,bI 4 false] [] [2,3] [2,3]) (.seq (.reg [fI 5 3 0,lJ 6 5 1,oJ 7 .geq 6 0,mi 8 7,gT 9 8 (.fa (.t 3) 0),gT 10 8 (.ld (.t 9) 1 false),gT 11 8 (.fa (.t 2) 1),gT 12 8 (.ld (.t 11) 1 false),gT 13 8 (.bin .lss (.t 10) (.t 12)),qi 14 (.pick (.t 8) (.t 13) (.c (.bool false))),mi 15 14,gT 16 15 (.fa (.t 3) 2),gT 17 15 (.ld (.t 16) 1 false),⟨some 18,some (15,true),.call (.f 174) [.t 17]⟩,qi 19 (.pick (.t 15) (.t 18) (.c (.bool false))),mi 4 19] [] [4] [1018]) .ret))
theorem c206:Cd 206 20 [RV.tmp 4] M206:=cO [] (rn [] [] 2 M206) Tryz.func206 (by kernel_rfl) Tryz.ntmps206
def M174:MC:=(.seq (.reg [bI 2 false] [] [0] []) (.seq (.reg [mi 3 0,oJ 4 .geq 3 0,mi 5 4,gT 6 5 (.mv (.t 0)),gT 7 5 (.bin .leq (.t 6) (ic 1099511627775)),qi 8 (.pick (.t 5) (.t 7) (.c (.bool false))),mi 2 8] [] [2] []) .ret))
theorem c174:Cd 174 9 [RV.tmp 2] M174:=cO [] (rn [] [] 2 M174) Tryz.func174 (by kernel_rfl) Tryz.ntmps174
def B173_0:MC:=(.seq (.reg [oI 18 .lss 17 16] [] [1,2,15,16,17,18] [2]) (.seq (.cond (.t 18) .skip (.exit 0)) (.seq (.block 1 (.seq (.reg [mi 19 17,qi 20 (.ia (.t 15) (.t 17) 3),lI 21 20 3,aI 6 [.pv (.sc (.int .i64 0)),.pv (.sc (.int .u64 0)),.pv (.sc (.int .i64 0))],mi 5 19,⟨none,none,.st (.t 6) (.t 21) 3⟩] [] [1,2,5,6,15,16,17] [2,6]) (.seq (.reg [lI 22 2 4,lI 23 6 3,cI 24 206 [.t 22,.t 23],qi 25 (.not (.t 24)),mi 26 25,gF 27 26 (.mv (.t 1)),gF 28 26 (.mv (.t 5)),gF 29 26 (.slc (.t 27) none (some (.t 28)) 3 false),gF 30 26 (.fa (.t 6) 2),gF 31 26 (.ld (.t 30) 1 false),⟨some 32,some (26,false),.call (.f 175) [.t 29,.t 31]⟩,qi 33 (.pick (.t 26) (.c (.bool true)) (.t 32)),mi 34 33,gF 35 34 (.mv (.t 1)),gF 36 34 (.mv (.t 5)),gF 37 34 (.slc (.t 35) none (some (.t 36)) 3 false),gF 38 34 (.fa (.t 6) 1),gF 39 34 (.ld (.t 38) 1 false),⟨some 40,some (34,false),.call (.f 207) [.t 37,.t 39]⟩,qi 41 (.pick (.t 34) (.c (.bool true)) (.t 40))] [] [1,2,15,16,17,41] [2,1024,1032,1040]) (.cond (.t 41) (.seq (.reg [kI 4 1] [] [4] []) .ret) .skip)))) (.reg [oJ 42 .add 17 1,mi 17 42] [] [1,2,15,16,17] [2]))))
def R173_0:MC:=(.seq (.seq (.reg [lI 43 2 4,mi 44 1,cI 45 208 [.t 43,.t 44],nI 46 45 false,oJ 47 .gtr 46 0] [] [47] []) (.cond (.t 47) (.seq (.reg [kI 4 1] [] [4] []) .ret) .skip)) (.seq (.reg [kI 4 0] [] [4] []) .ret))
def M173:MC:=(.seq (.reg [vI 2 0,kI 4 0] [] [1,2] [2]) (.seq (.seq (.reg [lI 7 2 4,cI 8 94 [.t 7],qi 9 (.not (.t 8)),mi 10 9,gF 11 10 (.mv (.t 1)),gF 12 10 (.len (.t 11) false),gF 13 10 (.bin .geq (.t 12) (ic 30)),qi 14 (.pick (.t 10) (.c (.bool true)) (.t 13))] [] [1,2,14] [2,1008]) (.cond (.t 14) (.seq (.reg [kI 4 1] [] [4] []) .ret) .skip)) (.seq (.seq (.reg [mi 15 1,nI 16 15 false,kI 17 0] [] [1,2,15,16,17] [2]) (.block 0 (.loop B173_0))) R173_0)))
theorem c173:Cd 173 48 [RV.tmp 4] M173:=cO [] (rn [] [(6,[(0,1048573),(1,1048574),(2,0),(3,1048568),(4,1048560),(5,1047712),(6,1047744),(7,1047680),(8,1048320),(9,1048064),(10,0),(11,1046528),(12,1044480),(13,827392),(14,835584),(15,819200),(16,983040),(17,917504),(18,0),(19,524288)],1048575)] 12 M173) Tryz.func173 (by kernel_rfl) Tryz.ntmps173
def M175:MC:=(.seq (.reg [bI 4 false] [] [0,1] []) (.seq (.reg [mi 5 0,nI 6 5 false,oJ 7 .gtr 6 0,mi 8 7,gT 9 8 (.mv (.t 1)),gT 10 8 (.mv (.t 0)),gT 11 8 (.mv (.t 0)),gT 12 8 (.len (.t 11) false),gT 13 8 (.bin .sub (.t 12) (ic 1)),gT 14 8 (.ia (.t 10) (.t 13) 3),gT 15 8 (.fa (.t 14) 2),gT 16 8 (.ld (.t 15) 1 false),gT 17 8 (.bin .lss (.t 9) (.t 16)),qi 18 (.pick (.t 8) (.t 17) (.c (.bool false))),mi 4 18] [] [4] []) .ret))
theorem c175:Cd 175 19 [RV.tmp 4] M175:=cO [] (rn [] [] 2 M175) Tryz.func175 (by kernel_rfl) Tryz.ntmps175
def M207:MC:=(.seq (.reg [vI 3 1,bI 4 false] [] [0,3] [3]) (.seq (.reg [mi 5 0,qi 6 (.clo 238 [.t 3]),cI 7 202 [.t 5,.t 6],mi 4 7] [] [4] [1007]) .ret))
theorem c207:Cd 207 8 [RV.tmp 4] M207:=cO [] (rn [] [] 2 M207) Tryz.func207 (by kernel_rfl) Tryz.ntmps207
theorem c176:Cd 176 8 [RV.tmp 2] (Az 3 24):=cO [] (vT 3) Tryz.func176 (by kernel_rfl) Tryz.ntmps176
theorem c202:Cd 202 9 [RV.tmp 4] (KC 237):=cO [] L9 Tryz.func202 (by kernel_rfl) Tryz.ntmps202
def M238:MC:=(.seq (.reg [vI 2 0,bI 3 false] [] [1,2] [2]) (.seq (.reg [fI 4 2 1,lJ 5 4 1,lJ 6 1 1,oI 7 .eql 5 6,mi 3 7] [] [3] []) .ret))
theorem c238:Cd 238 8 [RV.tmp 3] M238:=cO [] (rn [] [] 2 M238) Tryz.func238 (by kernel_rfl) Tryz.ntmps238
theorem c237:Cd 237 19 [RV.tmp 4] (xC 3):=cO [] rU Tryz.func237 (by kernel_rfl) Tryz.ntmps237
def B241_0:MC:=(.seq (.reg [oI 15 .lss 14 13] [] [5,13,14,15] [11]) (.seq (.cond (.t 15) .skip (.exit 0)) (.seq (.block 1 (.seq (.reg [mi 16 14,mi 6 16] [] [5,6,13,14] [11]) (.reg [mi 17 5,mi 18 6,mi 19 6,qi 20 (.ia (.t 17) (.t 18) 1),⟨none,none,.st (.t 20) (.t 19) 1⟩] [] [5,13,14] [11]))) (.reg [oJ 21 .add 14 1,mi 14 21] [] [5,13,14] [11]))))
def R241_0:MC:=(.seq (.reg [mi 22 5,mi 4 22] [] [4] [11]) .ret)
def M241:MC:=(.seq (.reg [qi 4 (.mv .nil)] [] [0,1] []) (.seq (.seq (.reg [mi 7 1,mi 8 0,oI 9 .lss 7 8] [] [0,9] []) (.cond (.t 9) (.seq (.reg [qi 4 (.mv .nil)] [] [4] [11]) .ret) .skip)) (.seq (.reg [mi 10 0,⟨some 11,none,.mks (.t 10) (.t 10) 1 8 (.sc (.int .i64 0))⟩,mi 5 11] [] [5] [11]) (.seq (.seq (.reg [mi 12 5,nI 13 12 false,kI 14 0] [] [5,13,14] [11]) (.block 0 (.loop B241_0))) R241_0))))
theorem c241:Cd 241 23 [RV.tmp 4] M241:=cO [] (rn [] [] 10 M241) Tryz.func241 (by kernel_rfl) Tryz.ntmps241
def M242:MC:=(.seq (.reg [qi 2 (.mv .nil)] [] [0,1] []) (.seq (.reg [fI 3 0 2,lJ 4 3 1,lJ 5 1 1,nI 6 5 false,cI 7 241 [.t 4,.t 6],mi 2 7] [] [2] [1007]) .ret))
theorem c242:Cd 242 8 [RV.tmp 2] M242:=cO [] (rn [] [] 2 M242) Tryz.func242 (by kernel_rfl) Tryz.ntmps242
def M240:MC:=(.seq (.reg [qi 1 (.mv .nil)] [] [0] []) (.seq (.reg [lJ 2 0 1,nI 3 2 false,cI 4 241 [.c (.int .i64 1),.t 3],mi 1 4] [] [1] [1004]) .ret))
theorem c240:Cd 240 5 [RV.tmp 1] M240:=cO [] (rn [] [] 2 M240) Tryz.func240 (by kernel_rfl) Tryz.ntmps240
def B239_0:MC:=(.seq (.reg [oI 10 .lss 9 8] [] [1,3,4,7,8,9,10] [3,25,2004]) (.seq (.cond (.t 10) .skip (.exit 0)) (.seq (.block 1 (.seq (.reg [mi 11 9,qi 12 (.ia (.t 7) (.t 9) 3),lI 13 12 3,aI 6 [.pv (.sc (.int .i64 0)),.pv (.sc (.int .u64 0)),.pv (.sc (.int .i64 0))],mi 5 11,⟨none,none,.st (.t 6) (.t 13) 3⟩] [] [1,3,4,5,6,7,8,9] [3,6,25,2004]) (.seq (.reg [fI 14 6 0,lJ 15 14 1,qi 16 (.iaa (.t 3) (.t 15) 6 1),lJ 17 16 1,qi 18 (.not (.t 17))] [] [1,3,4,5,6,7,8,9,18] [3,6,25,2004]) (.cond (.t 18) (.seq (.reg [fI 19 6 0,lJ 20 19 1,qi 21 (.iaa (.t 3) (.t 20) 6 1),⟨none,none,.st (.t 21) (.c (.bool true)) 1⟩] [] [1,3,4,5,7,8,9] [3,25,2004]) (.reg [mi 22 4,mi 23 5,⟨some 24,none,.lits [.t 23] 1⟩,⟨some 25,none,.app (.t 22) (.t 24) 1 8⟩,mi 4 25] [] [1,3,4,7,8,9] [3,25,2004])) .skip)))) (.reg [oJ 26 .add 9 1,mi 9 26] [] [1,3,4,7,8,9] [3,25,2004]))))
def R239_0:MC:=(.seq (.seq (.reg [mi 27 4,nI 28 27 false,fI 29 1 1,lJ 30 29 1,oI 31 .lss 28 30] [] [4,31] [25,2004]) (.cond (.t 31) (.seq (.reg [qi 2 (.mv .nil)] [] [2] [25,2004]) .ret) .skip)) (.seq (.reg [mi 32 4,mi 2 32] [] [2] [25,2004]) .ret))
def M239:MC:=(.seq (.reg [qi 2 (.mv .nil)] [] [0,1] []) (.seq (.reg [aI 3 [.pv (.sc (.bool false)),.pv (.sc (.bool false)),.pv (.sc (.bool false)),.pv (.sc (.bool false)),.pv (.sc (.bool false)),.pv (.sc (.bool false))]] [] [0,1,3] [3]) (.seq (.reg [qi 4 (.mv .nil)] [(4,2004,1)] [0,1,3,4] [3,25,2004]) (.seq (.seq (.reg [lJ 7 0 1,nI 8 7 false,kI 9 0] [] [1,3,4,7,8,9] [3,25,2004]) (.block 0 (.loop B239_0))) R239_0))))
theorem c239:Cd 239 33 [RV.tmp 2] M239:=cO [] (rn [] [] 13 M239) Tryz.func239 (by kernel_rfl) Tryz.ntmps239
def M208:MC:=(.seq (.reg [vI 2 0,vI 3 1,qi 4 (.mv .nil)] [(2,2,0),(3,3,0)] [2,3] [2,3]) (.seq (.reg [⟨some 8,none,.mkm⟩,qi 9 (.clo 239 [.t 3,.t 2]),⟨none,none,.mset (.t 8) (.c (.string ⟨#[97,108,108]⟩)) (.t 9) Kk.str⟩,qi 10 (.clo 240 [.t 3]),⟨none,none,.mset (.t 8) (.c (.string ⟨#[97,110,121]⟩)) (.t 10) Kk.str⟩,qi 11 (.clo 242 [.t 2,.t 3]),⟨none,none,.mset (.t 8) (.c (.string ⟨#[99,111,117,110,116]⟩)) (.t 11) Kk.str⟩,mi 12 8,mi 5 12] [] [2,5] [2,8]) (.seq (.reg [mi 14 5,fI 15 2 0,lJ 16 15 1,qi 17 (.mget (.t 14) (.t 16) true Kk.str (.pv (.sc .nilFunc))),mi 13 17,xI 18 13 0,xI 19 13 1,mi 6 18,mi 7 19] [] [6,7] [8]) (.seq (.seq (.reg [mi 20 7,qi 21 (.not (.t 20))] [] [6,21] [8]) (.cond (.t 21) (.seq (.reg [qi 4 (.mv .nil)] [] [4] [1023]) .ret) .skip)) (.seq (.reg [mi 22 6,⟨some 23,none,.call (.t 22) []⟩,mi 4 23] [] [4] [1023]) .ret)))))
theorem c208:Cd 208 24 [RV.tmp 4] M208:=cO [] (rn [] [] 6 M208) Tryz.func208 (by kernel_rfl) Tryz.ntmps208
def B126_0:MC:=(.seq (.seq (.reg [mi 24 9,mi 25 1,nI 26 25 false,oI 27 .lss 24 26,mi 28 27,gT 29 28 (.mv (.t 1)),gT 30 28 (.mv (.t 9)),gT 31 28 (.ia (.t 29) (.t 30) 3),gT 32 28 (.fa (.t 31) 2),gT 33 28 (.ld (.t 32) 1 false),gT 34 28 (.fa (.t 3) 3),gT 35 28 (.ld (.t 34) 1 false),gT 36 28 (.bin .add (.t 33) (.t 35)),gT 37 28 (.mv (.t 2)),gT 38 28 (.bin .lss (.t 36) (.t 37)),qi 39 (.pick (.t 28) (.t 38) (.c (.bool false)))] [] [1,2,3,9,39] [3]) (.cond (.t 39) .skip (.exit 0))) (.block 1 (.reg [mi 40 9,oJ 41 .add 40 1,mi 9 41] [] [1,2,3,9] [3])))
def R126_0:MC:=(.seq (.reg [mi 42 1,mi 43 9,qi 44 (.slc (.t 42) (some (.t 43)) none 3 false),mi 46 1,mi 47 9,qi 48 (.slc (.t 46) none (some (.t 47)) 3 false),cI 45 176 [.t 44],cI 49 176 [.t 48],mi 6 45,mi 7 49,kI 8 0] [] [6,7,8] [1045,1049]) .ret)
def M126:MC:=(.seq (.reg [vI 3 0,qi 6 (.mv .nil),qi 7 (.mv .nil),kI 8 0] [] [1,2,3] [3]) (.seq (.seq (.reg [lI 10 3 4,mi 11 1,cI 12 173 [.t 10,.t 11],oJ 13 .neq 12 0,mi 14 13,gF 15 14 (.mv (.t 2)),⟨some 16,some (14,false),.call (.f 174) [.t 15]⟩,gF 17 14 (.not (.t 16)),qi 18 (.pick (.t 14) (.c (.bool true)) (.t 17)),mi 19 18,gF 20 19 (.mv (.t 1)),gF 21 19 (.mv (.t 2)),⟨some 22,some (19,false),.call (.f 175) [.t 20,.t 21]⟩,qi 23 (.pick (.t 19) (.c (.bool true)) (.t 22))] [] [1,2,3,23] [3,1012,1016,1022]) (.cond (.t 23) (.seq (.reg [qi 6 (.mv .nil),qi 7 (.mv .nil),kI 8 1] [] [6,7,8] [1045,1049]) .ret) .skip)) (.seq (.reg [kI 9 0] [] [1,2,3,9] [3]) (.seq (.block 0 (.loop B126_0)) R126_0))))
theorem c126:Cd 126 50 [RV.tmp 6,RV.tmp 7,RV.tmp 8] M126:=cO [] (rn [] [(4,[(0,65529),(1,65534),(2,65532),(3,65528),(4,65520),(5,54176),(6,54208),(7,54144),(8,54016),(9,53760),(10,56320),(11,55296),(12,53248),(13,57344),(14,49152),(15,32768)],65535),(6,[(0,1933),(1,1934),(2,1932),(4,2000),(5,2016),(6,1984),(3,0),(7,0),(8,1792),(9,1536),(10,1024)],2047)] 7 M126) Tryz.func126 (by kernel_rfl) Tryz.ntmps126
def B166_0:MC:=(.seq (.reg [oI 66 .lss 65 64] [] [11,13,14,15,63,64,65,66] [51,85,89,1041,1054,2014,2015]) (.seq (.cond (.t 66) .skip (.exit 0)) (.seq (.block 1 (.seq (.reg [mi 67 65,qi 68 (.ia (.t 63) (.t 65) 3),lI 69 68 3,aI 17 [.pv (.sc (.int .i64 0)),.pv (.sc (.int .u64 0)),.pv (.sc (.int .i64 0))],mi 16 67,⟨none,none,.st (.t 17) (.t 69) 3⟩] [] [11,13,14,15,16,17,63,64,65] [17,51,85,89,1041,1054,2014,2015]) (.seq (.reg [mi 70 13,nI 71 70 false,oJ 72 .gtr 71 0,mi 73 72,gT 74 73 (.mv (.t 13)),gT 75 73 (.ia (.t 74) (ic 0) 1),gT 76 73 (.ld (.t 75) 1 false),gT 77 73 (.mv (.t 16)),gT 78 73 (.bin .eql (.t 76) (.t 77)),qi 79 (.pick (.t 73) (.t 78) (.c (.bool false)))] [] [11,13,14,15,17,63,64,65,79] [17,51,85,89,1041,1054,2014,2015]) (.cond (.t 79) (.seq (.reg [mi 80 13,qi 81 (.slc (.t 80) (some (ic 1)) none 1 false),mi 13 81] [] [11,13,14,15,17,63,64,65] [17,51,85,89,1041,1054,2014,2015]) (.reg [mi 82 15,lI 83 17 3,⟨some 84,none,.lits [.t 83] 3⟩,⟨some 85,none,.app (.t 82) (.t 84) 3 24⟩,mi 15 85] [] [11,13,14,15,63,64,65] [51,85,89,1041,1054,2014,2015])) (.reg [mi 86 14,lI 87 17 3,⟨some 88,none,.lits [.t 87] 3⟩,⟨some 89,none,.app (.t 86) (.t 88) 3 24⟩,mi 14 89] [] [11,13,14,15,63,64,65] [51,85,89,1041,1054,2014,2015]))))) (.reg [oJ 90 .add 65 1,mi 65 90] [] [11,13,14,15,63,64,65] [51,85,89,1041,1054,2014,2015]))))
def R166_0:MC:=(.seq (.reg [mi 91 14,mi 92 15,mi 93 11,mi 6 91,mi 7 92,mi 8 93,kI 9 0] [] [6,7,8,9] [51,85,89,1041,2014,2015]) .ret)
def M166:MC:=(.seq (.reg [vI 3 0,vI 5 2,qi 6 (.mv .nil),qi 7 (.mv .nil),qi 8 (.mv .nil),kI 9 0] [] [1,3,5] [3,5]) (.seq (.seq (.reg [lI 18 3 4,mi 19 1,cI 20 173 [.t 18,.t 19],oJ 21 .neq 20 0,mi 22 21,gF 23 22 (.ld (.t 3) 4 true),gF 24 22 (.ld (.t 5) 3 true),⟨some 25,some (22,false),.call (.f 206) [.t 23,.t 24]⟩,gF 26 22 (.not (.t 25)),qi 27 (.pick (.t 22) (.c (.bool true)) (.t 26))] [] [1,3,5,27] [3,5,1020,1025]) (.cond (.t 27) (.seq (.reg [qi 6 (.mv .nil),qi 7 (.mv .nil),qi 8 (.mv .nil),kI 9 1] [] [6,7,8,9] [51,85,89,1041,2014,2015]) .ret) .skip)) (.seq (.seq (.reg [mi 28 1,fI 29 5 2,lJ 30 29 1,cI 31 175 [.t 28,.t 30]] [] [1,3,5,31] [3,5,1031]) (.cond (.t 31) (.seq (.reg [qi 6 (.mv .nil),qi 7 (.mv .nil),qi 8 (.mv .nil),kI 9 8] [] [6,7,8,9] [51,85,89,1041,2014,2015]) .ret) .skip)) (.seq (.seq (.reg [mi 32 1,fI 33 5 1,lJ 34 33 1,cI 35 207 [.t 32,.t 34]] [] [1,3,5,35] [3,5,1035]) (.cond (.t 35) (.seq (.reg [qi 6 (.mv .nil),qi 7 (.mv .nil),qi 8 (.mv .nil),kI 9 5] [] [6,7,8,9] [51,85,89,1041,2014,2015]) .ret) .skip)) (.seq (.reg [lI 37 3 4,mi 38 1,fI 39 5 2,lJ 40 39 1,cI 41 126 [.t 37,.t 38,.t 40],mi 36 41,xI 42 36 0,xI 43 36 1,xI 44 36 2,mi 10 42,mi 11 43,mi 12 44] [] [3,5,10,11,12] [3,5,51,1041]) (.seq (.seq (.reg [mi 45 12,oJ 46 .neq 45 0] [] [3,5,10,11,12,46] [3,5,51,1041]) (.cond (.t 46) (.seq (.reg [mi 47 12,qi 6 (.mv .nil),qi 7 (.mv .nil),qi 8 (.mv .nil),mi 9 47] [] [6,7,8,9] [51,85,89,1041,2014,2015]) .ret) .skip)) (.seq (.reg [mi 48 10,lI 49 5 3,⟨some 50,none,.lits [.t 49] 3⟩,⟨some 51,none,.app (.t 48) (.t 50) 3 24⟩,mi 10 51] [(1041,1041,0)] [3,10,11] [3,51,1041]) (.seq (.reg [lI 52 3 4,mi 53 10,cI 54 208 [.t 52,.t 53],mi 13 54] [] [10,11,13] [51,1041,1054]) (.seq (.seq (.reg [mi 55 13,nI 56 55 false,oJ 57 .eql 56 0] [] [10,11,13,57] [51,1041,1054]) (.cond (.t 57) (.seq (.seq (.reg [mi 58 10,nI 59 58 false,oJ 60 .geq 59 30] [] [10,11,60] [51,1041]) (.cond (.t 60) (.seq (.reg [qi 6 (.mv .nil),qi 7 (.mv .nil),qi 8 (.mv .nil),kI 9 6] [] [6,7,8,9] [51,85,89,1041,2014,2015]) .ret) .skip)) (.seq (.reg [mi 61 10,mi 62 11,mi 6 61,qi 7 (.mv .nil),mi 8 62,kI 9 0] [] [6,7,8,9] [51,85,89,1041,2014,2015]) .ret)) .skip)) (.seq (.reg [qi 14 (.mv .nil),qi 15 (.mv .nil)] [(14,2014,3),(15,2015,3)] [10,11,13,14,15] [51,85,89,1041,1054,2014,2015]) (.seq (.seq (.reg [mi 63 10,nI 64 63 false,kI 65 0] [] [11,13,14,15,63,64,65] [51,85,89,1041,1054,2014,2015]) (.block 0 (.loop B166_0))) R166_0)))))))))))
theorem c166:Cd 166 94 [RV.tmp 6,RV.tmp 7,RV.tmp 8,RV.tmp 9] M166:=cO [] (rn [] [] 26 M166) Tryz.func166 (by kernel_rfl) Tryz.ntmps166
end Go.Vc

namespace Go.Vc
open Go.Proofs
set_option maxRecDepth 100000
def M120:MC:=(.seq (.reg [vI 2 0,bI 3 false] [] [1,2] [2]) (.seq (.reg [fI 4 2 0,lJ 5 4 1,lJ 6 1 1,oI 7 .eql 5 6,mi 3 7] [] [3] []) .ret))
theorem c120:Cd 120 8 [RV.tmp 3] M120:=cO [] (rn [] [] 2 M120) Tryz.func120 (by kernel_rfl) Tryz.ntmps120
theorem c119:Cd 119 19 [RV.tmp 4] (xC 5):=cO [] rU Tryz.func119 (by kernel_rfl) Tryz.ntmps119
def M63:MC:=(.seq (.reg [vI 3 1,kI 4 0] [] [0,3] [3]) (.seq (.reg [mi 5 0,qi 6 (.clo 120 [.t 3]),cI 7 119 [.t 5,.t 6],mi 4 7] [] [4] [1007]) .ret))
theorem c63:Cd 63 8 [RV.tmp 4] M63:=cO [] (rn [] [] 2 M63) Tryz.func63 (by kernel_rfl) Tryz.ntmps63
def M115:MC:=(.seq (.reg [bI 2 false] [] [0] []) (.seq (.reg [mi 3 0,oJ 4 .geq 3 0,mi 5 4,gT 6 5 (.mv (.t 0)),gT 7 5 (.bin .leq (.t 6) (ic 1099511627775)),qi 8 (.pick (.t 5) (.t 7) (.c (.bool false))),mi 2 8] [] [2] []) .ret))
theorem c115:Cd 115 9 [RV.tmp 2] M115:=cO [] (rn [] [] 2 M115) Tryz.func115 (by kernel_rfl) Tryz.ntmps115
theorem c62:Cd 62 8 [RV.tmp 2] (Az 5 64):=cO [] (vT 5) Tryz.func62 (by kernel_rfl) Tryz.ntmps62
theorem c65:Cd 65 33 [RV.tmp 6] (HU 5 64 (.agg [(.sc (.int .u64 0)),(.sc (.string ⟨#[]⟩)),(.lst []),(.sc (.int .i64 0)),(.sc (.int .i64 0))])):=cO [26,31] H0 Tryz.func65 (by kernel_rfl) Tryz.ntmps65
def M114:MC:=(.seq (.reg [qi 4 (.mv .nil)] [] [0,1] []) (.seq (.reg [mi 5 0,cI 6 62 [.t 5],mi 7 1,mi 8 1,oJ 9 .add 8 1,dI 10 65 [.t 6,.t 7,.t 9],mi 4 10] [] [4] [1006,1010]) .ret))
theorem c114:Cd 114 11 [RV.tmp 4] M114:=cO [10] (rn [] [] 2 M114) Tryz.func114 (by kernel_rfl) Tryz.ntmps114
def M121:MC:=(.seq (.reg [vI 1 0,bI 2 false] [] [1] [1]) (.seq (.reg [fI 3 1 0,lJ 4 3 1,qi 5 (.bin .geq (.t 4) (.c (.int .u64 1))),mi 6 5,gT 7 6 (.fa (.t 1) 1),gT 8 6 (.ld (.t 7) 1 false),⟨some 9,some (6,true),.call (.f 71) [.t 8]⟩,qi 10 (.pick (.t 6) (.t 9) (.c (.bool false))),mi 11 10,gT 12 11 (.fa (.t 1) 2),gT 13 11 (.ld (.t 12) 1 false),gT 14 11 (.len (.t 13) false),gT 15 11 (.bin .geq (.t 14) (ic 1)),qi 16 (.pick (.t 11) (.t 15) (.c (.bool false))),mi 17 16,gT 18 17 (.fa (.t 1) 2),gT 19 17 (.ld (.t 18) 1 false),gT 20 17 (.len (.t 19) false),gT 21 17 (.bin .leq (.t 20) (ic 30)),qi 22 (.pick (.t 17) (.t 21) (.c (.bool false))),mi 23 22,gT 24 23 (.fa (.t 1) 3),gT 25 23 (.ld (.t 24) 1 false),gT 26 23 (.bin .geq (.t 25) (ic 0)),qi 27 (.pick (.t 23) (.t 26) (.c (.bool false))),mi 28 27,gT 29 28 (.fa (.t 1) 3),gT 30 28 (.ld (.t 29) 1 false),gT 31 28 (.bin .lss (.t 30) (ic 5)),qi 32 (.pick (.t 28) (.t 31) (.c (.bool false))),mi 33 32,gT 34 33 (.fa (.t 1) 4),gT 35 33 (.ld (.t 34) 1 false),⟨some 36,some (33,true),.call (.f 115) [.t 35]⟩,qi 37 (.pick (.t 33) (.t 36) (.c (.bool false))),mi 2 37] [] [2] [1009,1036]) .ret))
theorem c121:Cd 121 38 [RV.tmp 2] M121:=cO [] (rn [] [] 2 M121) Tryz.func121 (by kernel_rfl) Tryz.ntmps121
def B73_0:MC:=(.seq (.reg [oI 11 .lss 10 9] [] [0,8,9,10,11] []) (.seq (.cond (.t 11) .skip (.exit 0)) (.seq (.block 1 (.seq (.reg [mi 12 10,qi 13 (.ia (.t 8) (.t 10) 5),lI 14 13 5,aI 4 [.pv (.sc (.int .u64 0)),.pv (.sc (.string ⟨#[]⟩)),.e0,.pv (.sc (.int .i64 0)),.pv (.sc (.int .i64 0))],mi 3 12,⟨none,none,.st (.t 4) (.t 14) 5⟩] [] [0,3,4,8,9,10] [4]) (.seq (.reg [lI 15 4 5,cI 16 121 [.t 15],qi 17 (.not (.t 16)),mi 18 17,gF 19 18 (.mv (.t 3)),gF 20 18 (.bin .gtr (.t 19) (ic 0)),gF 21 18 (.mv (.t 20)),gT 22 21 (.mv (.t 0)),gT 23 21 (.mv (.t 3)),gT 24 21 (.bin .sub (.t 23) (ic 1)),gT 25 21 (.ia (.t 22) (.t 24) 5),gT 26 21 (.fa (.t 25) 0),gT 27 21 (.ld (.t 26) 1 false),gT 28 21 (.fa (.t 4) 0),gT 29 21 (.ld (.t 28) 1 false),gT 30 21 (.bin .geq (.t 27) (.t 29)),gF 31 18 (.pick (.t 21) (.t 30) (.c (.bool false))),qi 32 (.pick (.t 18) (.c (.bool true)) (.t 31))] [] [0,8,9,10,32] [1016]) (.cond (.t 32) (.seq (.reg [kI 2 1] [] [2] []) .ret) .skip)))) (.reg [oJ 33 .add 10 1,mi 10 33] [] [0,8,9,10] []))))
def R73_0:MC:=(.seq (.reg [kI 2 0] [] [2] []) .ret)
def M73:MC:=(.seq (.reg [kI 2 0] [] [0] []) (.seq (.seq (.reg [mi 5 0,nI 6 5 false,oJ 7 .gtr 6 100] [] [0,7] []) (.cond (.t 7) (.seq (.reg [kI 2 1] [] [2] []) .ret) .skip)) (.seq (.seq (.reg [mi 8 0,nI 9 8 false,kI 10 0] [] [0,8,9,10] []) (.block 0 (.loop B73_0))) R73_0)))
theorem c73:Cd 73 34 [RV.tmp 2] M73:=cO [] (rn [] [(6,[(0,262143),(1,0),(2,262140),(3,262136),(4,262128),(5,262112),(6,262080),(7,236672),(8,237312),(9,237056),(10,236544),(11,235520),(12,233472),(13,253952),(14,245760),(15,229376),(16,196608),(17,131072)],262143)] 10 M73) Tryz.func73 (by kernel_rfl) Tryz.ntmps73
def M56:MC:=(.seq (.reg [qi 4 (.mv .nil),kI 5 0] [] [0,1] []) (.seq (.seq (.reg [mi 7 0,cI 8 73 [.t 7],oJ 9 .neq 8 0] [] [0,1,9] [1008]) (.cond (.t 9) (.seq (.reg [qi 4 (.mv .nil),kI 5 1] [] [4,5] [1017]) .ret) .skip)) (.seq (.reg [mi 10 0,mi 11 1,cI 12 63 [.t 10,.t 11],mi 6 12] [] [0,6] [1012]) (.seq (.seq (.reg [mi 13 6,oJ 14 .lss 13 0] [] [0,6,14] [1012]) (.cond (.t 14) (.seq (.reg [qi 4 (.mv .nil),kI 5 4] [] [4,5] [1017]) .ret) .skip)) (.seq (.reg [mi 15 0,mi 16 6,cI 17 114 [.t 15,.t 16],mi 4 17,kI 5 0] [] [4,5] [1017]) .ret)))))
theorem c56:Cd 56 18 [RV.tmp 4,RV.tmp 5] M56:=cO [] (rn [] [] 7 M56) Tryz.func56 (by kernel_rfl) Tryz.ntmps56
def M57:MC:=(.seq (.reg [qi 6 (.mv .nil),bI 7 false,kI 8 0] [] [0,1,2] [1033]) (.seq (.seq (.reg [mi 10 0,cI 11 73 [.t 10],oJ 12 .neq 11 0,mi 13 12,gF 14 13 (.mv (.t 2)),⟨some 15,some (13,false),.call (.f 115) [.t 14]⟩,gF 16 13 (.not (.t 15)),qi 17 (.pick (.t 13) (.c (.bool true)) (.t 16))] [] [0,1,2,17] [1011,1015,1033]) (.cond (.t 17) (.seq (.reg [qi 6 (.mv .nil),bI 7 false,kI 8 1] [] [6,7,8] [1031,1033]) .ret) .skip)) (.seq (.reg [mi 18 0,mi 19 1,cI 20 63 [.t 18,.t 19],mi 9 20] [] [0,2,9] [1020,1033]) (.seq (.seq (.reg [mi 21 9,oJ 22 .lss 21 0] [] [0,2,9,22] [1020,1033]) (.cond (.t 22) (.seq (.reg [qi 6 (.mv .nil),bI 7 false,kI 8 4] [] [6,7,8] [1031,1033]) .ret) .skip)) (.seq (.seq (.reg [mi 23 0,mi 24 9,qi 25 (.ia (.t 23) (.t 24) 5),fI 26 25 3,lJ 27 26 1,oJ 28 .eql 27 4] [] [0,2,9,28] [1020,1033]) (.cond (.t 28) (.seq (.reg [mi 29 0,mi 30 9,cI 31 114 [.t 29,.t 30],mi 6 31,bI 7 true,kI 8 0] [] [6,7,8] [1031,1033]) .ret) .skip)) (.seq (.reg [mi 32 0,cI 33 62 [.t 32],mi 0 33] [] [0,2,9] [1020,1033]) (.seq (.reg [mi 34 0,mi 35 9,qi 36 (.ia (.t 34) (.t 35) 5),fI 37 36 3,lJ 38 37 1,oJ 39 .add 38 1,qi 40 (.ia (.t 34) (.t 35) 5),fI 41 40 3,⟨none,none,.st (.t 41) (.t 39) 1⟩] [] [0,2,9] [1020,1033]) (.seq (.reg [mi 42 0,mi 43 9,mi 44 2,mi 45 0,mi 46 9,qi 47 (.ia (.t 45) (.t 46) 5),fI 48 47 3,lJ 49 48 1,qi 50 (.shf true (ic 1) (.t 49)),oI 51 .add 44 50,qi 52 (.mm false (.t 51) (ic 1099511627775)),qi 53 (.ia (.t 42) (.t 43) 5),fI 54 53 4,⟨none,none,.st (.t 54) (.t 52) 1⟩] [] [0] [1033]) (.seq (.reg [mi 55 0,mi 6 55,bI 7 false,kI 8 0] [] [6,7,8] [1031,1033]) .ret)))))))))
theorem c57:Cd 57 56 [RV.tmp 6,RV.tmp 7,RV.tmp 8] M57:=cO [] (rn [] [] 12 M57) Tryz.func57 (by kernel_rfl) Tryz.ntmps57
def M168:MC:=(.seq (.reg [vI 3 1,qi 4 (.mv .nil),kI 5 0] [] [0,3] [3]) (.seq (.seq (.reg [mi 6 0,cI 7 73 [.t 6],oJ 8 .neq 7 0,mi 9 8,gF 10 9 (.ld (.t 3) 5 true),⟨some 11,some (9,false),.call (.f 121) [.t 10]⟩,gF 12 9 (.not (.t 11)),qi 13 (.pick (.t 9) (.c (.bool true)) (.t 12))] [] [0,3,13] [3,1007,1011]) (.cond (.t 13) (.seq (.reg [qi 4 (.mv .nil),kI 5 1] [] [4,5] [36,1033]) .ret) .skip)) (.seq (.seq (.reg [mi 14 0,nI 15 14 false,oJ 16 .gtr 15 0,mi 17 16,gT 18 17 (.mv (.t 0)),gT 19 17 (.mv (.t 0)),gT 20 17 (.len (.t 19) false),gT 21 17 (.bin .sub (.t 20) (ic 1)),gT 22 17 (.ia (.t 18) (.t 21) 5),gT 23 17 (.fa (.t 22) 0),gT 24 17 (.ld (.t 23) 1 false),gT 25 17 (.fa (.t 3) 0),gT 26 17 (.ld (.t 25) 1 false),gT 27 17 (.bin .geq (.t 24) (.t 26)),qi 28 (.pick (.t 17) (.t 27) (.c (.bool false)))] [] [0,3,28] [3]) (.cond (.t 28) (.seq (.reg [qi 4 (.mv .nil),kI 5 8] [] [4,5] [36,1033]) .ret) .skip)) (.seq (.seq (.reg [mi 29 0,nI 30 29 false,oJ 31 .geq 30 100] [] [0,3,31] [3]) (.cond (.t 31) (.seq (.reg [qi 4 (.mv .nil),kI 5 6] [] [4,5] [36,1033]) .ret) .skip)) (.seq (.seq (.grp [1033] [⟨32,none,.q (.mv (.t 0)),[0],[]⟩,⟨33,none,.call (.f 62) [.t 32],[32],[]⟩,⟨34,none,.q (.ld (.t 3) 5 true),[3],[3]⟩,⟨35,none,.lits [.t 34] 5,[34],[]⟩] [4,5,33,35,36] [36,1033]) (.reg [⟨some 36,none,.app (.t 33) (.t 35) 5 64⟩,mi 4 36,kI 5 0] [] [4,5] [36,1033])) .ret)))))
theorem c168:Cd 168 37 [RV.tmp 4,RV.tmp 5] M168:=cO [] (rz [(7,⟨[4,5],[36,1033],[(4,0),(5,96),(6,64)],111,[],some ⟨[1033],[(0,[0],[]),(1,[32],[]),(2,[3],[3]),(3,[34],[])],[4,5,33,35,36],[36,1033]⟩⟩)] [(3,[(0,32767),(1,32766),(2,32764),(3,32760),(4,26384),(5,26592),(6,26560),(7,26496),(8,26368),(9,26112),(10,25600),(11,30720),(12,28672),(13,24576),(14,16384)],32767)] [0,1,2,3,4,5,6,0] M168) Tryz.func168 (by kernel_rfl) Tryz.ntmps168
def B58_0:MC:=(.seq (.seq (.reg [mi 15 9,mi 16 10,oI 17 .lss 15 16] [] [0,1,2,8,9,10,17] []) (.cond (.t 17) .skip (.exit 0))) (.block 1 (.seq (.reg [mi 18 9,mi 19 10,oI 20 .add 18 19,qi 21 (.conv .u64 (.t 20)),qi 22 (.shf false (.t 21) (.c (.int .u64 1))),qi 23 (.conv .i64 (.t 22)),mi 11 23] [] [0,1,2,8,9,10,11] []) (.seq (.reg [mi 24 2,mi 25 0,mi 26 11,qi 27 (.ia (.t 25) (.t 26) 5),lI 28 27 5,mi 29 1,⟨some 30,none,.call (.t 24) [.t 28,.t 29]⟩,oJ 31 .lss 30 0] [] [0,1,2,8,9,10,11,31] [1030]) (.cond (.t 31) (.reg [mi 32 11,oJ 33 .add 32 1,mi 9 33] [] [0,1,2,8,9,10] []) (.reg [mi 34 11,mi 10 34] [] [0,1,2,8,9,10] []))))))
def R58_0:MC:=(.seq (.reg [mi 35 9,mi 36 9,mi 37 8,oI 38 .lss 36 37,mi 39 38,gT 40 39 (.mv (.t 2)),gT 41 39 (.mv (.t 0)),gT 42 39 (.mv (.t 9)),gT 43 39 (.ia (.t 41) (.t 42) 5),gT 44 39 (.ld (.t 43) 5 true),gT 45 39 (.mv (.t 1)),⟨some 46,some (39,true),.call (.t 40) [.t 44,.t 45]⟩,gT 47 39 (.bin .eql (.t 46) (ic 0)),qi 48 (.pick (.t 39) (.t 47) (.c (.bool false))),mi 6 35,mi 7 48] [] [6,7] [1046]) .ret)
def M58:MC:=(.seq (.reg [kI 6 0,bI 7 false] [] [0,1,2] []) (.seq (.reg [mi 12 0,nI 13 12 false,mi 8 13] [] [0,1,2,8] []) (.seq (.reg [mi 14 8,kI 9 0,mi 10 14] [] [0,1,2,8,9,10] []) (.seq (.block 0 (.loop B58_0)) R58_0))))
theorem c58:Cd 58 49 [RV.tmp 6,RV.tmp 7] M58:=cO [] (rn [] [] 9 M58) Tryz.func58 (by kernel_rfl) Tryz.ntmps58
def M122:MC:=(.seq (.reg [vI 2 0,kI 4 0] [] [1,2] [2]) (.seq (.reg [fI 5 2 0,lJ 6 5 1,mi 7 1,cI 8 60 [.t 6,.t 7],mi 4 8] [] [4] [1008]) .ret))
theorem c122:Cd 122 9 [RV.tmp 4] M122:=cO [] (rn [] [] 2 M122) Tryz.func122 (by kernel_rfl) Tryz.ntmps122
def M64:MC:=(.seq (.reg [vI 4 1,qi 6 (.mv .nil),kI 7 0] [] [0,2,4] [4]) (.seq (.seq (.reg [mi 10 0,cI 11 73 [.t 10],oJ 12 .neq 11 0,mi 13 12,gF 14 13 (.mv (.t 2)),⟨some 15,some (13,false),.call (.f 115) [.t 14]⟩,gF 16 13 (.not (.t 15)),qi 17 (.pick (.t 13) (.c (.bool true)) (.t 16)),mi 18 17,gF 19 18 (.ld (.t 4) 5 true),⟨some 20,some (18,false),.call (.f 121) [.t 19]⟩,gF 21 18 (.not (.t 20)),qi 22 (.pick (.t 18) (.c (.bool true)) (.t 21))] [] [0,2,4,22] [4,1011,1015,1020]) (.cond (.t 22) (.seq (.reg [qi 6 (.mv .nil),kI 7 1] [] [6,7] [1038,1042,1046]) .ret) .skip)) (.seq (.seq (.reg [mi 23 0,fI 24 4 0,lJ 25 24 1,cI 26 63 [.t 23,.t 25],oJ 27 .geq 26 0] [] [0,2,4,27] [4,1026]) (.cond (.t 27) (.seq (.reg [qi 6 (.mv .nil),kI 7 5] [] [6,7] [1038,1042,1046]) .ret) .skip)) (.seq (.seq (.reg [mi 28 0,nI 29 28 false,oJ 30 .geq 29 100] [] [0,2,4,30] [4]) (.cond (.t 30) (.seq (.reg [qi 6 (.mv .nil),kI 7 6] [] [6,7] [1038,1042,1046]) .ret) .skip)) (.seq (.reg [mi 31 2,fI 32 4 3,⟨none,none,.st (.t 32) (ic 0) 1⟩,fI 33 4 4,⟨none,none,.st (.t 33) (.t 31) 1⟩] [] [0,4] [4]) (.seq (.reg [mi 35 0,fI 36 4 0,lJ 37 36 1,cI 38 58 [.t 35,.t 37,.f 122],mi 34 38,xI 39 34 0,xI 40 34 1,mi 8 39,mi 9 40] [] [0,4,8] [4,1038,1046]) (.seq (.seq (.grp [1042] [⟨41,none,.q (.mv (.t 0)),[0],[]⟩,⟨42,none,.call (.f 62) [.t 41],[41],[]⟩,⟨43,none,.q (.mv (.t 8)),[8],[1038,1046]⟩,⟨44,none,.q (.ld (.t 4) 5 true),[4],[4]⟩,⟨45,none,.lits [.t 44] 5,[44],[]⟩] [6,7,42,43,45,46] [1038,1042,1046]) (.reg [dI 46 61 [.t 42,.t 43,.t 45],mi 6 46,kI 7 0] [] [6,7] [1038,1042,1046])) .ret)))))))
theorem c64:Cd 64 47 [RV.tmp 6,RV.tmp 7] M64:=cO [46] (rz [(9,⟨[6,7],[1038,1042,1046],[(5,0),(6,192),(7,128)],223,[],some ⟨[1042],[(0,[0],[]),(1,[41],[]),(2,[8],[1038,1046]),(3,[4],[4]),(4,[44],[])],[6,7,42,43,45,46],[1038,1042,1046]⟩⟩)] [] [0,1,2,3,4,5,6,7,8,0] M64) Tryz.func64 (by kernel_rfl) Tryz.ntmps64
theorem c61:Cd 61 95 [RV.tmp 6] (Ej 5 64 (.agg [(.sc (.int .u64 0)),(.sc (.string ⟨#[]⟩)),(.lst []),(.sc (.int .i64 0)),(.sc (.int .i64 0))]) 117 118):=cO [60,67] CU Tryz.func61 (by kernel_rfl) Tryz.ntmps61
def M60:MC:=(.seq (.reg [kI 4 0] [] [0,1] []) (.seq (.reg [mi 7 0,cI 8 116 [.t 7],mi 5 8] [] [0,1,5] [1008]) (.seq (.reg [mi 9 1,cI 10 116 [.t 9],mi 6 10] [] [0,1,5,6] [1008,1010]) (.seq (.seq (.reg [mi 11 5] [] [0,1,6,11] [1008,1010]) (.cond (.t 11) (.seq (.seq (.reg [mi 12 6] [] [12] [1010]) (.cond (.t 12) (.seq (.reg [kI 4 0] [] [4] []) .ret) .skip)) (.seq (.reg [qi 4 (.mv (.c (.int .i64 (-1))))] [] [4] []) .ret)) .skip)) (.seq (.seq (.reg [mi 13 6] [] [0,1,13] [1010]) (.cond (.t 13) (.seq (.reg [kI 4 1] [] [4] []) .ret) .skip)) (.seq (.seq (.reg [mi 14 0,mi 15 1,oI 16 .lss 14 15] [] [0,1,16] []) (.cond (.t 16) (.seq (.reg [qi 4 (.mv (.c (.int .i64 (-1))))] [] [4] []) .ret) .skip)) (.seq (.seq (.reg [mi 17 0,mi 18 1,oI 19 .gtr 17 18] [] [19] []) (.cond (.t 19) (.seq (.reg [kI 4 1] [] [4] []) .ret) .skip)) (.seq (.reg [kI 4 0] [] [4] []) .ret))))))))
theorem c60:Cd 60 20 [RV.tmp 4] M60:=cO [] (rn [] [] 14 M60) Tryz.func60 (by kernel_rfl) Tryz.ntmps60
def M116:MC:=(.seq (.reg [bI 2 false] [] [0] []) (.seq (.reg [mi 3 0,mi 4 0,oI 5 .neq 3 4,mi 2 5] [] [2] []) .ret))
theorem c116:Cd 116 6 [RV.tmp 2] M116:=cO [] (rn [] [] 2 M116) Tryz.func116 (by kernel_rfl) Tryz.ntmps116
theorem c93:Cd 93 95 [RV.tmp 6] (Ej 3 32 (.agg [(.sc (.string ⟨#[]⟩)),(.sc (.int .u64 0)),(.sc (.int .i64 0))]) 151 152):=cO [60,67] CU Tryz.func93 (by kernel_rfl) Tryz.ntmps93
def M59:MC:=(.seq (.reg [vI 2 0,kI 4 0] [] [1,2] [2]) (.seq (.reg [fI 5 2 0,lJ 6 5 1,mi 7 1,cI 8 60 [.t 6,.t 7],mi 4 8] [] [4] [1008]) .ret))
theorem c59:Cd 59 9 [RV.tmp 4] M59:=cO [] (rn [] [] 2 M59) Tryz.func59 (by kernel_rfl) Tryz.ntmps59
def M38:MC:=(.seq (.reg [kI 4 0] [] [0,1] []) (.seq (.reg [mi 7 0,cI 8 100 [.t 7],mi 5 8] [] [0,1,5] [1008]) (.seq (.reg [mi 9 1,cI 10 100 [.t 9],mi 6 10] [] [0,1,5,6] [1008,1010]) (.seq (.seq (.reg [mi 11 5] [] [0,1,6,11] [1008,1010]) (.cond (.t 11) (.seq (.seq (.reg [mi 12 6] [] [12] [1010]) (.cond (.t 12) (.seq (.reg [kI 4 0] [] [4] []) .ret) .skip)) (.seq (.reg [qi 4 (.mv (.c (.int .i64 (-1))))] [] [4] []) .ret)) .skip)) (.seq (.seq (.reg [mi 13 6] [] [0,1,13] [1010]) (.cond (.t 13) (.seq (.reg [kI 4 1] [] [4] []) .ret) .skip)) (.seq (.seq (.reg [mi 14 0,mi 15 1,oI 16 .lss 14 15] [] [0,1,16] []) (.cond (.t 16) (.seq (.reg [qi 4 (.mv (.c (.int .i64 (-1))))] [] [4] []) .ret) .skip)) (.seq (.seq (.reg [mi 17 0,mi 18 1,oI 19 .gtr 17 18] [] [19] []) (.cond (.t 19) (.seq (.reg [kI 4 1] [] [4] []) .ret) .skip)) (.seq (.reg [kI 4 0] [] [4] []) .ret))))))))
theorem c38:Cd 38 20 [RV.tmp 4] M38:=cO [] (rn [] [] 14 M38) Tryz.func38 (by kernel_rfl) Tryz.ntmps38
def M100:MC:=(.seq (.reg [bI 2 false] [] [0] []) (.seq (.reg [mi 3 0,mi 4 0,oI 5 .neq 3 4,mi 2 5] [] [2] []) .ret))
theorem c100:Cd 100 6 [RV.tmp 2] M100:=cO [] (rn [] [] 2 M100) Tryz.func100 (by kernel_rfl) Tryz.ntmps100
end Go.Vc

namespace Go.Vc
open Go.Proofs
set_option linter.unusedSimpArgs false
set_option linter.unusedVariables false
set_option maxRecDepth 10000
structure Ot where
 id:Int
 sub:ByteArray
 ids:List Int
 tries:Int
 due:Int
 deriving DecidableEq
instance:Inhabited Ot:=⟨⟨0,⟨#[]⟩,[],0,0⟩⟩
abbrev Ot.pv (x:Ot):PV:=.agg [pU x.id,pS x.sub,us x.ids,pI x.tries,pI x.due]
abbrev os (l:List Ot):PV:=.lst (l.map Ot.pv)
theorem eU (l:List Ot):cY 5 (l.map Ot.pv):=kZ (f:=Ot.pv) (s:=5) (fun a=>⟨rfl,fun c hc=>by
 simp only[PV.cells,List.mem_cons,List.not_mem_nil,or_false]at hc
 rcases hc with rfl|rfl|rfl|rfl|rfl<;>rfl⟩) l
theorem QF (x:Ot) (n:Int):Fn Tryz.prog 120 [x.pv,.pt [pU n]] (.pv (pB (decide (x.id=n)))) []:=by
 refine c120.r [] (by simp) ?_
 simp only[go_sem,M120]
theorem QG (l:List Ot) (g:Nat) (caps:List PV) (q:Ot→Bool) (hl:l.length<100000) (hg:∀k∈l,Fn Tryz.prog g (k.pv::caps) (.pv (pB (q k))) []):
  Fn Tryz.prog 119 [os l,.fn g caps] (.pv (pI (gZ q l))) []:=rZ c119.r l (eU l) (fun _=>rfl) g caps q hl hg
def bY (l:List Ot) (n:Int):Int:=gZ (fun x=>decide (x.id=n)) l
theorem HO (l:List Ot) (n:Int) (hl:l.length<100000):Fn Tryz.prog 63 [os l,pU n] (.pv (pI (bY l n))) []:=by
 refine c63.r [] (by simp) ?_
 simp only[go_sem,M63]
 refine aA (by simp only[go_sem]) (by simp only[go_sem]<;>rfl) (QG l 120 [.pt [pU n]] (fun x=>decide (x.id=n)) hl (fun x hx=>QF x n)) ⟨rfl,trivial⟩ trivial ?_
 simp only[go_sem]
 rfl
def dW (n:Int):Bool:=decide (0≤n∧n≤1099511627775)
theorem Ic (n:Int):Fn Tryz.prog 115 [pI n] (.pv (pB (dW n))) []:=by
 refine c115.r [] (by simp) ?_
 simp only[go_sem,M115]
 unfold dW
 by_cases h1:0≤n<;>by_cases h2:n≤1099511627775<;>simp[h1,h2]
theorem Ec (l:List Ot) (hl:l.length<100000):Fn Tryz.prog 62 [os l] (.row 0 0 l.length) [(5,l.map Ot.pv)]:=v1 c62.r l (eU l) hl (by decide) (by decide)
abbrev zO:PV:=.agg [pU 0,pS ⟨#[]⟩,.lst [],pI 0,pI 0]
theorem Mi (xs:List PV) (hx:cY 5 xs) (i:Nat) (hi:i<xs.length) (hl:xs.length<100000):
  j4 Tryz.prog 65 [.row 0 0 xs.length,.pv (pI i),.pv (pI ((i:Int)+1))] [(0,.sl 5 xs)] (.row 0 0 (xs.length-1)) [(0,.sl 5 (xs.take i++(xs.drop (i+1)++[zO])))]:=Ew (by decide) (by decide) (eU [default]) c65.s xs hx i hi hl
def xB (l:List Ot) (i:Nat):List Ot:=l.take i++l.drop (i+1)
theorem MJ (l:List Ot) (i:Nat) (hi:i<l.length) (hl:l.length<100000):Fn Tryz.prog 114 [os l,pI i] (.pv (os (xB l i))) []:=by
 refine c114.r [false] (by simp) ?_
 simp only[go_sem,M114]
 refine aC (by simp only[go_sem]) rfl (Ec l hl) (.inl rfl) trivial ?_
 simp only[go_sem]
 have h:=Mi (l.map Ot.pv) (eU l) i (by simpa using hi) (by simpa using hl)
 rw[List.length_map]at h
 refine⟨⟨by omega,by omega⟩,aP (fun _=>1006) (by simp only[go_sem]) (by simp only[go_sem]<;>rfl) h rfl (by intro e he;simp only[List.mem_cons,List.not_mem_nil,or_false]at he;subst he;simp only[go_sem]) (by simp) (by simp) (by simp) (by intro e he _;decide) ?_⟩
 simp only[go_sem]
 have e3:(List.map Ot.pv l).length=l.length:=List.length_map _
 rw[←List.append_assoc,List.take_append_of_le_length (by rw[List.length_append,List.length_take,List.length_drop];omega),List.take_of_length_le (by rw[List.length_append,List.length_take,List.length_drop];omega)]
 rw[←List.map_take,←List.map_drop,←List.map_append]
 rfl
end Go.Vc

namespace Go.Vc
open Go.Proofs
set_option linter.unusedSimpArgs false
set_option linter.unusedVariables false
set_option maxRecDepth 10000
def rI (x:Ot):Bool:=decide (1≤x.id)&&b8 x.sub&&decide (1≤x.ids.length∧x.ids.length≤30)&&decide (0≤x.tries∧x.tries<5)&&dW x.due
theorem Fv (x:Ot):Fn Tryz.prog 121 [x.pv] (.pv (pB (rI x))) []:=by
 refine c121.r [] (by simp) ?_
 simp only[go_sem,M121]
 refine aF (by simp only[go_sem]) (by simp only[go_sem]) (by simp only[go_sem]<;>rfl) (fun _=>x2 x.sub) rfl ?_
 simp only[go_sem]
 refine aF (by simp only[go_sem]) (by simp only[go_sem]) (by simp only[go_sem]<;>rfl) (fun _=>Ic x.due) rfl ?_
 simp only[go_sem]
 unfold rI
 by_cases h1:1≤x.id<;>cases h2:b8 x.sub<;>by_cases h3:1≤x.ids.length<;>by_cases h4:x.ids.length≤30<;>by_cases h5:0≤x.tries<;>by_cases h6:x.tries<5<;>cases h7:dW x.due<;>simp[h1,h2,h3,h4,h5,h6,h7]<;>omega
def HG (l:List Ot) (i:Nat):Bool:=rI (l.getD i default)&&(decide (i=0)||decide ((l.getD (i-1) default).id<(l.getD i default).id))
def bL (l:List Ot):Bool:=decide (l.length≤100)&&(List.range l.length).all (HG l)
def eR (b:Bool):Int:=if b then 0 else 1
theorem fF (l:List Ot):bL l=true↔l.length≤100∧∀i,i<l.length→HG l i=true:=by
 simp[bL,List.all_eq_true]
theorem Eb (l:List Ot) (hl:l.length<100000):Fn Tryz.prog 73 [os l] (.pv (pI (eR (bL l)))) []:=by
 refine c73.r [] (by simp) ?_
 simp only[go_sem,M73]
 refine⟨fun h=>?_,fun h=>?_⟩
 ·have:bL l=false:=by simp[bL];omega
  rw[this];rfl
 have h100:l.length≤100:=by omega
 refine aZ (T:=Nat) (fun i=>⟨[(0,.pv (os l)),(8,.pv (os l)),(9,.pv (pI l.length)),(10,.pv (pI i))],[]⟩) (fun i=>i≤l.length∧∀j,j<i→HG l j=true) (fun i=>l.length-i) 0 rfl ⟨Nat.zero_le _,fun j h=>absurd h (by omega)⟩ ?_
 intro i ⟨hi,hq⟩
 by_cases hlt:i<l.length
 ·have no:HG l i=false→bL l=false:=fun h=>by
   cases hc:bL l with
   | false=>rfl
   | true=>rw[((fF l).1 hc).2 i hlt]at h;cases h
  have next:HG l i=true→∀j,j<i+1→HG l j=true:=fun h j hj=>by
   by_cases hji:j=i
   ·subst hji;exact h
   ·exact hq j (by omega)
  simp only[go_sem,B73_0,eU,aK hlt,show(i:Int)<(l.length:Int)by omega]
  refine aA (by simp only[go_sem]) (by simp only[go_sem]<;>rfl) (Fv l[i]) ⟨rfl,trivial⟩ trivial ?_
  have hok:HG l i=(rI l[i]&&(decide (i=0)||decide ((l.getD (i-1) default).id<l[i].id))):=by
   unfold HG;rw[aM hlt]
  by_cases h0:i=0
  ·subst h0
   simp only[go_sem]
   simp only[decide_true,Bool.true_or,Bool.and_true]at hok
   refine⟨fun h=>?_,fun h=>⟨1,rfl,⟨by omega,next (by rw[hok];exact h)⟩,by omega⟩⟩
   rw[no (by rw[hok];exact h)];rfl
  ·have hlt1:i-1<l.length:=by omega
   have e1:((i:Int)-1).toNat=i-1:=by omega
   simp only[go_sem,eU,e1,aK hlt1,show(0:Int)<(i:Int)by omega]
   rw[aM hlt1]at hok
   refine⟨fun h=>⟨h,by omega,by omega⟩,fun h=>⟨h,by omega,by omega⟩,fun h=>?_,fun h=>⟨⟨by omega,by omega⟩,i+1,rfl,⟨by omega,next ?_⟩,by omega⟩⟩
   ·rw[no];rfl
    rw[hok]
    rcases h with h|h
    ·rw[h];rfl
    ·simp[h0];omega
   ·rw[hok,h.1]
    simp[h0];omega
 ·simp only[go_sem,B73_0,R73_0,show ¬((i:Int)<(l.length:Int))by omega]
  have:bL l=true:=(fF l).2 ⟨h100,fun j hj=>hq j (by omega)⟩
  rw[this];rfl
theorem y8 (b:Bool):(eR b=0)=(b=true):=by cases b<;>simp[eR]
theorem nA (b:Bool):decide (eR b=0)=b:=by cases b<;>simp[eR]
def lR (l:List Ot) (id:Int):List Ot×Int:=
 if bL l=false then([],1)else if bY l id<0 then([],4)else(xB l (bY l id).toNat,0)
theorem RB (l:List Ot) (id:Int) (hl:l.length<100000):Fn Tryz.prog 56 [os l,pU id] (.pv (.tup [os (lR l id).1,pI (lR l id).2])) []:=by
 refine c56.r [false,false] (by simp) ?_
 simp only[go_sem,M56]
 refine aA (by simp only[go_sem]) (by simp only[go_sem]<;>rfl) (Eb l hl) ⟨rfl,trivial⟩ trivial ?_
 cases hc:bL l with
 | false=>
  simp only[go_sem,eR]
  simp[lR,hc]
 | true=>
  simp only[go_sem,eR]
  refine aA (by simp only[go_sem]) (by simp only[go_sem]<;>rfl) (HO l id hl) ⟨rfl,trivial⟩ trivial ?_
  simp only[go_sem]
  refine⟨fun h=>?_,fun h=>?_⟩
  ·simp[lR,hc,h]
  ·rcases eY (fun x:Ot=>decide (x.id=id)) l with⟨h1,_⟩|⟨n,hn,h1,_⟩
   ·exact absurd (show bY l id<0 by unfold bY;omega) h
   ·have h2:bY l id=(n:Int):=h1
    rw[h2]
    refine aC (by simp only[go_sem]) rfl (MJ l n hn hl) (.inl rfl) trivial ?_
    simp only[go_sem]
    simp[lR,hc,h2,show ¬(n:Int)<0 by omega]
def sZ (l:List Ot) (x:Ot):List Ot×Int:=
 if bL l=false∨rI x=false then([],1)else if 0<l.length∧x.id≤(l.getD (l.length-1) default).id then([],8)else if 100≤l.length then([],6)else(l++[x],0)
theorem Qh (l:List Ot) (x:Ot) (hl:l.length<100000):Fn Tryz.prog 168 [os l,x.pv] (.pv (.tup [os (sZ l x).1,pI (sZ l x).2])) []:=by
 refine c168.r [false,false] (by simp) ?_
 by_cases h0:0<l.length
 ·have e1:((l.length:Int)-1).toNat=l.length-1:=by omega
  have hlt:l.length-1<l.length:=by omega
  simp only[go_sem,M168]
  refine aA (by simp only[go_sem]) (by simp only[go_sem]<;>rfl) (Eb l hl) ⟨rfl,trivial⟩ trivial ?_
  simp only[go_sem]
  refine aF (by simp only[go_sem]) (by simp only[go_sem]) (by simp only[go_sem]<;>rfl) (fun _=>Fv x) rfl ?_
  simp only[go_sem,nA,e1,aK hlt,eU,show(0:Int)<(l.length:Int)by omega]
  have hd:l.getD (l.length-1) default=l[l.length-1]:=aM hlt
  refine⟨fun h=>?_,fun⟨h1,h2⟩=>⟨⟨by omega,by omega⟩,⟨by omega,by omega⟩,fun h3=>?_,fun h3=>⟨fun h4=>?_,fun h4=>?_⟩⟩⟩
  ·simp[sZ,h]
  ·simp only[sZ,h1,h2,h0,hd]
   simp[h3]
  ·simp only[sZ,h1,h2,h0,hd]
   simp[show ¬x.id≤l[l.length-1].id by omega,show 100≤l.length by omega]
  ·refine cC (by simp only[go_sem]) rfl (Ec l hl) (.inl rfl) trivial ?_
   simp only[go_sem]
   refine⟨⟨eU [x],by omega,by omega⟩,?_⟩
   have e2:List.take l.length (List.map Ot.pv l)=List.map Ot.pv l:=bF _ _
   simp only[sZ,h1,h2,h0,hd]
   rw[e2,List.take_of_length_le (by simp)]
   simp[show ¬x.id≤l[l.length-1].id by omega,show ¬100≤l.length by omega]
 ·have hl0:l=[]:=List.eq_nil_of_length_eq_zero (by omega)
  subst hl0
  simp only[go_sem,M168]
  refine aA (by simp only[go_sem]) (by simp only[go_sem]<;>rfl) (Eb [] (by simp)) ⟨rfl,trivial⟩ trivial ?_
  simp only[go_sem]
  refine aF (by simp only[go_sem]) (by simp only[go_sem]) (by simp only[go_sem]<;>rfl) (fun _=>Fv x) rfl ?_
  simp only[go_sem,nA]
  refine⟨fun h=>?_,fun⟨h1,h2⟩=>?_⟩
  ·simp[sZ,h]
  ·refine cC (by simp only[go_sem]) rfl (Ec [] (by simp)) (.inl rfl) trivial ?_
   simp only[go_sem]
   refine⟨eU [x],?_⟩
   simp[sZ,h1,h2]
end Go.Vc

namespace Go.Vc
open Go.Proofs
set_option linter.unusedSimpArgs false
set_option linter.unusedVariables false
set_option maxRecDepth 10000
def xA:ByteArray:={ data:=#[97,108,108] }
def xZ:ByteArray:={ data:=#[97,110,121] }
def iE:ByteArray:={ data:=#[99,111,117,110,116] }
theorem Ky:({ data:=#[97,108,108] }:ByteArray)=xA:=rfl
theorem Kx:({ data:=#[97,110,121] }:ByteArray)=xZ:=rfl
theorem B4:({ data:=#[99,111,117,110,116] }:ByteArray)=iE:=rfl
structure Jn where
 kind:ByteArray
 parts:Int
 need:Int
 window:Int
abbrev Jn.pv (j:Jn):PV:=.agg [pS j.kind,pI j.parts,pI j.need,pI j.window]
def pM (j:Jn):Jn:={ j with kind:=if 10<j.kind.size then j.kind.extract 0 10 else j.kind }
theorem RL (j:Jn):Fn Tryz.prog 29 [j.pv] (.pv (pM j).pv) []:=by
 refine c29.r [] (by simp) ?_
 simp only[go_sem,M29]
 refine⟨fun h=>?_,fun h=>?_⟩
 ·have h':10<j.kind.size:=by omega
  simp[pM,h']
  omega
 ·have h':¬10<j.kind.size:=by omega
  simp[pM,h']
theorem H9 (n:Int):Fn Tryz.prog 174 [pI n] (.pv (pB (dW n))) []:=by
 refine c174.r [] (by simp) ?_
 simp only[go_sem,M174]
 simp[dW]
def kS (j:Jn):Bool:=
 decide (1≤j.parts∧j.parts≤6∧0≤j.window∧j.window≤1073741824)&&
 (if j.kind=iE then decide (1≤j.need∧j.need≤30)else decide (j.kind=xA∨j.kind=xZ)&&decide (j.need=0))
theorem s9:xA≠iE:=by decide
theorem pE:xZ≠iE:=by decide
theorem rW:xA≠xZ:=by decide
theorem Ng (j:Jn):Fn Tryz.prog 94 [j.pv] (.pv (pB (kS j))) []:=by
 refine c94.r [] (by simp) ?_
 simp only[go_sem,M94,Ky,Kx,B4]
 have h1:=s9
 have h2:=pE
 have h3:=rW
 unfold kS
 generalize hA:xA=A at*
 generalize hY:xZ=Y at*
 generalize hC:iE=C at*
 by_cases k1:j.kind=C<;>by_cases k2:j.kind=A<;>by_cases k3:j.kind=Y
 all_goals(first|(exfalso;simp_all;done)|simp only[k1,k2,k3,h1,h2,h3,h1.symm,h2.symm,h3.symm,if_true,if_false,true_or,or_true,false_or,or_false,decide_true,decide_false,Bool.true_and,Bool.false_and,Bool.and_false,true_implies,false_implies,not_true,not_false_eq_true,implies_true,false_and,and_false,and_true,true_and,forall_const,forall_false,ite_true,ite_false])
 all_goals(simp only[←Bool.decide_and,←Bool.decide_or,←decide_not,decide_eq_decide,false_eq_decide_iff,true_eq_decide_iff];omega)
structure Kp where
 part:Int
 id:Int
 at_:Int
 deriving DecidableEq
abbrev Kp.pv (k:Kp):PV:=.agg [pI k.part,pU k.id,pI k.at_]
abbrev ks (l:List Kp):PV:=.lst (l.map Kp.pv)
theorem fX (l:List Kp):cY 3 (l.map Kp.pv):=by
 intro p hp
 obtain⟨k,_,rfl⟩:=List.mem_map.1 hp
 refine⟨rfl,fun c hc=>?_⟩
 simp[PV.cells]at hc
 rcases hc with rfl|rfl|rfl<;>rfl
instance:Inhabited Kp:=⟨⟨0,0,0⟩⟩
theorem jR {l:List Kp} {i:Nat} (h:i<l.length):(l.map Kp.pv).getD i default=(l.getD i default).pv:=by
 simp[List.getD_eq_getElem?_getD,h]
abbrev MV (n:Nat):AV:=.row 0 0 n
theorem gV (l:List Kp) (n:Nat):(l.map Kp.pv).take n=(l.take n).map Kp.pv:=by rw[List.map_take]
theorem wU (l:List Kp) (n:Nat):(l.map Kp.pv).drop n=(l.drop n).map Kp.pv:=by rw[List.map_drop]
theorem C2 (l:List Kp) (hl:l.length<100000):Fn Tryz.prog 176 [ks l] (MV l.length) [(3,l.map Kp.pv)]:=v1 c176.r l (fX l) hl (by decide) (by decide)
def gQ (j:Jn) (k:Kp):Bool:=decide (0≤k.part∧k.part<j.parts)&&dW k.at_
theorem Ms (j:Jn) (k:Kp):Fn Tryz.prog 206 [j.pv,k.pv] (.pv (pB (gQ j k))) []:=by
 refine c206.r [] (by simp) ?_
 simp only[go_sem,M206]
 refine aF (by simp only[go_sem]) (by simp only[go_sem]) (by simp only[go_sem]<;>rfl) (fun _=>H9 k.at_) rfl ?_
 simp only[go_sem]
 simp[gQ]
def dU (l:List Kp) (at_:Int):Bool:=decide (0<l.length)&&decide (at_<(l.getD (l.length-1) default).at_)
theorem Fs (l:List Kp) (n:Int) (hl:l.length<4611686018427387904):Fn Tryz.prog 175 [ks l,pI n] (.pv (pB (dU l n))) []:=by
 refine c175.r [] (by simp) ?_
 by_cases h0:0<l.length
 ·have e1:((l.length:Int)-1).toNat=l.length-1:=by omega
  simp only[go_sem,M175,fX,e1,jR (show l.length-1<l.length by omega)]
  refine⟨fun _=>⟨by omega,by omega,by omega⟩,fun _=>⟨by omega,by omega,by omega⟩,?_⟩
  simp[dU]
 ·have:l=[]:=List.eq_nil_of_length_eq_zero (by omega)
  subst this
  simp only[go_sem,M175,fX,List.map_nil,List.length_nil]
  simp[dU]
theorem PZ (k:Kp) (n:Int):Fn Tryz.prog 238 [k.pv,.pt [pU n]] (.pv (pB (decide (k.id=n)))) []:=by
 refine c238.r [] (by simp) ?_
 simp only[go_sem,M238]
abbrev Ri (q:Kp→Bool) (l:List Kp):Int:=gZ q l
theorem P0 (l:List Kp) (g:Nat) (caps:List PV) (q:Kp→Bool) (hl:l.length<100000) (hg:∀k∈l,Fn Tryz.prog g (k.pv::caps) (.pv (pB (q k))) []):
  Fn Tryz.prog 237 [ks l,.fn g caps] (.pv (pI (Ri q l))) []:=rZ c237.r l (fX l) (fun _=>rfl) g caps q hl hg
theorem Mu (l:List Kp) (g:Nat) (caps:List PV) (q:Kp→Bool) (hl:l.length<100000) (hg:∀k∈l,Fn Tryz.prog g (k.pv::caps) (.pv (pB (q k))) []):
  Fn Tryz.prog 202 [ks l,.fn g caps] (.pv (pB (l.any q))) []:=Ml c202.r l g caps q (P0 l g caps q hl hg)
theorem Mr (l:List Kp) (n:Int) (hl:l.length<100000):Fn Tryz.prog 207 [ks l,pU n] (.pv (pB (l.any fun k=>decide (k.id=n)))) []:=by
 refine c207.r [] (by simp) ?_
 simp only[go_sem,M207]
 refine aA (by simp only[go_sem]) (by simp only[go_sem]) (Mu l 238 [.pt [pU n]] (fun k=>decide (k.id=n)) hl fun k _=>PZ k n) ⟨rfl,trivial⟩ trivial ?_
 simp only[go_sem]
abbrev pN (n:Nat):PV:=pI n
abbrev ns (l:List Nat):PV:=.lst (l.map pN)
def gY (n len:Nat):List Nat:=if len<n then[]else List.range n
def lB (n i:Nat):List PV:=(List.range i).map pN++List.replicate (n-i) (pI 0)
theorem Af {n i:Nat} (h:i≤n):(lB n i).length=n:=by simp[lB];omega
theorem E6 {n i:Nat} (h:i<n):(lB n i).getD i default=pI 0:=by
 have h2:0<n-i:=by omega
 simp[lB,List.getD_eq_getElem?_getD,List.getElem?_append_right,List.getElem?_replicate,h2]
theorem E5 {n i:Nat} (h:i<n):(lB n i).set i (pI i)=lB n (i+1):=by
 have e:n-i=(n-(i+1))+1:=by omega
 simp[lB,List.set_append,List.range_succ,e,List.replicate_succ]
theorem E7 (n:Nat):lB n n=(List.range n).map pN:=by simp[lB]
theorem Mo (n len:Nat) (hn:n≤1000) (hl:len<100000):Fn Tryz.prog 241 [pI n,pI len] (.pv (ns (gY n len))) []:=by
 refine c241.r [] (by simp) ?_
 simp only[go_sem,M241]
 refine⟨fun h=>?_,fun h=>⟨by omega,aZ (T:=Nat) (fun i=>⟨[(5,.row 11 0 n),(13,.pv (pI n)),(14,.pv (pI i))],[(11,.sl 1 (lB n i))]⟩) (fun i=>i≤n) (fun i=>n-i) 0 ?_ (Nat.zero_le _) ?_⟩⟩
 ·have:len<n:=by omega
  simp[gY,this]
 ·simp[lB]
 ·intro i hi
  by_cases hlt:i<n
  ·simp only[go_sem,B241_0,R241_0,show(i:Int)<(n:Int)by omega,Af hi,E6 hlt,E5 hlt]
   exact⟨hlt,by omega,i+1,rfl,hlt,by omega⟩
  ·have e:i=n:=by omega
   subst e
   simp only[go_sem,B241_0,R241_0,show ¬(i:Int)<(i:Int)by omega,Af hi,E7]
   rw[List.take_of_length_le (by simp)]
   simp[gY,show ¬len<i by omega]
theorem PX (l:List Kp) (hl:l.length<100000):Fn Tryz.prog 240 [.pt [ks l]] (.pv (ns (gY 1 l.length))) []:=by
 refine c240.r [] (by simp) ?_
 simp only[go_sem,M240]
 refine aC (by simp only[go_sem]) rfl (Mo 1 l.length (by omega) hl) (.inl rfl) trivial ?_
 simp only[go_sem]
theorem PW (j:Jn) (l:List Kp) (n:Nat) (hj:j.need=n) (hn:n≤1000) (hl:l.length<100000):Fn Tryz.prog 242 [.pt [pS j.kind,pI j.parts,pI j.need,pI j.window],.pt [ks l]] (.pv (ns (gY n l.length))) []:=by
 refine c242.r [] (by simp) ?_
 simp only[go_sem,M242,hj]
 refine aC (by simp only[go_sem]) rfl (Mo n l.length hn hl) (.inl rfl) trivial ?_
 simp only[go_sem]
def cN (l:List Kp) (p:Int):Bool:=l.any fun x=>decide (x.part=p)
def iJ (l:List Kp) (k:Nat):Bool := !cN (l.take k) (l.getD k default).part
def bM (l:List Kp) (i:Nat):List Nat:=(List.range i).filter (iJ l)
def kW (l:List Kp) (i:Nat):List AV:=(List.range 6).map fun p:Nat=>.pv (pB (cN (l.take i) p))
theorem Hf (l:List Kp) (i:Nat):(kW l i).length=6:=by simp[kW]
theorem oM {l:List Kp} {i:Nat} (h:i<l.length) (p:Int):cN (l.take (i+1)) p=(cN (l.take i) p||decide (l[i].part=p)):=by
 simp only[cN];rw[AT h,List.any_append];simp
theorem Hg {l:List Kp} {i:Nat} {p:Int} (h0:0≤p) (h6:p<6):(kW l i).getD p.toNat .un=.pv (pB (cN (l.take i) p)):=by
 have h:p.toNat<6:=by omega
 have e:((p.toNat:Nat):Int)=p:=by omega
 simp[kW,List.getD_eq_getElem?_getD,h,e]
theorem He {l:List Kp} {i:Nat} (h:i<l.length) (h0:0≤l[i].part) (h6:l[i].part<6):(kW l i).set l[i].part.toNat (.pv (pB true))=kW l (i+1):=by
 apply List.ext_getElem
 ·simp[kW]
 ·intro n h1 h2
  have hn:n<6:=by simpa[kW]using h2
  rw[List.getElem_set]
  simp only[kW,List.getElem_map,List.getElem_range,oM h]
  by_cases he:l[i].part.toNat=n
  ·have:l[i].part=(n:Int):=by omega
   simp[he,this]
  ·have:¬l[i].part=(n:Int):=by omega
   simp[he,this]
theorem E0 {l:List Kp} {i:Nat} (h:i<l.length) (hh:cN (l.take i) l[i].part=true):kW l (i+1)=kW l i:=by
 simp only[kW]
 apply List.map_congr_left
 intro p _
 rw[oM h]
 by_cases he:l[i].part=(p:Int)
 ·rw[←he,hh];rfl
 ·simp[he]
theorem CA {l:List Kp} {i:Nat} (h:i<l.length) (hh:cN (l.take i) l[i].part=false):bM l (i+1)=bM l i++[i]:=by
 have h1:iJ l i=true:=by rw[iJ,aM h,hh];rfl
 simp[bM,List.range_succ,h1]
theorem D5 {l:List Kp} {i:Nat} (h:i<l.length) (hh:cN (l.take i) l[i].part=true):bM l (i+1)=bM l i:=by
 have h1:iJ l i=false:=by rw[iJ,aM h,hh];rfl
 simp[bM,List.range_succ,h1]
theorem CB (l:List Kp) (i:Nat):(bM l i).length≤i:=by
 have:=List.length_filter_le (iJ l) (List.range i)
 simpa[bM]using this
theorem Hv (D:Nat→Bool) (l:List Kp) (i:Nat):AV.clips D (kW l i)=kW l i:=rfl
theorem O8 (n:Int):cY 1 [pI n]:=by
 intro p hp
 simp only[List.mem_singleton]at hp
 subst hp
 refine⟨rfl,fun c hc=>?_⟩
 simp only[PV.cells,List.mem_singleton]at hc
 subst hc
 rfl
theorem PY (j:Jn) (l:List Kp) (hl:l.length<100000) (hp:∀k∈l,0≤k.part∧k.part<6):
  Fn Tryz.prog 239 [.pt [ks l],.pt [pS j.kind,pI j.parts,pI j.need,pI j.window]] (.pv (ns (if((bM l l.length).length:Int)<j.parts then[]else bM l l.length))) []:=by
 refine c239.r [] (by simp) ?_
 simp only[go_sem,M239]
 refine aZ (T:=Nat) (fun i=>⟨[(1,.pv (.pt [pS j.kind,pI j.parts,pI j.need,pI j.window])),(3,.ptr 3 0),(4,.row 2004 0 (bM l i).length),(7,.pv (ks l)),(8,.pv (pI l.length)),(9,.pv (pI i))],
  [(3,.box (kW l i)),(2004,.sl 1 ((bM l i).map pN))]⟩) (fun i=>i≤l.length) (fun i=>l.length-i) 0 rfl (Nat.zero_le _) ?_
 intro i hi
 by_cases hlt:i<l.length
 ·obtain⟨p0,p6⟩:=hp _ (List.getElem_mem hlt)
  have hfl:=CB l i
  simp only[go_sem,B239_0,R239_0,fX,jR hlt,aM hlt,show(i:Int)<(l.length:Int)by omega,Hg p0 p6,Hf,Hv,He hlt p0 p6,O8]
  refine⟨by omega,by omega,fun hh=>⟨by omega,by omega,⟨by omega,by omega⟩,by omega,i+1,?_,hlt,by omega⟩,fun hh=>⟨by omega,i+1,?_,hlt,by omega⟩⟩
  ·rw[CA hlt hh,List.take_of_length_le (by simp)]
   simp[pN]
  ·rw[D5 hlt hh,E0 hlt hh]
   rfl
 ·have e:i=l.length:=by omega
  subst e
  simp only[go_sem,B239_0,R239_0,show ¬(l.length:Int)<(l.length:Int)by omega]
  refine⟨fun h=>by rw[if_pos h];rfl,fun h=>by rw[if_neg h,List.take_of_length_le (by simp)]⟩
def bP (j:Jn) (l:List Kp):List Nat:=
 if j.kind=xA then(if((bM l l.length).length:Int)<j.parts then[]else bM l l.length)
 else if j.kind=xZ then gY 1 l.length
 else if j.kind=iE then gY j.need.toNat l.length
 else[]
theorem Mq (j:Jn) (l:List Kp) (hl:l.length<100000) (hj:kS j=true) (hp:∀k∈l,0≤k.part∧k.part<6):
  Fn Tryz.prog 208 [j.pv,ks l] (.pv (ns (bP j l))) []:=by
 refine c208.r [] (by simp) ?_
 have h1:=s9
 have h2:=pE
 have h3:=rW
 have hk:j.kind=xA∨j.kind=xZ∨j.kind=iE∧1≤j.need∧j.need≤30:=by
  unfold kS at hj
  by_cases k1:j.kind=iE
  ·simp[k1]at hj;exact .inr (.inr ⟨k1,by omega,by omega⟩)
  ·simp[k1]at hj
   rcases hj.2.1 with h|h
   ·exact .inl h
   ·exact .inr (.inl h)
 rcases hk with hk|hk|⟨hk,hn1,hn2⟩
 ·simp only[go_sem,M208,Ky,Kx,B4,h1,h2,h3,h1.symm,h2.symm,h3.symm,hk]
  have hf:=PY j l hl hp
  rw[hk]at hf
  refine aC (by simp only[go_sem]) rfl hf (.inl rfl) trivial ?_
  simp only[go_sem]
  simp[bP,hk]
 ·simp only[go_sem,M208,Ky,Kx,B4,h1,h2,h3,h1.symm,h2.symm,h3.symm,hk]
  refine aC (by simp only[go_sem]) rfl (PX l hl) (.inl rfl) trivial ?_
  simp only[go_sem]
  simp[bP,hk,h3.symm]
 ·simp only[go_sem,M208,Ky,Kx,B4,h1,h2,h3,h1.symm,h2.symm,h3.symm,hk]
  have hn:j.need=(j.need.toNat:Int):=by omega
  have hf:=PW j l j.need.toNat hn (by omega) hl
  rw[hk]at hf
  refine aC (by simp only[go_sem]) rfl hf (.inl rfl) trivial ?_
  simp only[go_sem]
  simp[bP,hk,h1.symm,h2.symm]
def BE (j:Jn) (l:List Kp) (k:Nat):Bool:=
 gQ j (l.getD k default) && !dU (l.take k) (l.getD k default).at_ && !(l.take k).any fun y=>decide (y.id=(l.getD k default).id)
def nO (j:Jn) (l:List Kp) (i:Nat):Bool:=(List.range i).all (BE j l)
def bJ (j:Jn) (l:List Kp):Bool:=kS j&&decide (l.length<30)&&nO j l l.length&&decide (bP j l=[])
theorem GS (j:Jn) (l:List Kp) (i:Nat):nO j l (i+1)=(nO j l i&&BE j l i):=by
 simp[nO,List.range_succ]
theorem xH {j:Jn} {l:List Kp} {i k:Nat} (h:nO j l i=true) (hk:k<i):BE j l k=true:=by
 simp only[nO,List.all_eq_true,List.mem_range]at h
 exact h k hk
theorem qY {j:Jn} {l:List Kp} (h:nO j l l.length=true):∀k∈l,gQ j k=true:=by
 intro k hk
 obtain⟨n,hn,rfl⟩:=List.getElem_of_mem hk
 have:=xH h hn
 rw[BE,aM hn]at this
 simp at this
 exact this.1.1
theorem vJ {j:Jn} {k:Kp} (hj:kS j=true) (h:gQ j k=true):0≤k.part∧k.part<6:=by
 simp[gQ,kS]at h hj
 omega
theorem Ft (j:Jn) (l:List Kp) (hl:l.length<100000):Fn Tryz.prog 173 [j.pv,ks l] (.pv (pI (eR (bJ j l)))) []:=by
 refine c173.r [] (by simp) ?_
 simp only[go_sem,M173]
 refine aA (by simp only[go_sem]) (by simp only[go_sem]) (Ng j) ⟨rfl,trivial⟩ trivial ?_
 simp only[go_sem]
 refine⟨fun h=>?_,fun⟨hm,h30⟩=>aZ (T:=Nat) (fun i=>⟨[(1,.pv (ks l)),(2,.ptr 2 0),(15,.pv (ks l)),(16,.pv (pI l.length)),(17,.pv (pI i))],[(2,.box [.pv (pS j.kind),.pv (pI j.parts),.pv (pI j.need),.pv (pI j.window)])]⟩)
  (fun i=>i≤l.length∧nO j l i=true) (fun i=>l.length-i) 0 rfl ⟨Nat.zero_le _,rfl⟩ ?_⟩
 ·have:bJ j l=false:=by
   rcases h with h|h
   ·simp[bJ,h]
   ·simp[bJ,show ¬l.length<30 by omega]
  rw[this];rfl
 intro i ⟨hi,hok⟩
 by_cases hlt:i<l.length
 ·simp only[go_sem,B173_0,R173_0,fX,jR hlt,show(i:Int)<(l.length:Int)by omega,gV]
  refine aA (by simp only[go_sem]) (by simp only[go_sem]) (Ms j (l.getD i default)) ⟨rfl,trivial⟩ trivial ?_
  simp only[go_sem,fX,gV]
  refine⟨(by(repeat' (first|intro _|apply And.intro))<;>(first|assumption|omega|(simp_all;done)|(simp_all;omega))),aF (by simp only[go_sem]) (by simp only[go_sem]) (by simp only[go_sem]) (fun _=>Fs (l.take i) (l.getD i default).at_ (by simp;omega)) rfl ?_⟩
  simp only[go_sem,fX,gV]
  refine⟨(by(repeat' (first|intro _|apply And.intro))<;>(first|assumption|omega|(simp_all;done)|(simp_all;omega))),aF (by simp only[go_sem]) (by simp only[go_sem]) (by simp only[go_sem]) (fun _=>Mr (l.take i) (l.getD i default).id (by simp;omega)) rfl ?_⟩
  simp only[go_sem,fX,gV]
  have hs:nO j l (i+1)=BE j l i:=by rw[GS,hok];rfl
  refine⟨fun h=>?_,fun h=>⟨by omega,i+1,rfl,⟨hlt,?_⟩,by omega⟩⟩
  ·have h1:nO j l l.length=false:=by
    rw[Bool.eq_false_iff]
    intro ht
    have:=xH ht hlt
    simp only[BE]at this
    rcases h with(h|h)|h<;>rw[h]at this<;>simp at this
   simp[bJ,h1,eR]
  ·rw[hs,BE,h.1.1,h.1.2,h.2];rfl
 ·have e:i=l.length:=by omega
  subst e
  simp only[go_sem,B173_0,R173_0,show ¬(l.length:Int)<(l.length:Int)by omega]
  refine aC (by simp only[go_sem]) rfl (Mq j l hl hm fun k hk=>vJ hm (qY hok k hk)) (.inl rfl) trivial ?_
  simp only[go_sem]
  have hc:bJ j l=decide (bP j l=[]):=by simp[bJ,hm,hok];omega
  rw[hc]
  by_cases hp:bP j l=[]
  ·simp[hp,eR]
  ·have:0<(bP j l).length:=List.length_pos_iff.2 hp
   simp[hp,eR]
def bD (j:Jn) (l:List Kp) (i:Nat):Bool:=decide (j.kind=xA)&&iJ l i||decide (j.kind=xZ)&&decide (i=0)||decide (j.kind=iE)&&decide ((i:Int)<j.need)
def d4 (j:Jn) (l:List Kp) (i:Nat):Nat:=((List.range i).filter (bD j l)).length
def jX (j:Jn):Int:=if j.kind=iE then j.need else if j.kind=xA then j.parts else 1
theorem AE {l:List Kp} {i:Nat} (h:i<l.length) (p:Int):cN (l.take (i+1)) p=(cN (l.take i) p||decide ((l.getD i default).part=p)):=by
 rw[oM h,aM h]
end Go.Vc

namespace Go.Vc
open Go.Proofs
set_option linter.unusedSimpArgs false
set_option linter.unusedVariables false
set_option maxRecDepth 10000
theorem fB {α:Type} [Inhabited α] {l:List α} {i:Nat} (h:i<l.length):l.take (i+1)=l.take i++[l.getD i default]:=by
 rw[AT h,aM h]
theorem yT (j:Jn) (l:List Kp) (i:Nat) (h:i<l.length):BE j l i=true↔
  (0≤(l.getD i default).part∧(l.getD i default).part<j.parts∧0≤(l.getD i default).at_∧(l.getD i default).at_≤1099511627775∧
   (0<i→(l.getD (i-1) default).at_≤(l.getD i default).at_)∧((l.take i).any fun y=>decide (y.id=(l.getD i default).id))=false):=by
 have e:dU (l.take i) (l.getD i default).at_=if 0<i then !decide ((l.getD (i-1) default).at_≤(l.getD i default).at_)else false:=by
  by_cases h0:0<i
  ·have h1:min i l.length=i:=by omega
   have h2:i-1<l.length:=by omega
   have h3:i-1<i:=by omega
   simp[dU,h0,h1,List.getD_eq_getElem?_getD,List.getElem?_take,h2,h3]
   by_cases h4:(l[i]?.getD default).at_<l[i-1].at_
   ·simp[h4,show ¬l[i-1].at_≤(l[i]?.getD default).at_ by omega]
   ·simp[h4,show l[i-1].at_≤(l[i]?.getD default).at_ by omega]
  ·have:i=0:=by omega
   subst this
   simp[dU]
 simp only[BE,gQ,dW,e]
 generalize ((l.take i).any fun y=>decide (y.id=(l.getD i default).id))=b
 by_cases h0:0<i<;>cases b<;>simp[h0,-List.getD_eq_getElem?_getD]<;>omega
theorem B5 (n m:Nat):((List.range n).filter fun i=>decide (i<m)).length=min n m:=by
 induction n with
 | zero=>simp
 | succ n ih=>
  rw[List.range_succ,List.filter_append,List.length_append,ih]
  by_cases h:n<m
  ·simp[h];omega
  ·simp[h];omega
theorem pW {j:Jn} (hm:kS j=true):(j.kind=xA∧1≤j.parts)∨j.kind=xZ∨j.kind=iE∧1≤j.need∧j.need≤30:=by
 unfold kS at hm
 by_cases k1:j.kind=iE
 ·simp[k1]at hm;exact .inr (.inr ⟨k1,by omega,by omega⟩)
 ·simp[k1]at hm
  rcases hm.2.1 with h|h
  ·exact .inl ⟨h,by omega⟩
  ·exact .inr (.inl h)
theorem lH (j:Jn) (l:List Kp) (hm:kS j=true):bP j l=[]↔¬jX j≤(d4 j l l.length:Int):=by
 have h1:=s9
 have h2:=pE
 have h3:=rW
 rcases pW hm with⟨h,hp⟩|h|⟨h,hn,_⟩
 ·have e:d4 j l l.length=(bM l l.length).length:=by
   simp only[d4,bM]
   congr 2
   funext i
   simp[bD,h,h1,h3]
  simp only[bP,jX,h,h1,if_true,if_false,e]
  by_cases hc:((bM l l.length).length:Int)<j.parts
  ·simp only[hc,if_true,true_iff];omega
  ·simp only[hc,if_false]
   refine⟨fun h0=>?_,fun h0=>absurd h0 (by omega)⟩
   rw[h0]at hc;simp at hc;omega
 ·have e:d4 j l l.length=min l.length 1:=by
   rw[←B5]
   simp only[d4]
   congr 2
   funext i
   simp[bD,h,h2,h3.symm]
  simp only[bP,jX,h,h2,h3.symm,if_true,if_false,e,gY]
  by_cases hc:l.length<1
  ·simp only[hc,if_true,true_iff];omega
  ·simp[hc];omega
 ·have e:d4 j l l.length=min l.length j.need.toNat:=by
   rw[←B5]
   simp only[d4]
   congr 2
   funext i
   simp[bD,h,h1.symm,h2.symm]
  simp only[bP,jX,h,h1.symm,h2.symm,if_true,if_false,e,gY]
  by_cases hc:l.length<j.need.toNat
  ·simp only[hc,if_true,true_iff];omega
  ·simp[hc];omega
theorem JS {l:List Kp} {i k:Nat} {q:Kp→Bool} (h:k<i) (hl:k<l.length) (hq:q (l.getD k default)=true):(l.take i).any q=true:=by
 rw[List.any_eq_true]
 refine⟨l.getD k default,?_,hq⟩
 rw[aM hl,List.mem_take_iff_getElem]
 exact⟨k,by omega,rfl⟩
def yG (j:Jn) (now:Int) (k:Kp):Bool:=decide (k.at_+j.window<now)
theorem BO (k:Kp):cY 3 [k.pv]:=fX [k]
def bN (j:Jn) (now:Int) (l:List Kp):Nat:=(l.takeWhile (yG j now)).length
def v7 (j:Jn) (l:List Kp) (now:Int):Bool:=bJ j l&&dW now && !dU l now
theorem lO (j:Jn) (l:List Kp):decide (eR (bJ j l)=0)=bJ j l:=by cases bJ j l<;>rfl
theorem qI (j:Jn) (l:List Kp):(eR (bJ j l)=0)=(bJ j l=true):=by cases bJ j l<;>simp[eR]
theorem cX {j:Jn} {l:List Kp} (h:bJ j l=true):kS j=true∧l.length<30∧nO j l l.length=true∧bP j l=[]:=by
 simp[bJ]at h;exact⟨h.1.1.1,h.1.1.2,h.1.2,h.2⟩
theorem Jg {j:Jn} (h:kS j=true):0≤j.window∧j.window≤1073741824:=by simp[kS]at h;omega
theorem JD {j:Jn} {k:Kp} (h:gQ j k=true):0≤k.at_∧k.at_≤1099511627775:=by simp[gQ,dW]at h;omega
theorem pV (j:Jn) (now:Int) (l:List Kp):bN j now l≤l.length:=(List.takeWhile_sublist _).length_le
theorem Ik {q:Kp→Bool}:∀{l:List Kp} {i:Nat},i<(l.takeWhile q).length→q (l.getD i default)=true
 | [],i,h=>by simp at h
 | a::l,i,h=>by
  rw[List.takeWhile_cons]at h
  split at h
  ·rename_i ha
   cases i with
   | zero=>simpa using ha
   | succ i=>
    rw[List.getD_cons_succ]
    exact Ik (by simpa using h)
  ·simp at h
theorem Il {q:Kp→Bool}:∀{l:List Kp},(l.takeWhile q).length<l.length→q (l.getD (l.takeWhile q).length default)=false
 | [],h=>by simp at h
 | a::l,h=>by
  rw[List.takeWhile_cons]at h ⊢
  split
  ·rename_i ha
   rw[if_pos ha]at h
   rw[List.length_cons,List.getD_cons_succ]
   exact Il (by simpa using h)
  ·rename_i ha
   simpa using ha
theorem LC (j:Jn) (l:List Kp) (now:Int) (hl:l.length<100000) (h:v7 j l now=false):
  Fn Tryz.prog 126 [j.pv,ks l,pI now] (.pv (.tup [ks [],ks [],pI 1])) []:=by
 refine c126.r [] (by simp) ?_
 simp only[go_sem,M126]
 refine aA (by simp only[go_sem]) (by simp only[go_sem]) (Ft j l hl) ⟨rfl,trivial⟩ trivial ?_
 simp only[go_sem,lO,qI]
 refine aF (by simp only[go_sem]) (by simp only[go_sem]) (by simp only[go_sem]) (fun _=>H9 now) rfl ?_
 simp only[go_sem]
 refine aF (by simp only[go_sem]) (by simp only[go_sem]) (by simp only[go_sem]) (fun _=>Fs l now (by omega)) rfl ?_
 simp only[go_sem]
 refine⟨fun _=>rfl,fun⟨⟨h1,h2⟩,h3⟩=>?_⟩
 simp[v7,h1,h2,h3]at h
theorem MG (j:Jn) (l:List Kp) (now:Int) (hl:l.length<100000) (h:v7 j l now=true):
  Fn Tryz.prog 126 [j.pv,ks l,pI now] (.tup [.row 0 0 (l.length-bN j now l),.pv (ks (l.take (bN j now l))),.pv (pI 0)]) [(3,(l.drop (bN j now l)).map Kp.pv)]:=by
 refine c126.r [true,false,false] (by simp) ?_
 have h':bJ j l=true∧dW now=true∧dU l now=false:=by simp[v7]at h;exact⟨h.1.1,h.1.2,h.2⟩
 obtain⟨h1,h2,h3⟩:=h'
 simp only[go_sem,M126]
 refine aA (by simp only[go_sem]) (by simp only[go_sem]) (Ft j l hl) ⟨rfl,trivial⟩ trivial ?_
 simp only[go_sem,lO,qI]
 refine aF (by simp only[go_sem]) (by simp only[go_sem]) (by simp only[go_sem]) (fun _=>H9 now) rfl ?_
 simp only[go_sem]
 refine aF (by simp only[go_sem]) (by simp only[go_sem]) (by simp only[go_sem]) (fun _=>Fs l now (by omega)) rfl ?_
 simp only[go_sem,h1,h2,h3]
 have hle:=pV j now l
 refine aZ (T:=Nat) (fun i=>⟨[(1,.pv (ks l)),(2,.pv (pI now)),(3,.ptr 3 0),(9,.pv (pI i))],
   [(3,.box [.pv (pS j.kind),.pv (pI j.parts),.pv (pI j.need),.pv (pI j.window)])]⟩)
  (fun i=>i≤bN j now l) (fun i=>l.length-i) 0 rfl (Nat.zero_le _) ?_
 intro i hi
 obtain⟨c1,c2,c3,c4⟩:=cX h1
 have hw:=Jg c1
 by_cases hlt:i<l.length
 ·have hat:=JD (qY c3 _ (List.getElem_mem hlt))
  rw[←aM hlt]at hat
  by_cases hov:i<bN j now l
  ·have ho:=Ik hov
   simp only[yG,decide_eq_true_eq]at ho
   simp only[go_sem,B126_0,R126_0,fX,jR hlt,show(i:Int)<(l.length:Int)by omega,ho]
   refine⟨by omega,by omega,i+1,rfl,hov,by omega⟩
  ·have e:i=bN j now l:=by omega
   have ho:=Il (q:=yG j now) (l:=l) (by unfold bN at e;omega)
   have e':(l.takeWhile (yG j now)).length=i:=e.symm
   rw[e']at ho
   simp only[yG,decide_eq_false_iff_not]at ho
   simp only[go_sem,B126_0,R126_0,fX,jR hlt,show(i:Int)<(l.length:Int)by omega,ho,gV,wU]
   subst e
   refine⟨by omega,⟨by omega,by omega⟩,by omega,aC (by simp only[go_sem]) rfl (C2 (l.drop (bN j now l)) (by simp;omega)) (.inl rfl) trivial ?_⟩
   simp only[go_sem]
   refine aC (by simp only[go_sem]) rfl (C2 (l.take (bN j now l)) (by simp;omega)) (.inl rfl) trivial ?_
   simp only[go_sem,bF,List.length_drop,List.length_take,Nat.min_eq_left hle]
   simp[List.take_take]
 ·have e:i=bN j now l:=by omega
  simp only[go_sem,B126_0,R126_0,fX,show ¬(i:Int)<(l.length:Int)by omega,gV,wU]
  subst e
  refine⟨⟨by omega,by omega⟩,by omega,aC (by simp only[go_sem]) rfl (C2 (l.drop (bN j now l)) (by simp;omega)) (.inl rfl) trivial ?_⟩
  simp only[go_sem]
  refine aC (by simp only[go_sem]) rfl (C2 (l.take (bN j now l)) (by simp;omega)) (.inl rfl) trivial ?_
  simp only[go_sem,bF,List.length_drop,List.length_take,Nat.min_eq_left hle]
  simp[List.take_take]
def cZ (q:Nat→Bool) (ws:List Kp) (i:Nat):List Kp:=((List.range i).filter q).map fun k=>ws.getD k default
structure FR where
 left:List Kp
 fired:List Kp
 over:List Kp
 err:Int
abbrev FR.pv (r:FR):PV:=.tup [ks r.left,ks r.fired,ks r.over,pI r.err]
def lU (e:Int):FR:=⟨[],[],[],e⟩
def fZ (j:Jn) (ws:List Kp):Bool:=decide (jX j≤(d4 j ws ws.length:Int))
def aR (j:Jn) (l:List Kp) (x:Kp):List Kp:=l.drop (bN j x.at_ l)++[x]
def oU (l:List Kp) (n:Int):Bool:=l.any fun k=>decide (k.id=n)
def bB (j:Jn) (l:List Kp) (x:Kp):FR:=
 if !bJ j l || !gQ j x then lU 1
 else if dU l x.at_ then lU 8
 else if oU l x.id then lU 5
 else if fZ j (aR j l x)then⟨cZ (fun i => !bD j (aR j l x) i) (aR j l x) (aR j l x).length,cZ (bD j (aR j l x)) (aR j l x) (aR j l x).length,l.take (bN j x.at_ l),0⟩
 else if 30≤(aR j l x).length then lU 6
 else⟨aR j l x,[],l.take (bN j x.at_ l),0⟩
theorem fR (q:Nat→Bool) (ws:List Kp) (i:Nat):cZ q ws (i+1)=cZ q ws i++if q i=true then[ws.getD i default]else[]:=by
 simp only[cZ,List.range_succ,List.filter_append,List.map_append]
 by_cases h:q i=true<;>simp[h]
theorem xF (q:Nat→Bool) (ws:List Kp) (i:Nat):(cZ q ws i).length≤i:=by
 have:=List.length_filter_le q (List.range i)
 simpa[cZ]using this
theorem GT {j:Jn} {l:List Kp} {i:Nat} (h:i+1<l.length) (hok:nO j l l.length=true):(l.getD i default).at_≤(l.getD (i+1) default).at_:=by
 have:=(yT j l (i+1) h).1 (xH hok h)
 exact this.2.2.2.2.1 (by omega)
theorem Gb {j:Jn} {l:List Kp} (hok:nO j l l.length=true):∀(d i:Nat),i+d<l.length→(l.getD i default).at_≤(l.getD (i+d) default).at_
 | 0,_,_=>Int.le_refl _
 | d+1,i,h=>Int.le_trans (Gb hok d i (by omega)) (GT (by omega) hok)
theorem Hy {j:Jn} {l:List Kp} (hok:nO j l l.length=true):l.Pairwise (fun a b=>a.at_≤b.at_):=by
 rw[List.pairwise_iff_getElem]
 intro a b ha hb hab
 have:=Gb hok (b-a) a (by omega)
 rw[show a+(b-a)=b by omega,aM ha,aM hb]at this
 exact this
theorem tV (j:Jn) (x:Kp):gQ j x=true↔0≤x.part∧x.part<j.parts∧0≤x.at_∧x.at_≤1099511627775:=by
 simp[gQ,dW];omega
theorem AQ (j:Jn) (l:List Kp) (x:Kp):(aR j l x).length=l.length-bN j x.at_ l+1:=by simp[aR]
theorem Dj (n m:Nat):((List.range n).filter fun i=>decide (i<m))=List.range (min n m):=by
 induction n with
 | zero=>simp
 | succ n ih=>
  rw[List.range_succ,List.filter_append,ih]
  by_cases h:n<m
  ·simp[h,show min (n+1) m=n+1 by omega,show min n m=n by omega,List.range_succ]
  ·simp[h,show min (n+1) m=min n m by omega]
theorem zQ {j:Jn} {ws:List Kp} (hm:kS j=true):bP j ws=if fZ j ws then(List.range ws.length).filter (bD j ws)else[]:=by
 have h0:=lH j ws hm
 by_cases h:fZ j ws=true
 ·rw[if_pos h]
  have hn:bP j ws≠[]:=by rw[Ne,h0,fZ]at *;simpa using h
  have h1:=s9
  have h2:=pE
  have h3:=rW
  rcases pW hm with⟨hk,hp⟩|hk|⟨hk,hn1,hn2⟩
  ·simp only[bP,hk,if_true]at hn ⊢
   split at hn
   ·exact absurd rfl hn
   ·rename_i hc
    rw[if_neg hc]
    simp only[bM]
    congr 1
    funext i
    simp[bD,hk,h1,h3]
  ·simp only[bP,hk,h3.symm,if_true,if_false,gY]at hn ⊢
   split at hn
   ·exact absurd rfl hn
   ·rename_i hc
    rw[if_neg hc]
    have e:(List.range ws.length).filter (bD j ws)=(List.range ws.length).filter fun i=>decide (i<1):=by
     congr 1
     funext i
     simp[bD,hk,h2,h3.symm]
    rw[e,Dj]
    congr 1;omega
  ·simp only[bP,hk,h1.symm,h2.symm,if_true,if_false,gY]at hn ⊢
   split at hn
   ·exact absurd rfl hn
   ·rename_i hc
    rw[if_neg hc]
    have e:(List.range ws.length).filter (bD j ws)=(List.range ws.length).filter fun i=>decide (i<j.need.toNat):=by
     congr 1
     funext i
     simp[bD,hk,h1.symm,h2.symm]
    rw[e,Dj]
    congr 1;omega
 ·rw[if_neg h,h0,fZ]at*
  simpa using h
def mR (f:Nat→Bool) (n i:Nat):List Nat:=(List.range' i (n-i)).filter f
theorem EI (f:Nat→Bool) (n:Nat):mR f n 0=(List.range n).filter f:=by rw[mR,List.range_eq_range'];rfl
theorem EJ (f:Nat→Bool) {n i:Nat} (h:i<n):mR f n i=(if f i=true then[i]else[])++mR f n (i+1):=by
 have e:n-i=(n-(i+1))+1:=by omega
 rw[mR,mR,e,List.range'_succ,List.filter_cons]
 by_cases hf:f i=true<;>simp[hf]
theorem IN {f:Nat→Bool} {n i m:Nat} (h:m∈mR f n i):i≤m:=by
 simp only[mR,List.mem_filter,List.mem_range'_1]at h
 exact h.1.1
theorem AU (f:Nat→Bool) (n i:Nat):(mR f n i).length≤n-i:=by
 have:=List.length_filter_le f (List.range' i (n-i))
 rw[List.length_range']at this
 exact this
theorem O9 (l:List Nat):cY 1 (l.map pN):=by
 intro p hp
 obtain⟨k,_,rfl⟩:=List.mem_map.1 hp
 exact⟨rfl,fun c hc=>by simp only[PV.cells,List.mem_singleton]at hc;subst hc;rfl⟩
theorem Ii (a:Nat) (l:List Nat):cY 1 (pN a::l.map pN):=O9 (a::l)
theorem Cy {j:Jn} {l:List Kp} {x:Kp} (hm:kS j=true) (hok:nO j l l.length=true) (hf:gQ j x=true):∀k∈aR j l x,0≤k.part∧k.part<6:=by
 intro k hk
 simp only[aR,List.mem_append,List.mem_singleton]at hk
 rcases hk with hk|rfl
 ·exact vJ hm (qY hok k (List.mem_of_mem_drop hk))
 ·exact vJ hm hf
theorem Mz (j:Jn) (l:List Kp) (x:Kp) (hl:l.length<100000):Fn Tryz.prog 166 [j.pv,ks l,x.pv] (.pv (bB j l x).pv) []:=by
 refine c166.r [] (by simp) ?_
 simp only[go_sem,M166]
 refine aA (by simp only[go_sem]) (by simp only[go_sem]) (Ft j l hl) ⟨rfl,trivial⟩ trivial ?_
 simp only[go_sem,lO,qI]
 refine aF (by simp only[go_sem]) (by simp only[go_sem]) (by simp only[go_sem]) (fun _=>Ms j x) rfl ?_
 simp only[go_sem]
 refine⟨fun h=>?_,fun⟨hc,hf⟩=>?_⟩
 ·have:bB j l x=lU 1:=by rcases h with h|h<;>simp[bB,h]
  rw[this];rfl
 refine aA (by simp only[go_sem]) (by simp only[go_sem]) (Fs l x.at_ (by omega)) ⟨rfl,trivial⟩ trivial ?_
 simp only[go_sem]
 refine⟨fun he=>?_,fun he=>?_⟩
 ·simp[bB,hc,hf,he,lU]
 refine aA (by simp only[go_sem]) (by simp only[go_sem]) (Mr l x.id hl) ⟨rfl,trivial⟩ trivial ?_
 simp only[go_sem]
 refine⟨fun hi=>?_,fun hi=>?_⟩
 ·have hi':oU l x.id=true:=hi
  simp[bB,hc,hf,he,hi',lU]
 have hi':oU l x.id=false:=hi
 obtain⟨c1,c2,c3,c4⟩:=cX hc
 have htm:dW x.at_=true:=by have:=(tV j x).1 hf;simp[dW];omega
 refine aC (by simp only[go_sem]) rfl (MG j l x.at_ hl (by simp[v7,hc,htm,he])) (.inl rfl) trivial ?_
 have hle:=pV j x.at_ l
 have hwl:=AQ j l x
 have hw:List.take (l.length-bN j x.at_ l+1) (List.take (l.length-bN j x.at_ l) (List.map Kp.pv (l.drop (bN j x.at_ l)))++[.agg [pI x.part,pU x.id,pI x.at_]])=(aR j l x).map Kp.pv:=by
  rw[List.take_of_length_le (by simp),List.take_of_length_le (by simp)]
  simp[aR]
 simp only[go_sem,BO,hw]
 have hparts:=Cy (x:=x) c1 c3 hf
 generalize hW:aR j l x=ws at*
 have hfr:bB j l x=if fZ j ws then⟨cZ (fun i => !bD j ws i) ws ws.length,cZ (bD j ws) ws ws.length,l.take (bN j x.at_ l),0⟩
   else if 30≤ws.length then lU 6 else⟨ws,[],l.take (bN j x.at_ l),0⟩:=by
  unfold bB
  rw[hW]
  simp[hc,hf,he,hi']
 rw[hfr]
 refine⟨by omega,?_⟩
 refine aC (by simp only[go_sem]) rfl (Mq j ws (by omega) c1 hparts) (.inl rfl) trivial ?_
 rw[zQ c1]
 by_cases hmet:fZ j ws=true
 ·simp only[hmet,if_true]
  have hpos:0<((List.range ws.length).filter (bD j ws)).length:=by
   have h0:=lH j ws c1
   have h1:=zQ (ws:=ws) c1
   rw[if_pos hmet]at h1
   rw[←h1]
   refine List.length_pos_iff.2 fun hn=>(h0.1 hn) ?_
   simpa[fZ]using hmet
  simp only[go_sem,B166_0,R166_0,show ¬((((List.range ws.length).filter (bD j ws)).length:Nat):Int)=0 by omega]
  refine aZ (T:=Nat) (fun i=>⟨[(11,.pv (ks (l.take (bN j x.at_ l)))),(13,.pv (ns (mR (bD j ws) ws.length i))),(14,.row 2014 0 (cZ (fun i => !bD j ws i) ws i).length),(15,.row 2015 0 (cZ (bD j ws) ws i).length),(63,.pv (ks ws)),(64,.pv (pI ws.length)),(65,.pv (pI i))],
    [(2014,.sl 3 ((cZ (fun i => !bD j ws i) ws i).map Kp.pv)),(2015,.sl 3 ((cZ (bD j ws) ws i).map Kp.pv))]⟩)
   (fun i=>i≤ws.length) (fun i=>ws.length-i) 0 ?_ (Nat.zero_le _) ?_
  ·rw[EI];rfl
  intro i hi
  by_cases hlt:i<ws.length
  ·have p1:=xF (fun i => !bD j ws i) ws i
   have p2:=xF (bD j ws) ws i
   have hst:=EJ (bD j ws) hlt
   have hge:∀m∈mR (bD j ws) ws.length (i+1),i+1≤m:=fun m hm=>IN hm
   by_cases hfi:bD j ws i=true
   ·rw[hst,if_pos hfi]
    generalize hT:mR (bD j ws) ws.length (i+1)=T at*
    have hTl:T.length≤ws.length:=by rw[←hT];have:=AU (bD j ws) ws.length (i+1);omega
    simp only[go_sem,B166_0,fX,BO,jR hlt,show(i:Int)<(ws.length:Int)by omega,bF,Ii,show(0:Int)<((T.length+1:Nat):Int)by omega]
    refine⟨⟨by omega,by omega⟩,by omega,by omega,i+1,?_,hlt,by omega⟩
    rw[hT,fR,fR,hfi]
    simp
   ·have hff:bD j ws i=false:=by simpa using hfi
    rw[if_neg hfi,List.nil_append]at hst
    rw[hst]
    cases hT:mR (bD j ws) ws.length (i+1)with
    | nil=>
     simp only[go_sem,B166_0,fX,BO,jR hlt,show(i:Int)<(ws.length:Int)by omega,bF]
     refine⟨by omega,by omega,i+1,?_,hlt,by omega⟩
     rw[hT,fR,fR,hff]
     simp
    | cons a T=>
     have ha:=hge a (by rw[hT];exact List.mem_cons_self)
     have hTl:T.length≤ws.length:=by have:=AU (bD j ws) ws.length (i+1);rw[hT,List.length_cons]at this;omega
     simp only[go_sem,B166_0,fX,BO,jR hlt,show(i:Int)<(ws.length:Int)by omega,bF,Ii,show(0:Int)<((T.length+1:Nat):Int)by omega,show ¬(a:Int)=(i:Int)by omega]
     refine⟨by omega,by omega,i+1,?_,hlt,by omega⟩
     rw[hT,fR,fR,hff]
     simp
  ·have e:i=ws.length:=by omega
   subst e
   simp only[go_sem,B166_0,show ¬(ws.length:Int)<(ws.length:Int)by omega]
   simp only[go_sem,R166_0,bF]
 ·rw[if_neg hmet,if_neg hmet]
  simp only[go_sem,List.map_nil,List.length_nil]
  refine⟨fun h=>?_,fun h=>?_⟩
  ·rw[if_pos (by omega)];rfl
  ·rw[if_neg (by omega)];rfl
theorem vL (j:Jn) (l:List Kp) (x:Kp):(bB j l x).left.length≤l.length+1∧(bB j l x).fired.length≤l.length+1∧(bB j l x).over.length≤l.length:=by
 have hle:=pV j x.at_ l
 have hwl:=AQ j l x
 have p1:=xF (fun i => !bD j (aR j l x) i) (aR j l x) (aR j l x).length
 have p2:=xF (bD j (aR j l x)) (aR j l x) (aR j l x).length
 unfold bB
 repeat' split
 all_goals(simp only[lU,List.length_nil,List.length_take];omega)
theorem AG {l:List Kp} {x:Kp} {k:Nat} (h:k<l.length):(l++[x]).getD k default=l.getD k default:=by
 simp[List.getD_eq_getElem?_getD,List.getElem?_append,h]
theorem jU {j:Jn} (hk:j.kind=iE) (l:List Kp):d4 j l l.length=min l.length j.need.toNat:=by
 rw[←B5]
 simp only[d4]
 congr 2
 funext i
 simp[bD,hk,s9.symm,pE.symm]
theorem pT (j:Jn) (l:List Kp):nO j l l.length=true↔(∀k∈l,gQ j k=true)∧l.Pairwise (fun a b=>a.at_≤b.at_∧a.id≠b.id):=by
 constructor
 ·intro h
  refine⟨qY h,?_⟩
  have hs:=Hy h
  rw[List.pairwise_iff_getElem]at hs ⊢
  intro i k hi hk hik
  refine⟨hs i k hi hk hik,fun e=>?_⟩
  have h1:=((yT j l k hk).1 (xH h hk)).2.2.2.2.2
  have h2:=JS (l:=l) (q:=fun y=>decide (y.id=(l.getD k default).id)) hik hi (by rw[aM hi,aM hk];simpa using e)
  rw[h1]at h2
  cases h2
 ·rintro⟨h1,h2⟩
  unfold nO
  rw[List.all_eq_true]
  intro i hi
  have hi:i<l.length:=by simpa using hi
  rw[yT j l i hi]
  have h3:=(tV j _).1 (h1 _ (List.getElem_mem hi))
  rw[List.pairwise_iff_getElem]at h2
  rw[aM hi]
  refine⟨h3.1,h3.2.1,h3.2.2.1,h3.2.2.2,fun h0=>?_,?_⟩
  ·have hp:i-1<l.length:=by omega
   rw[aM hp]
   exact(h2 (i-1) i hp hi (by omega)).1
  ·rw[List.any_eq_false]
   intro y hy
   obtain⟨k,hk,rfl⟩:=List.mem_iff_getElem.1 hy
   have hk':k<i:=by simp at hk;omega
   have:=(h2 k i (by omega) hi hk').2
   simpa using this
theorem Dk (q:Nat→Bool) (ws:List Kp):∀i,i≤ws.length→(cZ q ws i).Sublist (ws.take i)
 | 0,_=>by simp[cZ]
 | i+1,h=>by
  rw[fR,fB (by omega)]
  refine List.Sublist.append (Dk q ws i (by omega)) ?_
  split
  ·exact List.Sublist.refl _
  ·exact List.nil_sublist _
theorem A2 (q:Nat→Bool) (ws:List Kp):∀i,i≤ws.length→(cZ q ws i++cZ (fun k => !q k) ws i).Perm (ws.take i)
 | 0,_=>by simp[cZ]
 | i+1,h=>by
  rw[fR,fR,fB (by omega)]
  have ih:=A2 q ws i (by omega)
  cases hq:q i with
  | true=>
   simp only[if_true,Bool.not_true,Bool.false_eq_true,if_false,List.append_nil]
   have e1:(cZ q ws i++[ws.getD i default]++cZ (fun k => !q k) ws i).Perm (cZ q ws i++(cZ (fun k => !q k) ws i++[ws.getD i default])):=by
    rw[List.append_assoc]
    exact List.Perm.append_left _ List.perm_append_comm
   refine e1.trans ?_
   rw[←List.append_assoc]
   exact ih.append_right _
  | false=>
   simp only[Bool.false_eq_true,if_false,List.append_nil,Bool.not_false,if_true]
   rw[←List.append_assoc]
   exact ih.append_right _
theorem Dl {q:Nat→Bool} {ws:List Kp} {n:Nat} {k:Kp} (h:k∈cZ q ws n):∃i,i<n∧q i=true∧k=ws.getD i default:=by
 simp only[cZ,List.mem_map,List.mem_filter,List.mem_range]at h
 obtain⟨i,⟨h1,h2⟩,rfl⟩:=h
 exact⟨i,h1,h2,rfl⟩
theorem D2 (q:Nat→Bool) (ws:List Kp) (n:Nat):(cZ q ws n).length=((List.range n).filter q).length:=by simp[cZ]
theorem Ak (a:Nat→Bool) (c:Nat):∀P,((List.range P).filter fun p=>a p||decide (c=p)).length=((List.range P).filter a).length+if c<P∧a c=false then 1 else 0
 | 0=>by simp
 | P+1=>by
  rw[List.range_succ,List.filter_append,List.filter_append,List.length_append,List.length_append,Ak a c P]
  by_cases h1:c=P
  ·subst h1
   cases h2:a c<;>simp[h2]
  ·have h3:decide (c=P)=false:=by simp[h1]
   cases h2:a P<;>by_cases h4:c<P<;>cases h5:a c<;>simp[h2,h3,h4,h5,show c<P+1↔c<P by omega]<;>omega
def sE (l:List Kp) (p:Nat):Bool:=cN l (p:Int)
theorem uE (l:List Kp) (P:Nat) (hp:∀k∈l,0≤k.part∧k.part<P):∀i,i≤l.length→(bM l i).length=((List.range P).filter (sE (l.take i))).length
 | 0,_=>by
  have:sE (l.take 0)=fun _=>false:=by funext p;simp[sE,cN]
  rw[this,List.filter_eq_nil_iff.2 (by simp)];simp[bM]
 | i+1,h=>by
  have hi:i<l.length:=by omega
  have hk:=hp _ (List.getElem_mem hi)
  rw[←aM hi]at hk
  have e1:sE (l.take (i+1))=fun p=>sE (l.take i) p||decide ((l.getD i default).part.toNat=p):=by
   funext p
   simp only[sE]
   rw[AE hi]
   congr 1
   exact decide_eq_decide.2 (by omega)
  rw[e1,Ak,←uE l P hp i (by omega)]
  have e2:sE (l.take i) (l.getD i default).part.toNat=cN (l.take i) (l.getD i default).part:=by
   simp only[sE]
   rw[Int.toNat_of_nonneg hk.1]
  have e3:(l.getD i default).part.toNat<P:=by omega
  rw[e2]
  simp only[bM,List.range_succ,List.filter_append,List.length_append,List.filter_cons,List.filter_nil]
  have e4:iJ l i = !cN (l.take i) (l.getD i default).part:=rfl
  rw[e4]
  cases hh:cN (l.take i) (l.getD i default).part<;>simp[e3,-List.getD_eq_getElem?_getD]
theorem Au {a:Nat→Bool} {P:Nat}:P≤((List.range P).filter a).length↔∀p,p<P→a p=true:=by
 constructor
 ·intro h p hp
  have h1:((List.range P).filter a).length≤(List.range P).length:=List.length_filter_le _ _
  have h2:((List.range P).filter a).length=(List.range P).length:=by simp at h1 ⊢;omega
  have h3:=List.length_filter_eq_length_iff.1 h2
  exact h3 p (by simpa using hp)
 ·intro h
  have:(List.range P).filter a=List.range P:=List.filter_eq_self.2 fun p hp=>h p (by simpa using hp)
  rw[this];simp
theorem DE {j:Jn} (hk:j.kind=xA) (ws:List Kp):bD j ws=iJ ws:=by
 funext i
 simp[bD,hk,rW,s9]
theorem xK {j:Jn} (hk:j.kind=xA) {ws:List Kp} {P:Nat} (hP:j.parts=P) (hp:∀k∈ws,0≤k.part∧k.part<P):fZ j ws=true↔∀p,p<P→sE ws p=true:=by
 have e1:jX j=P:=by simp[jX,hk,s9,hP]
 have e2:d4 j ws ws.length=(bM ws ws.length).length:=by simp only[d4,DE hk,bM]
 unfold fZ
 rw[e1,e2,uE ws P hp _ (Nat.le_refl _),List.take_length,←Au]
 simp
theorem lN {j:Jn} {l:List Kp} {x:Kp} (h:(bB j l x).err=0):bJ j l=true∧gQ j x=true∧dU l x.at_=false∧oU l x.id=false:=by
 have c1:bJ j l=true:=by
  cases h1:bJ j l with
  | true=>rfl
  | false=>simp[bB,h1,lU]at h
 have c2:gQ j x=true:=by
  cases h1:gQ j x with
  | true=>rfl
  | false=>simp[bB,h1,lU]at h
 have c3:dU l x.at_=false:=by
  cases h1:dU l x.at_ with
  | false=>rfl
  | true=>simp[bB,c1,c2,h1,lU]at h
 have c4:oU l x.id=false:=by
  cases h1:oU l x.id with
  | false=>rfl
  | true=>simp[bB,c1,c2,c3,h1,lU]at h
 exact⟨c1,c2,c3,c4⟩
theorem pY {j:Jn} {l:List Kp} {x:Kp} (h:(bB j l x).err=0):
  (bB j l x).over=l.take (bN j x.at_ l)∧
  ((fZ j (aR j l x)=true∧(bB j l x).left=cZ (fun i => !bD j (aR j l x) i) (aR j l x) (aR j l x).length∧(bB j l x).fired=cZ (bD j (aR j l x)) (aR j l x) (aR j l x).length)∨
  (fZ j (aR j l x)=false∧(aR j l x).length<30∧(bB j l x).left=aR j l x∧(bB j l x).fired=[])):=by
 obtain⟨c1,c2,c3,c4⟩:=lN h
 cases hm:fZ j (aR j l x)with
 | true=>simp[bB,c1,c2,c3,c4,hm]
 | false=>
  by_cases h30:30≤(aR j l x).length
  ·simp[bB,c1,c2,c3,c4,hm,h30,lU]at h
  ·simp[bB,c1,c2,c3,c4,hm,h30];omega
theorem Bp {j:Jn} {l:List Kp} {x:Kp} (h:(bB j l x).err=0):(l++[x]).Perm ((bB j l x).over++((bB j l x).fired++(bB j l x).left)):=by
 obtain⟨ho,hr⟩:=pY h
 have e1:l++[x]=l.take (bN j x.at_ l)++aR j l x:=by
  unfold aR
  rw[←List.append_assoc,List.take_append_drop]
 rw[e1,ho]
 refine List.Perm.append_left _ ?_
 rcases hr with⟨_,h1,h2⟩|⟨_,_,h1,h2⟩
 ·rw[h1,h2]
  have:=A2 (bD j (aR j l x)) (aR j l x) _ (Nat.le_refl _)
  rw[List.take_length]at this
  exact this.symm
 ·rw[h1,h2];simp
theorem Da {j:Jn} {l:List Kp} {x:Kp} (h:(bB j l x).err=0):(∀k∈aR j l x,gQ j k=true)∧(aR j l x).Pairwise (fun a b=>a.at_≤b.at_∧a.id≠b.id):=by
 obtain⟨c1,c2,c3,c4⟩:=lN h
 obtain⟨g1,g2⟩:=(pT j l).1 (cX c1).2.2.1
 unfold aR
 refine⟨fun k hk=>?_,?_⟩
 ·rcases List.mem_append.1 hk with hk|hk
  ·exact g1 k (List.mem_of_mem_drop hk)
  ·simp only[List.mem_singleton]at hk;subst hk;exact c2
 ·rw[List.pairwise_append]
  refine⟨g2.sublist (List.drop_sublist _ _),by simp,fun a ha b hb=>?_⟩
  simp only[List.mem_singleton]at hb
  subst hb
  have ha':=List.mem_of_mem_drop ha
  refine⟨?_,fun e=>?_⟩
  ·obtain⟨i,hi,rfl⟩:=List.mem_iff_getElem.1 ha'
   rw[List.pairwise_iff_getElem]at g2
   have h0:0<l.length:=by omega
   have hlast:¬b.at_<(l.getD (l.length-1) default).at_:=by
    intro hh
    simp[dU,h0,-List.getD_eq_getElem?_getD]at c3
    omega
   rw[aM (by omega)]at hlast
   by_cases hie:i=l.length-1
   ·subst hie;omega
   ·have:=(g2 i (l.length-1) hi (by omega) (by omega)).1
    omega
  ·have:oU l b.id=true:=by
    unfold oU
    rw[List.any_eq_true]
    exact⟨a,ha',by simpa using e⟩
   rw[c4]at this;cases this
theorem wW {j:Jn} {l:List Kp} (h:bJ j l=true):fZ j l=false:=by
 obtain⟨h1,_,_,h4⟩:=cX h
 have:=(lH j l h1).1 h4
 simp[fZ,this]
theorem Je {j:Jn} (hm:kS j=true):1≤jX j:=by
 rcases pW hm with⟨h,h1⟩|h|⟨h,h1,_⟩<;>simp[jX,h,s9,pE,rW.symm]<;>omega
theorem DD {j:Jn} (hk:j.kind=xZ) (ws:List Kp):bD j ws=fun i=>decide (i=0):=by
 funext i
 simp[bD,hk,rW.symm,pE]
theorem E4 {j:Jn} (hk:j.kind=iE) (ws:List Kp):bD j ws=fun i:Nat=>decide ((i:Int)<j.need):=by
 funext i
 simp[bD,hk,s9.symm,pE.symm]
theorem Cr {j:Jn} (hk:j.kind=xZ) (ws:List Kp):d4 j ws ws.length=min ws.length 1:=by
 unfold d4
 rw[DD hk,←B5 ws.length 1]
 congr 2
 funext i
 exact decide_eq_decide.2 (by omega)
theorem A3 {q:Nat→Bool} {ws:List Kp} {n:Nat} (h:∀i,i<n→q i=false):cZ q ws n=[]:=by
 have:(List.range n).filter q=[]:=List.filter_eq_nil_iff.2 fun i hi=>by rw[h i (by simpa using hi)];simp
 simp[cZ,this]
theorem EY {j:Jn} {l:List Kp} {x:Kp} (h:(bB j l x).err=0):fZ j (bB j l x).left=false:=by
 obtain⟨c1,c2,c3,c4⟩:=lN h
 obtain⟨w1,w2⟩:=Da h
 have hm:=(cX c1).1
 have hu:=wW c1
 rcases(pY h).2 with⟨g1,g2,_⟩|⟨g1,_,g2,_⟩
 ·rw[g2]
  rcases pW hm with⟨hk,h1⟩|hk|⟨hk,h1,_⟩
  ·obtain⟨P,hP⟩:∃P:Nat,j.parts=P:=⟨j.parts.toNat,by omega⟩
   have pr:∀{k:Kp},gQ j k=true→0≤k.part∧k.part<P:=fun hf=>by
    have:=(tV j _).1 hf
    omega
   have pl:∀k∈l,0≤k.part∧k.part<P:=fun k hk'=>pr (((pT j l).1 (cX c1).2.2.1).1 k hk')
   have pw:∀k∈aR j l x,0≤k.part∧k.part<P:=fun k hk'=>pr (w1 k hk')
   have sub:∀k∈cZ (fun i => !bD j (aR j l x) i) (aR j l x) (aR j l x).length,k∈aR j l x:=fun k hk'=>by
    obtain⟨i,hi,_,rfl⟩:=Dl hk'
    rw[aM hi];exact List.getElem_mem hi
   have hex:∃p,p<P∧sE l p=false:=by
    apply Classical.byContradiction
    intro hne
    have:fZ j l=true:=(xK hk hP pl).2 fun p hp=>by
     cases hh:sE l p with
     | true=>rfl
     | false=>exact absurd ⟨p,hp,hh⟩ hne
    rw[hu]at this;cases this
   obtain⟨p,hp,hno⟩:=hex
   cases hmm:fZ j (cZ (fun i => !bD j (aR j l x) i) (aR j l x) (aR j l x).length)with
   | false=>rfl
   | true=>
    exfalso
    have h2:=(xK hk hP fun k hk'=>pw k (sub k hk')).1 hmm p hp
    simp only[sE,cN,List.any_eq_true,decide_eq_true_eq]at h2
    obtain⟨k,hk1,hk2⟩:=h2
    obtain⟨i,hi,hq,rfl⟩:=Dl hk1
    have hnol:∀y∈l,y.part≠(p:Int):=fun y hy e=>by
     have:sE l p=true:=by
      simp only[sE,cN,List.any_eq_true,decide_eq_true_eq]
      exact⟨y,hy,e⟩
     rw[hno]at this;cases this
    have hwl:(aR j l x).length=(l.drop (bN j x.at_ l)).length+1:=by simp[aR]
    by_cases hil:i<(l.drop (bN j x.at_ l)).length
    ·have e1:(aR j l x).getD i default=(l.drop (bN j x.at_ l)).getD i default:=by
      unfold aR;exact AG hil
     rw[e1,aM hil]at hk2
     exact hnol _ (List.mem_of_mem_drop (List.getElem_mem hil)) hk2
    ·have hie:i=(l.drop (bN j x.at_ l)).length:=by omega
     rw[DE hk]at hq
     have e2:(aR j l x).take i=l.drop (bN j x.at_ l):=by
      unfold aR;rw[hie];simp
     have e3:iJ (aR j l x) i=true:=by
      unfold iJ
      rw[e2,hk2]
      simp only[Bool.not_eq_true',cN,List.any_eq_false,decide_eq_true_eq]
      exact fun y hy=>hnol y (List.mem_of_mem_drop hy)
     rw[e3]at hq;cases hq
  ·have hl0:l.length=0:=by
    have:=Cr hk l
    simp[fZ,jX,hk,pE,rW.symm,this]at hu
    omega
   have hwl:(aR j l x).length=1:=by simp[aR];omega
   rw[A3 (fun i hi=>by rw[DD hk];simp;omega)]
   have:=Cr hk []
   simp only[List.length_nil]at this
   simp[fZ,jX,hk,pE,rW.symm,this]
  ·have hl0:(l.length:Int)<j.need:=by
    have:=jU hk l
    simp[fZ,jX,hk,this]at hu
    omega
   have hwl:(aR j l x).length≤l.length+1:=by simp[aR]
   rw[A3 (fun i hi=>by rw[E4 hk];simp;omega)]
   have:=jU hk []
   simp only[List.length_nil]at this
   simp[fZ,jX,hk,this];omega
 ·rw[g2];exact g1
theorem Hl {j:Jn} {l:List Kp} {x:Kp} (h:(bB j l x).err=0) (hm:fZ j (aR j l x)=true):(bB j l x).fired.length=d4 j (aR j l x) (aR j l x).length∧jX j≤(d4 j (aR j l x) (aR j l x).length:Int):=by
 rcases(pY h).2 with⟨_,_,g2⟩|⟨g1,_,_,_⟩
 ·rw[g2,D2]
  exact⟨rfl,by simpa[fZ]using hm⟩
 ·rw[hm]at g1;cases g1
theorem E8 {j:Jn} {l:List Kp} {x:Kp} (h:(bB j l x).err=0):bJ j (bB j l x).left=true:=by
 obtain⟨c1,c2,c3,c4⟩:=lN h
 obtain⟨w1,w2⟩:=Da h
 obtain⟨m1,m2,m3,m4⟩:=cX c1
 have hu:=EY h
 have hsub:(bB j l x).left.Sublist (aR j l x):=by
  rcases(pY h).2 with⟨_,g2,_⟩|⟨_,_,g2,_⟩
  ·rw[g2]
   have:=Dk (fun i => !bD j (aR j l x) i) (aR j l x) _ (Nat.le_refl _)
   rwa [List.take_length]at this
  ·rw[g2];exact List.Sublist.refl _
 have hlen:(bB j l x).left.length<30:=by
  rcases(pY h).2 with⟨g1,g2,g3⟩|⟨_,g1,g2,_⟩
  ·have h1:=(Bp h).length_eq
   obtain⟨h2,h3⟩:=Hl h g1
   have h4:=Je m1
   simp only[List.length_append,List.length_singleton]at h1
   omega
  ·rw[g2];exact g1
 have hok:nO j (bB j l x).left (bB j l x).left.length=true:=(pT j _).2 ⟨fun k hk=>w1 k (hsub.subset hk),w2.sublist hsub⟩
 have hpl:bP j (bB j l x).left=[]:=(lH j _ m1).2 (by simpa[fZ]using hu)
 simp[bJ,m1,hlen,hok,hpl]
end Go.Vc

namespace Go.Vc
open Go.Proofs
set_option maxRecDepth 100000
def M139:MC:=(.seq (.reg [vI 1 0,aI 2 [.pv (.sc (.bool false)),.pv (.sc (.int .i64 0)),.pv (.sc (.string ⟨#[]⟩))]] [] [1,2] [1,2]) (.seq (.seq (.reg [fI 3 1 2,lJ 4 3 1,nI 5 4 true,oJ 6 .gtr 5 70] [] [1,2,6] [1,2]) (.cond (.t 6) (.reg [fI 7 1 2,lJ 8 7 1,qi 9 (.slc (.t 8) none (some (ic 70)) 0 true),fI 10 1 2,⟨none,none,.st (.t 10) (.t 9) 1⟩] [] [1,2] [1,2]) .skip)) (.seq (.reg [lI 11 1 3,⟨none,none,.st (.t 2) (.t 11) 3⟩] [] [2] [2]) .ret)))
theorem c139:Cd 139 12 [RV.cell 2 3 true] M139:=cO [] (rn [] [] 4 M139) Tryz.func139 (by kernel_rfl) Tryz.ntmps139
def M212:MC:=(.seq (.reg [kI 4 0] [] [0,1] []) (.seq (.reg [mi 7 0,cI 8 244 [.t 7],mi 5 8] [] [0,1,5] [1008]) (.seq (.reg [mi 9 1,cI 10 244 [.t 9],mi 6 10] [] [0,1,5,6] [1008,1010]) (.seq (.seq (.reg [mi 11 5] [] [0,1,6,11] [1008,1010]) (.cond (.t 11) (.seq (.seq (.reg [mi 12 6] [] [12] [1010]) (.cond (.t 12) (.seq (.reg [kI 4 0] [] [4] []) .ret) .skip)) (.seq (.reg [qi 4 (.mv (.c (.int .i64 (-1))))] [] [4] []) .ret)) .skip)) (.seq (.seq (.reg [mi 13 6] [] [0,1,13] [1010]) (.cond (.t 13) (.seq (.reg [kI 4 1] [] [4] []) .ret) .skip)) (.seq (.seq (.reg [mi 14 0,mi 15 1,oI 16 .lss 14 15] [] [0,1,16] []) (.cond (.t 16) (.seq (.reg [qi 4 (.mv (.c (.int .i64 (-1))))] [] [4] []) .ret) .skip)) (.seq (.seq (.reg [mi 17 0,mi 18 1,oI 19 .gtr 17 18] [] [19] []) (.cond (.t 19) (.seq (.reg [kI 4 1] [] [4] []) .ret) .skip)) (.seq (.reg [kI 4 0] [] [4] []) .ret))))))))
theorem c212:Cd 212 20 [RV.tmp 4] M212:=cO [] (rn [] [] 14 M212) Tryz.func212 (by kernel_rfl) Tryz.ntmps212
def M213:MC:=(.seq (.reg [kI 4 0] [] [0,1] []) (.seq (.reg [mi 5 0,mi 6 1,cI 7 245 [.t 5,.t 6],mi 4 7] [] [4] [1007]) .ret))
theorem c213:Cd 213 8 [RV.tmp 4] M213:=cO [] (rn [] [] 2 M213) Tryz.func213 (by kernel_rfl) Tryz.ntmps213
def M244:MC:=(.seq (.reg [bI 2 false] [] [0] []) (.seq (.reg [mi 3 0,mi 4 0,oI 5 .neq 3 4,mi 2 5] [] [2] []) .ret))
theorem c244:Cd 244 6 [RV.tmp 2] M244:=cO [] (rn [] [] 2 M244) Tryz.func244 (by kernel_rfl) Tryz.ntmps244
def M172:MC:=(.seq (.reg [vI 2 0,vI 3 1,kI 4 0] [] [2,3] [2,3]) (.seq (.block 0 (.seq (.reg [fI 6 2 0,lJ 7 6 1,mi 8 7,gT 9 8 (.fa (.t 3) 0),gT 10 8 (.ld (.t 9) 1 false),qi 11 (.pick (.t 8) (.t 10) (.c (.bool false))),mi 5 11] [] [2,3,5] [2,3]) (.cond (.t 5) (.seq (.reg [fI 12 2 1,lJ 13 12 1,fI 14 3 1,lJ 15 14 1,cI 16 212 [.t 13,.t 15],mi 4 16] [] [4] [1016,1027]) .ret) (.seq (.reg [fI 18 2 0,lJ 19 18 1,mi 17 19] [] [2,3,17] [2,3]) (.cond (.t 17) (.seq (.reg [qi 4 (.mv (.c (.int .i64 (-1))))] [] [4] [1016,1027]) .ret) (.seq (.reg [fI 21 3 0,lJ 22 21 1,mi 20 22] [] [2,3,20] [2,3]) (.cond (.t 20) (.seq (.reg [kI 4 1] [] [4] [1016,1027]) .ret) .skip))))))) (.seq (.reg [fI 23 2 2,lJ 24 23 1,fI 25 3 2,lJ 26 25 1,cI 27 213 [.t 24,.t 26],mi 4 27] [] [4] [1016,1027]) .ret)))
theorem c172:Cd 172 28 [RV.tmp 4] M172:=cO [] (rn [] [] 8 M172) Tryz.func172 (by kernel_rfl) Tryz.ntmps172
theorem c204:Cd 204 19 [RV.tmp 4] (xC 4):=cO [] rU Tryz.func204 (by kernel_rfl) Tryz.ntmps204
def M205:MC:=(.seq (.reg [vI 2 0,bI 3 false] [] [1,2] [2]) (.seq (.reg [fI 4 2 0,lI 5 4 3,lI 6 1 3,qi 7 (.seq false [2,0,1] (.t 5) (.t 6)),mi 3 7] [] [3] []) .ret))
theorem c205:Cd 205 8 [RV.tmp 3] M205:=cO [] (rn [] [] 2 M205) Tryz.func205 (by kernel_rfl) Tryz.ntmps205
def M165:MC:=(.seq (.reg [vI 3 1,kI 4 0] [] [0,3] [3]) (.seq (.reg [mi 5 0,qi 6 (.clo 205 [.t 3]),cI 7 204 [.t 5,.t 6],mi 4 7] [] [4] [1007]) .ret))
theorem c165:Cd 165 8 [RV.tmp 4] M165:=cO [] (rn [] [] 2 M165) Tryz.func165 (by kernel_rfl) Tryz.ntmps165
def B178_0:MC:=(.seq (.reg [oI 9 .lss 8 7] [] [3,6,7,8,9] []) (.seq (.cond (.t 9) .skip (.exit 0)) (.seq (.block 1 (.seq (.reg [qi 10 (.ia (.t 6) (.t 8) 4),lI 11 10 4,aI 5 [.pv (.sc (.bool false)),.pv (.sc (.int .i64 0)),.pv (.sc (.string ⟨#[]⟩)),.e0],⟨none,none,.st (.t 5) (.t 11) 4⟩] [] [3,5,6,7,8] [5]) (.reg [mi 12 3,fI 13 5 3,lJ 14 13 1,nI 15 14 false,oI 16 .add 12 15,mi 3 16] [] [3,6,7,8] []))) (.reg [oJ 17 .add 8 1,mi 8 17] [] [3,6,7,8] []))))
def R178_0:MC:=(.seq (.reg [mi 18 3,mi 2 18] [] [2] []) .ret)
def M178:MC:=(.seq (.reg [kI 2 0] [] [0] []) (.seq (.reg [kI 3 0] [] [0,3] []) (.seq (.seq (.reg [mi 6 0,nI 7 6 false,kI 8 0] [] [3,6,7,8] []) (.block 0 (.loop B178_0))) R178_0)))
theorem c178:Cd 178 19 [RV.tmp 2] M178:=cO [] (rn [] [] 8 M178) Tryz.func178 (by kernel_rfl) Tryz.ntmps178
def B6_0:MC:=(.seq (.seq (.reg [mi 5 4,mi 6 0,nI 7 6 false,oI 8 .lss 5 7] [] [0,3,4,8] [17,2003]) (.cond (.t 8) .skip (.exit 0))) (.seq (.block 1 (.reg [mi 11 3,mi 12 0,mi 13 4,qi 14 (.ia (.t 12) (.t 13) 4),fI 15 14 3,lJ 16 15 1,⟨some 17,none,.app (.t 11) (.t 16) 3 24⟩,mi 3 17] [] [0,3,4] [17,2003])) (.reg [mi 9 4,oJ 10 .add 9 1,mi 4 10] [] [0,3,4] [17,2003])))
def R6_0:MC:=(.seq (.reg [mi 18 3,mi 2 18] [] [2] [17,2003]) .ret)
def M6:MC:=(.seq (.reg [qi 2 (.mv .nil)] [] [0] []) (.seq (.reg [qi 3 (.mv .nil)] [(3,2003,3)] [0,3] [17,2003]) (.seq (.seq (.reg [kI 4 0] [] [0,3,4] [17,2003]) (.block 0 (.loop B6_0))) R6_0)))
theorem c6:Cd 6 19 [RV.tmp 2] M6:=cO [] (rn [] [] 7 M6) Tryz.func6 (by kernel_rfl) Tryz.ntmps6
def M164:MC:=(.seq (.reg [vI 3 1,bI 4 false] [] [0,3] [3]) (.seq (.reg [mi 5 0,qi 6 (.clo 201 [.t 3]),cI 7 200 [.t 5,.t 6],mi 4 7] [] [4] [1007]) .ret))
theorem c164:Cd 164 8 [RV.tmp 4] M164:=cO [] (rn [] [] 2 M164) Tryz.func164 (by kernel_rfl) Tryz.ntmps164
theorem c200:Cd 200 9 [RV.tmp 4] (KC 204):=cO [] L9 Tryz.func200 (by kernel_rfl) Tryz.ntmps200
def M201:MC:=(.seq (.reg [vI 2 0,bI 3 false] [] [1,2] [2]) (.seq (.reg [fI 4 2 3,lJ 5 4 1,qi 6 (.clo 203 [.t 1]),cI 7 202 [.t 5,.t 6],mi 3 7] [] [3] [1007]) .ret))
theorem c201:Cd 201 8 [RV.tmp 3] M201:=cO [] (rn [] [] 2 M201) Tryz.func201 (by kernel_rfl) Tryz.ntmps201
def M203:MC:=(.seq (.reg [vI 2 0,bI 3 false] [] [1,2] [2]) (.seq (.reg [fI 4 2 1,lJ 5 4 1,lJ 6 1 1,oI 7 .eql 5 6,mi 3 7] [] [3] []) .ret))
theorem c203:Cd 203 8 [RV.tmp 3] M203:=cO [] (rn [] [] 2 M203) Tryz.func203 (by kernel_rfl) Tryz.ntmps203
def B167_0:MC:=(.seq (.reg [oI 21 .lss 20 19] [] [2,4,7,8,18,19,20,21] [4,14,38,51,60]) (.seq (.cond (.t 21) .skip (.exit 0)) (.seq (.block 1 (.seq (.reg [qi 22 (.ia (.t 18) (.t 20) 4),lI 23 22 4,aI 10 [.pv (.sc (.bool false)),.pv (.sc (.int .i64 0)),.pv (.sc (.string ⟨#[]⟩)),.e0],⟨none,none,.st (.t 10) (.t 23) 4⟩] [] [2,4,7,8,10,18,19,20] [4,10,14,38,51,60]) (.seq (.seq (.reg [mi 24 8,qi 25 (.not (.t 24)),mi 26 25,gT 27 26 (.fa (.t 10) 0),gT 28 26 (.ld (.t 27) 3 true),gT 29 26 (.ld (.t 4) 3 true),⟨some 30,some (26,true),.call (.f 172) [.t 28,.t 29]⟩,gT 31 26 (.bin .geq (.t 30) (ic 0)),qi 32 (.pick (.t 26) (.t 31) (.c (.bool false)))] [] [2,4,7,8,10,18,19,20,32] [4,10,14,38,51,60,1030]) (.cond (.t 32) (.seq (.reg [mi 33 7,lI 34 4 3,mi 35 2,qi 36 (.mk [.pv (.sc (.bool false)),.pv (.sc (.int .i64 0)),.pv (.sc (.string ⟨#[]⟩)),.e0] [(0,3,(.t 34)),(3,1,(.t 35))]),⟨some 37,none,.lits [.t 36] 4⟩,⟨some 38,none,.app (.t 33) (.t 37) 4 56⟩,mi 7 38] [] [2,4,7,10,18,19,20] [4,10,14,38,51,60]) (.reg [bI 8 true] [] [2,4,7,8,10,18,19,20] [4,10,14,38,51,60])) .skip)) (.seq (.reg [fI 39 10 0,lI 40 39 3,lI 41 4 3,qi 42 (.seq true [2,0,1] (.t 40) (.t 41))] [] [2,4,7,8,10,18,19,20,42] [4,10,14,38,51,60]) (.cond (.t 42) (.reg [mi 43 7,fI 44 10 0,lI 45 44 3,fI 46 10 3,lJ 47 46 1,cI 48 176 [.t 47],qi 49 (.mk [.pv (.sc (.bool false)),.pv (.sc (.int .i64 0)),.pv (.sc (.string ⟨#[]⟩)),.e0] [(0,3,(.t 45)),(3,1,(.t 48))]),⟨some 50,none,.lits [.t 49] 4⟩,⟨some 51,none,.app (.t 43) (.t 50) 4 56⟩,mi 7 51] [] [2,4,7,8,18,19,20] [4,14,38,51,60]) .skip))))) (.reg [oJ 52 .add 20 1,mi 20 52] [] [2,4,7,8,18,19,20] [4,14,38,51,60]))))
def R167_0:MC:=(.seq (.seq (.reg [mi 53 8,qi 54 (.not (.t 53))] [] [2,4,7,54] [4,14,38,51,60]) (.cond (.t 54) (.reg [mi 55 7,lI 56 4 3,mi 57 2,qi 58 (.mk [.pv (.sc (.bool false)),.pv (.sc (.int .i64 0)),.pv (.sc (.string ⟨#[]⟩)),.e0] [(0,3,(.t 56)),(3,1,(.t 57))]),⟨some 59,none,.lits [.t 58] 4⟩,⟨some 60,none,.app (.t 55) (.t 59) 4 56⟩,mi 7 60] [] [7] [14,38,51,60]) .skip)) (.seq (.reg [mi 61 7,mi 6 61] [] [6] [14,38,51,60]) .ret))
def M167:MC:=(.seq (.reg [vI 4 1,qi 6 (.mv .nil)] [] [0,2,4] [4]) (.seq (.reg [mi 11 0,nI 12 11 false,oJ 13 .add 12 1,⟨some 14,none,.mks (ic 0) (.t 13) 4 56 (.agg [.sc (.bool false),.sc (.int .i64 0),.sc (.string ⟨#[]⟩),.lst []])⟩,mi 7 14] [] [0,2,4,7] [4,14,38,51,60]) (.seq (.reg [mi 15 2,nI 16 15 false,oJ 17 .eql 16 0,mi 8 17] [] [0,2,4,7,8] [4,14,38,51,60]) (.seq (.seq (.reg [mi 18 0,nI 19 18 false,kI 20 0] [] [2,4,7,8,18,19,20] [4,14,38,51,60]) (.block 0 (.loop B167_0))) R167_0))))
theorem c167:Cd 167 62 [RV.tmp 6] M167:=cO [] (rn [] [(10,[(0,769),(1,966),(2,964),(3,1016),(4,1008),(5,0),(6,960),(7,0),(8,0),(9,512)],767)] 15 M167) Tryz.func167 (by kernel_rfl) Tryz.ntmps167
def M111:MC:=(.seq (.reg [vI 4 0,vI 6 2,vI 7 3,qi 8 (.mv .nil),qi 9 (.mv .nil),qi 10 (.mv .nil),kI 11 0] [] [1,4,6,7] [4,6,7]) (.seq (.seq (.reg [lI 19 4 4,mi 20 1,cI 21 125 [.t 19,.t 20],mi 12 21] [] [1,4,6,7,12] [4,6,7,1021]) (.seq (.reg [mi 22 12,oJ 23 .neq 22 0] [] [1,4,6,7,12,23] [4,6,7,1021]) (.cond (.t 23) (.seq (.reg [mi 24 12,qi 8 (.mv .nil),qi 9 (.mv .nil),qi 10 (.mv .nil),mi 11 24] [] [8,9,10,11] [1021,1046,1069]) .ret) .skip))) (.seq (.seq (.reg [lI 25 6 3,cI 26 75 [.t 25],qi 27 (.not (.t 26))] [] [1,4,6,7,27] [4,6,7,1026]) (.cond (.t 27) (.seq (.reg [qi 8 (.mv .nil),qi 9 (.mv .nil),qi 10 (.mv .nil),kI 11 1] [] [8,9,10,11] [1021,1046,1069]) .ret) .skip)) (.seq (.seq (.reg [mi 28 1,fI 29 7 1,lJ 30 29 1,cI 31 164 [.t 28,.t 30]] [] [1,4,6,7,31] [4,6,7,1031]) (.cond (.t 31) (.seq (.reg [qi 8 (.mv .nil),qi 9 (.mv .nil),qi 10 (.mv .nil),kI 11 5] [] [8,9,10,11] [1021,1046,1069]) .ret) .skip)) (.seq (.reg [qi 13 (.mv .nil)] [(13,14,0)] [1,4,6,7,13] [4,6,7]) (.seq (.reg [mi 32 1,lI 33 6 3,cI 34 165 [.t 32,.t 33],mi 14 34] [] [1,4,6,7,13,14] [4,6,7,1034]) (.seq (.seq (.reg [mi 35 14,oJ 36 .geq 35 0] [] [1,4,6,7,13,14,36] [4,6,7,1034]) (.cond (.t 36) (.reg [mi 37 1,mi 38 14,qi 39 (.ia (.t 37) (.t 38) 4),fI 40 39 3,lJ 41 40 1,mi 13 41] [] [1,4,6,7,13,14] [4,6,7,1034]) .skip)) (.seq (.reg [lI 43 4 4,mi 44 13,lI 45 7 3,cI 46 166 [.t 43,.t 44,.t 45],mi 42 46,xI 47 42 0,xI 48 42 1,xI 49 42 2,xI 50 42 3,mi 15 47,mi 16 48,mi 17 49,mi 18 50] [] [1,6,14,15,16,17,18] [6,1034,1046]) (.seq (.seq (.reg [mi 51 18,oJ 52 .neq 51 0] [] [1,6,14,15,16,17,18,52] [6,1034,1046]) (.cond (.t 52) (.seq (.reg [mi 53 18,qi 8 (.mv .nil),qi 9 (.mv .nil),qi 10 (.mv .nil),mi 11 53] [] [8,9,10,11] [1021,1046,1069]) .ret) .skip)) (.seq (.seq (.reg [mi 54 14,oJ 55 .lss 54 0,mi 56 55,gT 57 56 (.mv (.t 15)),gT 58 56 (.len (.t 57) false),gT 59 56 (.bin .gtr (.t 58) (ic 0)),qi 60 (.pick (.t 56) (.t 59) (.c (.bool false))),mi 61 60,gT 62 61 (.mv (.t 1)),gT 63 61 (.len (.t 62) false),gT 64 61 (.bin .geq (.t 63) (ic 40)),qi 65 (.pick (.t 61) (.t 64) (.c (.bool false)))] [] [1,6,15,16,17,65] [6,1034,1046]) (.cond (.t 65) (.seq (.reg [qi 8 (.mv .nil),qi 9 (.mv .nil),qi 10 (.mv .nil),kI 11 6] [] [8,9,10,11] [1021,1046,1069]) .ret) .skip)) (.seq (.reg [mi 66 1,lI 67 6 3,mi 68 15,cI 69 167 [.t 66,.t 67,.t 68],mi 70 16,mi 71 17,mi 8 69,mi 9 70,mi 10 71,kI 11 0] [] [8,9,10,11] [1021,1046,1069]) .ret)))))))))))
theorem c111:Cd 111 72 [RV.tmp 8,RV.tmp 9,RV.tmp 10,RV.tmp 11] M111:=cO [] (rn [] [] 18 M111) Tryz.func111 (by kernel_rfl) Tryz.ntmps111
def B125_1:MC:=(.seq (.reg [oI 63 .lss 62 61] [] [1,2,5,6,21,22,23,60,61,62,63] [2,20]) (.seq (.cond (.t 63) .skip (.exit 2)) (.seq (.block 3 (.seq (.reg [qi 64 (.ia (.t 60) (.t 62) 3),lI 65 64 3,aI 9 [.pv (.sc (.int .i64 0)),.pv (.sc (.int .u64 0)),.pv (.sc (.int .i64 0))],⟨none,none,.st (.t 9) (.t 65) 3⟩] [] [1,2,5,6,9,21,22,23,60,61,62] [2,9,20]) (.seq (.seq (.reg [mi 67 5,fI 68 9 1,lJ 69 68 1,qi 70 (.mget (.t 67) (.t 69) true Kk.int (.pv (.sc (.int .i64 0)))),mi 66 70,xI 71 66 0,xI 72 66 1,mi 10 71,mi 11 72] [] [1,2,5,6,9,11,21,22,23,60,61,62] [2,9,20]) (.seq (.reg [mi 73 11] [] [1,2,5,6,9,21,22,23,60,61,62,73] [2,9,20]) (.cond (.t 73) (.seq (.reg [kI 4 1] [] [4] []) .ret) .skip))) (.reg [mi 74 5,fI 75 9 1,lJ 76 75 1,mi 77 6,⟨none,none,.mset (.t 74) (.t 76) (.t 77) Kk.int⟩] [] [1,2,5,6,21,22,23,60,61,62] [2,20])))) (.reg [oJ 78 .add 62 1,mi 62 78] [] [1,2,5,6,21,22,23,60,61,62] [2,20]))))
def B125_0:MC:=(.seq (.reg [oI 24 .lss 23 22] [] [1,2,5,21,22,23,24] [2,20]) (.seq (.cond (.t 24) .skip (.exit 0)) (.seq (.block 1 (.seq (.reg [mi 25 23,qi 26 (.ia (.t 21) (.t 23) 4),lI 27 26 4,aI 7 [.pv (.sc (.bool false)),.pv (.sc (.int .i64 0)),.pv (.sc (.string ⟨#[]⟩)),.e0],mi 6 25,⟨none,none,.st (.t 7) (.t 27) 4⟩] [] [1,2,5,6,7,21,22,23] [2,7,20]) (.seq (.seq (.reg [fI 28 7 0,lI 29 28 3,cI 30 75 [.t 29],qi 31 (.not (.t 30)),mi 32 31,gF 33 32 (.mv (.t 6)),gF 34 32 (.bin .gtr (.t 33) (ic 0)),gF 35 32 (.mv (.t 34)),gT 36 35 (.mv (.t 1)),gT 37 35 (.mv (.t 6)),gT 38 35 (.bin .sub (.t 37) (ic 1)),gT 39 35 (.ia (.t 36) (.t 38) 4),gT 40 35 (.fa (.t 39) 0),gT 41 35 (.ld (.t 40) 3 true),gT 42 35 (.fa (.t 7) 0),gT 43 35 (.ld (.t 42) 3 true),⟨some 44,some (35,true),.call (.f 172) [.t 41,.t 43]⟩,gT 45 35 (.bin .geq (.t 44) (ic 0)),gF 46 32 (.pick (.t 35) (.t 45) (.c (.bool false))),qi 47 (.pick (.t 32) (.c (.bool true)) (.t 46))] [] [1,2,5,6,7,21,22,23,47] [2,7,20,1030,1044]) (.cond (.t 47) (.seq (.reg [kI 4 1] [] [4] []) .ret) .skip)) (.seq (.seq (.reg [fI 48 7 3,lJ 49 48 1,nI 50 49 false,oJ 51 .eql 50 0,mi 52 51,gF 53 52 (.ld (.t 2) 4 true),gF 54 52 (.fa (.t 7) 3),gF 55 52 (.ld (.t 54) 1 false),⟨some 56,some (52,false),.call (.f 173) [.t 53,.t 55]⟩,gF 57 52 (.bin .neq (.t 56) (ic 0)),qi 58 (.pick (.t 52) (.c (.bool true)) (.t 57))] [] [1,2,5,6,7,21,22,23,58] [2,7,20,1056]) (.cond (.t 58) (.seq (.reg [kI 4 1] [] [4] []) .ret) .skip)) (.seq (.reg [fI 59 7 3,lJ 60 59 1,nI 61 60 false,kI 62 0] [] [1,2,5,6,21,22,23,60,61,62] [2,20]) (.block 2 (.loop B125_1))))))) (.reg [oJ 79 .add 23 1,mi 23 79] [] [1,2,5,21,22,23] [2,20]))))
def R125_0:MC:=(.seq (.reg [kI 4 0] [] [4] []) .ret)
def M125:MC:=(.seq (.reg [vI 2 0,kI 4 0] [] [1,2] [2]) (.seq (.seq (.reg [lI 12 2 4,cI 13 94 [.t 12],qi 14 (.not (.t 13)),mi 15 14,gF 16 15 (.mv (.t 1)),gF 17 15 (.len (.t 16) false),gF 18 15 (.bin .gtr (.t 17) (ic 40)),qi 19 (.pick (.t 15) (.c (.bool true)) (.t 18))] [] [1,2,19] [2,1013]) (.cond (.t 19) (.seq (.reg [kI 4 1] [] [4] []) .ret) .skip)) (.seq (.reg [⟨some 20,none,.mkm⟩,mi 5 20] [] [1,2,5] [2,20]) (.seq (.seq (.reg [mi 21 1,nI 22 21 false,kI 23 0] [] [1,2,5,21,22,23] [2,20]) (.block 0 (.loop B125_0))) R125_0))))
theorem c125:Cd 125 80 [RV.tmp 4] M125:=cO [] (rn [] [(7,[(0,1048575),(1,1048574),(2,0),(3,1048568),(4,1048560),(5,1048544),(6,1048512),(7,1048448),(8,997632),(9,998912),(10,998400),(11,997376),(12,995328),(13,991232),(14,1032192),(15,1015808),(16,0),(17,917504),(18,786432),(19,524288)],1048575)] 21 M125) Tryz.func125 (by kernel_rfl) Tryz.ntmps125
def B69_0:MC:=(.seq (.reg [oI 32 .lss 31 30] [] [2,3,10,11,29,30,31,32] [3,49,59,2010,2011]) (.seq (.cond (.t 32) .skip (.exit 0)) (.seq (.block 1 (.seq (.reg [qi 33 (.ia (.t 29) (.t 31) 4),lI 34 33 4,aI 13 [.pv (.sc (.bool false)),.pv (.sc (.int .i64 0)),.pv (.sc (.string ⟨#[]⟩)),.e0],⟨none,none,.st (.t 13) (.t 34) 4⟩] [] [2,3,10,11,13,29,30,31] [3,13,49,59,2010,2011]) (.seq (.reg [lI 36 3 4,fI 37 13 3,lJ 38 37 1,mi 39 2,cI 40 126 [.t 36,.t 38,.t 39],mi 35 40,xI 41 35 0,xI 42 35 1,xI 43 35 2,mi 14 41,mi 15 42,mi 16 43] [] [2,3,10,11,13,14,15,16,29,30,31] [3,13,49,59,1040,2010,2011]) (.seq (.seq (.reg [mi 44 16,oJ 45 .neq 44 0] [] [2,3,10,11,13,14,15,16,29,30,31,45] [3,13,49,59,1040,2010,2011]) (.cond (.t 45) (.seq (.reg [mi 46 16,qi 6 (.mv .nil),qi 7 (.mv .nil),mi 8 46] [] [6,7,8] [49,59,1019,1040,2010,2011]) .ret) .skip)) (.seq (.reg [mi 47 11,mi 48 15,⟨some 49,none,.app (.t 47) (.t 48) 3 24⟩,mi 11 49] [] [2,3,10,11,13,14,29,30,31] [3,13,49,59,1040,2010,2011]) (.seq (.reg [mi 50 14,nI 51 50 false,oJ 52 .gtr 51 0] [] [2,3,10,11,13,14,29,30,31,52] [3,13,49,59,1040,2010,2011]) (.cond (.t 52) (.reg [mi 53 10,fI 54 13 0,lI 55 54 3,mi 56 14,qi 57 (.mk [.pv (.sc (.bool false)),.pv (.sc (.int .i64 0)),.pv (.sc (.string ⟨#[]⟩)),.e0] [(0,3,(.t 55)),(3,1,(.t 56))]),⟨some 58,none,.lits [.t 57] 4⟩,⟨some 59,none,.app (.t 53) (.t 58) 4 56⟩,mi 10 59] [] [2,3,10,11,29,30,31] [3,49,59,2010,2011]) .skip))))))) (.reg [oJ 60 .add 31 1,mi 31 60] [] [2,3,10,11,29,30,31] [3,49,59,2010,2011]))))
def R69_0:MC:=(.seq (.reg [mi 61 10,mi 62 11,mi 6 61,mi 7 62,kI 8 0] [] [6,7,8] [49,59,1019,1040,2010,2011]) .ret)
def M69:MC:=(.seq (.reg [vI 3 0,qi 6 (.mv .nil),qi 7 (.mv .nil),kI 8 0] [] [1,2,3] [3]) (.seq (.seq (.reg [lI 17 3 4,mi 18 1,cI 19 125 [.t 17,.t 18],mi 9 19] [] [1,2,3,9] [3,1019]) (.seq (.reg [mi 20 9,oJ 21 .neq 20 0] [] [1,2,3,9,21] [3,1019]) (.cond (.t 21) (.seq (.reg [mi 22 9,qi 6 (.mv .nil),qi 7 (.mv .nil),mi 8 22] [] [6,7,8] [49,59,1019,1040,2010,2011]) .ret) .skip))) (.seq (.seq (.reg [mi 23 2,oJ 24 .lss 23 0,mi 25 24,gF 26 25 (.mv (.t 2)),gF 27 25 (.bin .gtr (.t 26) (ic 1099511627775)),qi 28 (.pick (.t 25) (.c (.bool true)) (.t 27))] [] [1,2,3,28] [3]) (.cond (.t 28) (.seq (.reg [qi 6 (.mv .nil),qi 7 (.mv .nil),kI 8 1] [] [6,7,8] [49,59,1019,1040,2010,2011]) .ret) .skip)) (.seq (.reg [qi 10 (.mv .nil)] [(10,2010,4)] [1,2,3,10] [3,59,2010]) (.seq (.reg [qi 11 (.mv .nil)] [(11,2011,3)] [1,2,3,10,11] [3,49,59,2010,2011]) (.seq (.seq (.reg [mi 29 1,nI 30 29 false,kI 31 0] [] [2,3,10,11,29,30,31] [3,49,59,2010,2011]) (.block 0 (.loop B69_0))) R69_0))))))
theorem c69:Cd 69 63 [RV.tmp 6,RV.tmp 7,RV.tmp 8] M69:=cO [] (rn [] [] 19 M69) Tryz.func69 (by kernel_rfl) Tryz.ntmps69
end Go.Vc

namespace Go.Vc
open Go.Proofs Go.Shelf Go.RowKit
set_option linter.unusedSimpArgs false
set_option linter.unusedVariables false
def Q9:Ren:=⟨fun n=>if n=213 then 245 else if n=265 then 254 else n,fun t=>t,fun g=>g⟩
theorem Lj:Lays.n213 Tryz.prog Q9 where
 mixed:=by kernel_rfl
 f213:=by kernel_rfl
 f265:=by kernel_rfl
 t3:=by kernel_rfl
 a3:=fun w=>by kernel_rfl
 z3:=fun w=>by kernel_rfl
 v3:=fun w=>by kernel_rfl
 t9:=by kernel_rfl
 a9:=fun w=>by kernel_rfl
 z9:=fun w=>by kernel_rfl
 v9:=fun w=>by kernel_rfl
def BJ (a b:ByteArray):Int:=Lib.compareBytes a.data.toList b.data.toList
theorem PU (a b:ByteArray):Fn Tryz.prog 245 [pS a,pS b] (.pv (pI (BJ a b))) []:=by
 refine⟨fT (fn:=Tryz.f245) Tryz.func245 (by decide) rfl,fun w F vs hF htb hv=>?_⟩
 simp only[aE,aG]at hv
 obtain⟨u,r,rfl,rfl,u',r',rfl,rfl,rfl⟩:=hv
 have:=Any.bytealg_CompareString Lj a b w
 refine this.mono fun en w' ⟨e1,e2⟩=>?_
 subst e1;subst e2
 refine⟨_,⟨w',F,fun _=>default⟩,rfl,rfl,⟨Below.refl _ _,by simp[aB,aG,BJ],fun i s xs h=>by simp at h,fun i j hi=>by simp at hi,fun i hi=>by simp at hi,fun b=>by simp⟩⟩
end Go.Vc

namespace Go.Vc
open Go.Proofs
set_option linter.unusedSimpArgs false
set_option linter.unusedVariables false
set_option maxRecDepth 10000
def qQ (x:Ot) (now:Int):Ot:={ x with tries:=x.tries+1,due:=if 1099511627775<now+2^(x.tries+1).toNat then 1099511627775 else now+2^(x.tries+1).toNat }
structure NR where
 l:List Ot
 up:Bool
 err:Int
 deriving DecidableEq
abbrev NR.pv (r:NR):PV:=.tup [os r.l,pB r.up,pI r.err]
def mV (l:List Ot) (id now:Int):NR:=
 if bL l=false∨dW now=false then⟨[],false,1⟩else if bY l id<0 then⟨[],false,4⟩
 else if(l.getD (bY l id).toNat default).tries=4 then⟨xB l (bY l id).toNat,true,0⟩
 else⟨l.set (bY l id).toNat (qQ (l.getD (bY l id).toNat default) now),false,0⟩
theorem yU (x:Ot):rI x=true↔1≤x.id∧b8 x.sub=true∧(1≤x.ids.length∧x.ids.length≤30)∧(0≤x.tries∧x.tries<5)∧dW x.due=true:=by
 simp[rI,and_assoc]
theorem eK {l:List Ot} (h:bL l=true) {x:Ot} (hx:x∈l):rI x=true:=by
 obtain⟨i,hi,rfl⟩:=List.mem_iff_getElem.1 hx
 have:=((fF l).1 h).2 i hi
 simp only[HG,Bool.and_eq_true,aM hi]at this
 exact this.1
theorem uT (n:Int):dW n=true↔0≤n∧n≤1099511627775:=by simp[dW]
theorem nH {xs:List PV} {n:Nat} {p:PV} (h:n<xs.length):(xs.set n p).getD n default=p:=by
 simp[List.getD_eq_getElem?_getD,h]
theorem FM {t:Int} (h0:0≤t) (h5:t<5):(2:Int)^(t+1).toNat≤32∧0≤(2:Int)^(t+1).toNat:=by
 have:t=0∨t=1∨t=2∨t=3∨t=4:=by omega
 rcases this with h|h|h|h|h<;>subst h<;>decide
theorem RA (l:List Ot) (id now:Int) (hl:l.length<100000):Fn Tryz.prog 57 [os l,pU id,pI now] (.pv (mV l id now).pv) []:=by
 refine c57.r [false,false,false] (by simp) ?_
 simp only[go_sem,M57]
 refine aA (by simp only[go_sem]) (by simp only[go_sem]<;>rfl) (Eb l hl) ⟨rfl,trivial⟩ trivial ?_
 simp only[go_sem]
 refine aF (by simp only[go_sem]) (by simp only[go_sem]) (by simp only[go_sem]<;>rfl) (fun _=>Ic now) rfl ?_
 simp only[go_sem,nA]
 refine⟨fun h=>?_,fun⟨h1,h2⟩=>?_⟩
 ·simp[mV,h]
 ·refine aA (by simp only[go_sem]) (by simp only[go_sem]<;>rfl) (HO l id hl) ⟨rfl,trivial⟩ trivial ?_
  simp only[go_sem]
  refine⟨fun h=>?_,fun h=>?_⟩
  ·simp[mV,h1,h2,h]
  ·rcases eY (fun x:Ot=>decide (x.id=id)) l with⟨h3,_⟩|⟨n,hn,h3,_⟩
   ·exact absurd (show bY l id<0 by unfold bY;omega) h
   ·have h4:bY l id=(n:Int):=h3
    have hm:=(yU _).1 (eK h1 (List.getElem_mem hn))
    have hp:=FM hm.2.2.2.1.1 hm.2.2.2.1.2
    have ht:=(uT now).1 h2
    simp only[go_sem,h4,eU,aK hn,show(n:Int)<(l.length:Int)by omega]
    refine⟨fun h5=>?_,fun h5=>?_⟩
    ·refine aC (by simp only[go_sem]) rfl (MJ l n hn hl) (.inl rfl) trivial ?_
     simp only[go_sem]
     simp[mV,h1,h2,h4,show ¬(n:Int)<0 by omega,hn,h5]
    ·refine aC (by simp only[go_sem]) rfl (Ec l hl) (.inl rfl) trivial ?_
     have hn':n<(l.map Ot.pv).length:=by simpa using hn
     simp only[go_sem,aK hn,hn,nH hn',List.length_set,lV,show(n:Int)<(l.length:Int)by omega]
     have e1:(1:Int)*2^(l[n].tries+1).toNat=2^(l[n].tries+1).toNat:=Int.one_mul _
     rw[e1]
     refine⟨⟨by omega,by omega⟩,⟨by omega,by omega,by omega,by omega⟩,⟨by omega,by omega⟩,?_⟩
     have e2:mV l id now=⟨l.set n (qQ l[n] now),false,0⟩:=by
      simp[mV,h1,h2,h4,show ¬(n:Int)<0 by omega,hn,h5]
     rw[e2,List.set_set,List.take_of_length_le (by simp)]
     simp only[NR.pv,os,List.map_set]
     rfl
end Go.Vc

namespace Go.Vc
open Go.Proofs
set_option linter.unusedSimpArgs false
set_option linter.unusedVariables false
abbrev Ei (x y:Ot):Prop:=x.id<y.id
theorem eJ {l:List Ot} (h:bL l=true):l.Pairwise Ei:=by
 have h':=(fF l).1 h
 have adj:∀i,i+1<l.length→(l.getD i default).id<(l.getD (i+1) default).id:=fun i hi=>by
  have:=h'.2 (i+1) hi
  simp only[HG,Bool.and_eq_true,Bool.or_eq_true,decide_eq_true_eq,Nat.add_sub_cancel]at this
  rcases this.2 with h1|h1
  ·omega
  ·exact h1
 have key:∀d i,i+1+d<l.length→(l.getD i default).id<(l.getD (i+1+d) default).id:=by
  intro d
  induction d with
  | zero=>intro i hi;exact adj i hi
  | succ d ih=>intro i hi;exact Int.lt_trans (ih i (by omega)) (adj (i+1+d) (by omega))
 rw[List.pairwise_iff_getElem]
 intro i k hi hk hik
 have:=key (k-(i+1)) i (by omega)
 rw[show i+1+(k-(i+1))=k by omega,aM hi,aM hk]at this
 exact this
theorem kQ {l:List Ot} (h1:l.length≤100) (h2:∀x∈l,rI x=true) (h3:l.Pairwise Ei):bL l=true:=by
 refine(fF l).2 ⟨h1,fun i hi=>?_⟩
 simp only[HG,Bool.and_eq_true,Bool.or_eq_true,decide_eq_true_eq,aM hi]
 refine⟨h2 _ (List.getElem_mem hi),?_⟩
 by_cases h0:i=0
 ·exact .inl h0
 ·right
  rw[aM (show i-1<l.length by omega)]
  exact List.pairwise_iff_getElem.1 h3 (i-1) i (by omega) hi (by omega)
theorem zB (l:List Ot) (i:Nat):(xB l i).Sublist l:=by
 unfold xB
 have h1:(l.take i++l.drop (i+1)).Sublist (l.take i++l.drop i):=List.Sublist.append (List.Sublist.refl _) (by
  rw[←List.drop_drop]
  exact List.drop_sublist _ _)
 rwa [List.take_append_drop]at h1
theorem qG:∀{l:List Ot} {i:Nat} (h:i<l.length),l.Pairwise Ei→xB l i=l.filter (fun x=>decide (x.id≠l[i].id))
 | [],i,h,_=>by simp at h
 | a::l,0,h,hs=>by
  rw[List.pairwise_cons]at hs
  have:l.filter (fun x=>decide (x.id≠a.id))=l:=List.filter_eq_self.2 fun y hy=>by have:=hs.1 y hy;simp;omega
  simp[xB]
  simpa using this.symm
 | a::l,i+1,h,hs=>by
  rw[List.pairwise_cons]at hs
  have hi:i<l.length:=by simpa using h
  have ih:=qG hi hs.2
  have hne:a.id≠l[i].id:=by have:=hs.1 _ (List.getElem_mem hi);omega
  simp only[xB,List.take_succ_cons,List.drop_succ_cons,List.getElem_cons_succ,List.cons_append,List.filter_cons]at ih ⊢
  rw[if_pos (by simpa using hne),←ih]
theorem tW {l:List Ot} {id:Int} (h:¬bY l id<0):∃n,∃hn:n<l.length,bY l id=n∧l[n].id=id:=by
 rcases eY (fun x:Ot=>decide (x.id=id)) l with⟨h3,_⟩|⟨n,hn,h3,h4,_⟩
 ·exact absurd (show bY l id<0 by unfold bY;omega) h
 ·exact⟨n,hn,h3,by simpa using h4⟩
theorem y4 {l:List Ot} {id:Int}:bY l id<0↔∀x∈l,x.id≠id:=by
 rcases eY (fun x:Ot=>decide (x.id=id)) l with⟨h3,h4⟩|⟨n,hn,h3,h4,_⟩
 ·exact⟨fun _ x hx=>by simpa using h4 x hx,fun _=>by unfold bY;omega⟩
 ·refine⟨fun h=>absurd h (by unfold bY;omega),fun h=>absurd (by simpa using h4) (h _ (List.getElem_mem hn))⟩
theorem Ct {l:List Ot} {id:Int}:(lR l id).2=0↔bL l=true∧∃x∈l,x.id=id:=by
 unfold lR
 cases hc:bL l with
 | false=>simp
 | true=>
  by_cases hf:bY l id<0
  ·have:=y4.1 hf
   simp only[hf,if_true]
   simp
   exact this
  ·obtain⟨n,hn,_,h2⟩:=tW hf
   simp only[hf,if_false]
   simp
   exact⟨_,List.getElem_mem hn,h2⟩
theorem Gd {l:List Ot} {id:Int} (h:(lR l id).2=0):(lR l id).1=l.filter (fun x=>decide (x.id≠id))∧(lR l id).1.length=l.length-1:=by
 obtain⟨hc,x,hx,e⟩:=Ct.1 h
 have hf:¬bY l id<0:=fun hf=>y4.1 hf x hx e
 obtain⟨n,hn,h1,h2⟩:=tW hf
 have e1:(lR l id).1=xB l n:=by simp[lR,hc,h1,show ¬(n:Int)<0 by omega]
 rw[e1]
 have:=qG hn (eJ hc)
 rw[h2]at this
 refine⟨this,?_⟩
 simp only[xB,List.length_append,List.length_take,List.length_drop]
 omega
theorem Aq {l:List Ot} {id:Int} (h:(lR l id).2=0):bL (lR l id).1=true:=by
 obtain⟨hc,_⟩:=Ct.1 h
 have hi:=Gd h
 have hl:=((fF l).1 hc).1
 refine kQ (by omega) (fun x hx=>?_) ?_
 ·rw[hi.1]at hx
  exact eK hc (List.mem_filter.1 hx).1
 ·rw[hi.1]
  exact(eJ hc).filter _
theorem JW (l:List Ot) (id:Int):(lR l id).1.Sublist l:=by
 unfold lR
 split
 ·exact List.nil_sublist _
 ·split
  ·exact List.nil_sublist _
  ·exact zB _ _
end Go.Vc

namespace Go.Vc
open Go.Proofs
set_option linter.unusedSimpArgs false
set_option linter.unusedVariables false
structure Du where
 at_:Int
 id:Int
 i:Int
 deriving DecidableEq
instance:Inhabited Du:=⟨⟨0,0,0⟩⟩
abbrev Du.pv (x:Du):PV:=.agg [pI x.at_,pU x.id,pI x.i]
abbrev ds (l:List Du):PV:=.lst (l.map Du.pv)
def oV (a b:Int):Int:=if a<b then -1 else if b<a then 1 else 0
theorem MI (n:Int):Fn Tryz.prog 116 [pU n] (.pv (pB false)) []:=by
 refine c116.r [] (by simp) ?_
 simp only[go_sem,M116]
theorem OX (a b:Int):Fn Tryz.prog 60 [pU a,pU b] (.pv (pI (oV a b))) []:=by
 refine c60.r [] (by simp) ?_
 simp only[go_sem,M60]
 refine aA (by simp only[go_sem]) (by simp only[go_sem]<;>rfl) (MI a) ⟨rfl,trivial⟩ trivial ?_
 simp only[go_sem]
 refine aA (by simp only[go_sem]) (by simp only[go_sem]<;>rfl) (MI b) ⟨rfl,trivial⟩ trivial ?_
 simp only[go_sem]
 unfold oV
 by_cases h1:a<b<;>by_cases h2:b<a<;>simp[h1,h2]<;>omega
end Go.Vc
