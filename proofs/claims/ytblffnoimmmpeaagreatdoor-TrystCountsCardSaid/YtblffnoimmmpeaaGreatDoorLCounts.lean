/- A part of the proofs of the seat YtblffnoimmmpeaaGreatDoor: the contracts of functions, each proved out of its code. -/
import Derived.Test.YtblffnoimmmpeaaGreatDoorWc
import Derived.Test.YtblffnoimmmpeaaGreatDoorCards
import Derived.Test.YtblffnoimmmpeaaGreatDoorTie
import Derived.SevenTiedAt
namespace Go.Proofs.YtblffnoimmmpeaaGreatDoor
open Go.Vc
set_option maxRecDepth 100000
theorem sW (os:Os) (started:os.Started) (H:Type) (enc:TypeId×Value→H):
  ReturnsInHanded {} Tryz.checked os 3 .any (fun w args=>(Rows.trystCountsSpec.pre enc Tryz.prog Tryz.f3 Rows.trystCountsRow.domain false w args∧laidMetH Tryz.prog Rows.trystCountsRow.laid w)∧sizedMet enc Tryz.prog Tryz.f3 (OpenSpec.ofChange Rows.trystCountsSpec) false w args) (Rows.trystCountsSpec.post enc Tryz.prog Tryz.f3 false true false false):=by
 refine Jm (C:=Tryz.checked) (tb:=4) (shs:=[(false,[.lst true OI])]) (X:=laidMetH Tryz.prog Rows.trystCountsRow.laid) (fun _ _ hh h=>h.of_heap hh) (fun w h=>IO w h) Lc started (by kernel_rfl) Tryz.func3
  (ChangeSpec.witness_at (enc:=enc) (C:=Tryz.checked) (os:=os) (X:=fun w _=>laidMetH Tryz.prog Rows.trystCountsRow.laid w) false (vD os) #[.slice none 0 0] 8 rfl (by kernel_rfl) (by kernel_rfl) (by kernel_rfl) (by kernel_rfl) (by kernel_rfl) (Jq os _))
  rfl (by kernel_rfl) Tryz.underlying4 D3 (by kernel_rfl) (by kernel_rfl) ?_ ?_
 ·intro ds hl
  rw[show Tryz.f3.params.toList.length=1 from rfl]at hl
  match ds,hl with
  | [_],_=>rfl
 ·intro qs h
  obtain⟨p,rfl,h1⟩:=QQ h
  obtain⟨l,rfl,hl⟩:=NL h1
  exact Rh l hl
theorem vR:Rows.trystCountsRow.holds Tryz.pinned (OpenSpec.ofChange Rows.trystCountsSpec):=
 OpenClaim.holds_of_wide 3 Tryz.f3 rfl rfl rfl rfl rfl rfl rfl ⟨rfl,rfl,rfl,rfl,rfl⟩ rfl rfl rfl rfl rfl (by kernel_rfl) Tryz.func3 (by kernel_rfl)
  (of_decide_eq_true (by kernel_rfl)) (by unfold Func.isWrapper;first|(rw[if_pos (by decide +kernel)];kernel_rfl)|(rw[if_neg (by decide +kernel)];exact⟨rfl,rfl⟩))
  (fun os started H enc _=>sW os started H enc)
theorem trystCounts_proved:Rows.TrystCountsCardSaid:=
 Claim7.holds_tied_plain_at .later [] [.data,.data,.data,.data,.pinned] true (true,"4c8196e1827328e41aa06e9ea996471de02811159e62c980f15e62ebeed322cd") false
  vR (fun _ h=>by cases h) (by kernel_rfl) (fun _ h=>by cases h) trystCounts_row_tie rfl ⟨rfl,rfl⟩ (by kernel_rfl) rfl
  (fun f fn hf hfn=>by
   obtain rfl:f=3:=Option.some.inj ((show Tryz.prog.funcNamed Rows.trystCountsRow.func=some 3 by kernel_rfl).symm.trans hf) |>.symm
   obtain rfl:fn=Tryz.f3:=(Option.some.inj (Tryz.func3.symm.trans hfn)).symm
   refine⟨by kernel_rfl,fun j t ht=>?_⟩
   have hall:Tryz.f3.params.toList.all (fun t => !Tryz.prog.wantsStandIn t)=true:=by kernel_rfl
   have:=List.all_eq_true.1 hall t (by
    have:=Array.mem_of_getElem? ht
    simpa using this)
   have h2:Tryz.prog.wantsStandIn t=false:=by simpa using this
   exact h2)
  (by kernel_rfl)
#print axioms trystCounts_proved
end Go.Proofs.YtblffnoimmmpeaaGreatDoor
