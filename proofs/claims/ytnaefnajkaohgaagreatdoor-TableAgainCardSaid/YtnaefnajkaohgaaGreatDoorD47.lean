/- Part 47 of the proof of skewer.skewerlaw15.TableAgain. -/
import Derived.Test.YtnaefnajkaohgaaGreatDoorCards
import Derived.Test.YtnaefnajkaohgaaGreatDoorTie
import Derived.ProofKit
import Derived.LaidMore
import Derived.Stop.Joined
import Derived.SevenTiedAt
import Derived.Carry
import Derived.Test.YtnaefnajkaohgaaGreatDoorD32
import Derived.Test.YtnaefnajkaohgaaGreatDoorD37
import Derived.Test.YtnaefnajkaohgaaGreatDoorD46
set_option linter.all false
namespace Go.Proofs.YtnaefnajkaohgaaGreatDoor
open Go.ChangeShapes Go.WideShapes Go.ChangeAt Go.RowKit Go.AL
set_option maxRecDepth 100000
theorem own:ownKnob Tryz.prog.godebug=none:=by kernel_rfl
theorem laidOut:laidOutB Tryz.prog=true:=by kernel_rfl
theorem mixed:Tryz.prog.follows .mixedOrders=true:=by kernel_rfl
theorem R7(os:Os)(args:Array Value):laidMetH Tryz.prog Rows.tableAgainRow.laid ((World.doorLaid Tryz.prog 2000 os).forCall (fun _ _=>0) ⟨#[],args,[]⟩).memory:=
 laidMetH_of_parts3 (fuel:=8) (laidMet_of_run' 8 (by kernel_rfl) (by kernel_rfl)) (by kernel_rfl) (by kernel_rfl)
theorem Ta:Tryz.prog.globalNamed "skewer/play.conditions" = some 0:=by kernel_rfl
theorem acX:(Tryz.prog.globals[0]?).map (·.type)=some 160:=by kernel_rfl
theorem Rp:Tryz.prog.cellsOf 159=1:=by kernel_rfl
theorem Rs:tj Tryz.prog 20 32=some ([.int .u8,.int .u8,.int .u8,.sl [.u8],.sl [.u8],.sl [.u8,.u8,.u8]]++List.replicate 24 (.int .u8) ++ [.sl [.u8]]):=by kernel_rfl
theorem Rr:tj Tryz.prog 20 25=some (List.replicate 6 (.int .u8)):=by kernel_rfl
set_option maxRecDepth 100000
theorem Rq:Tryz.prog.cellsOf 160=4:=by kernel_rfl
theorem W7{H:Type}{enc:TypeId×Value→H}{P:Program}{w:World}{base:Nat}{sp:Nat→Bool}{fuel:Nat}{t:TypeId}{ps rs:Array TypeId}{va:Bool}{v:Value}{q:List MemPlace}
  (ht:P.underlying t=some (.func ps rs va)) (h:DataW.trod enc P w base sp true fuel t [v]=some (.nil,q)):v = .nilFunc:=by
 cases fuel with
 | zero=>simp[DataW.trod]at h
 | succ n=>cases v<;>simp[DataW.trod,ht]at h ⊢
theorem table{W:World}(h:laidMetH Tryz.prog Rows.tableAgainRow.laid W):W.cell? ⟨0,0,none⟩=some .nilFunc∧W.cell? ⟨0,1,none⟩=some (.func (.func 294) #[] #[]) ∧
  W.cell? ⟨0,2,none⟩=some (.func (.func 296) #[] #[])∧W.cell? ⟨0,3,none⟩=some (.func (.func 297) #[] #[]):=by
 obtain⟨g,t,cs,fuel,p,hg,ht,hv,hd⟩:=h.funcs (n := "skewer/play.conditions") (d:=_) (by
  show _∈[_,_,_,_]
  exact aU _ (aU _ (aU _ (cu ..))))
 obtain rfl:=cJ (Ta.symm.trans hg)
 obtain rfl:=cJ (acX.symm.trans ht)
 have l6:DataW.trod (funcToken Tryz.prog) Tryz.prog W 0 (fun _=>true) true fuel 160 cs.toList=some (.agg [.nil,.held [115,107,101,119,101,114,47,112,108,97,121,46,99,111,110,100,105,116,105,111,110,115,36,49],.held [115,107,101,119,101,114,47,112,108,97,121,46,99,111,110,100,105,116,105,111,110,115,36,50],.held [115,107,101,119,101,114,47,112,108,97,121,46,99,111,110,100,105,116,105,111,110,115,36,51]],p):=hd
 cases fuel with
 | zero=>cases l6
 | succ fuel=>
 unfold DataW.trod at l6
 simp only[Tryz.underlying160]at l6
 split at l6
 ·rename_i fE
  obtain⟨ys,nP,h2⟩:=ai.1 l6
  simp only[dR,DataW.agg.injEq]at h2
  obtain⟨h2,_⟩:=h2
  have hl:cs.toList.length=4:=fE.trans Rq
  have Vq:List.mapM (fun i=>DataW.trod (funcToken Tryz.prog) Tryz.prog W 0 (fun _=>true) true fuel 159 ((cs.toList.drop (i*1)).take 1)) (List.range 4)=some ys:=by rw[Rp]at nP;exact nP
  obtain⟨h3,h4⟩:=Jz Vq
  match he:cs.toList,hl with
  | [v0,v1,v2,v3],_=>
   rw[he]at h4
   match ys,h2,h3 with
   | [y0,y1,y2,y3],h2,_=>
    obtain⟨x0,p0⟩:=y0
    obtain⟨x1,p1⟩:=y1
    obtain⟨x2,p2⟩:=y2
    obtain⟨x3,p3⟩:=y3
    simp only[List.map_cons,List.map_nil,cm,and_true]at h2
    obtain⟨rfl,rfl,rfl,rfl⟩:=h2
    have e0:=W7 Tryz.underlying159 (h4 0 0 rfl)
    have e1:=func_of_trod (f0:=294) Tryz.underlying159 (by kernel_rfl) (h4 1 1 rfl)
    have e2:=func_of_trod (f0:=296) Tryz.underlying159 (by kernel_rfl) (h4 2 2 rfl)
    have e3:=func_of_trod (f0:=297) Tryz.underlying159 (by kernel_rfl) (h4 3 3 rfl)
    have hc:∀ i,W.cell? ⟨0,i,none⟩=cs[i]? := fun i=>World.var?_cell hg hv i
    have l4:∀ i,W.cell? ⟨0,i,none⟩ = [v0,v1,v2,v3][i]? := fun i=>by rw[hc,← he,bB]
    subst e0;subst e1;subst e2;subst e3
    exact⟨l4 0,l4 1,l4 2,l4 3⟩
 ·cases l6
def V(b:Program→FuncId→Func→ChangeSpec→OpenClaim→Bool):Prop:=b Tryz.checked.prog 9 Tryz.f9 Rows.tableAgainSpec Rows.tableAgainRow=true
theorem vk{b:Program→FuncId→Func→ChangeSpec→OpenClaim→Bool}(h:b Tryz.checked.prog 9 Tryz.f9 Rows.tableAgainSpec Rows.tableAgainRow=true):V b:=h
