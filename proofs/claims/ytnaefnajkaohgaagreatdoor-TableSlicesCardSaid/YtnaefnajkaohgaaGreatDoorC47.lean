/- Part 47 of the proof of skewer.skewerlaw15.TableSlices. -/
import Derived.Test.YtnaefnajkaohgaaGreatDoorCards
import Derived.Test.YtnaefnajkaohgaaGreatDoorTie
import Derived.ProofKit
import Derived.LaidMore
import Derived.Stop.Joined
import Derived.SevenTiedAt
import Derived.Carry
import Derived.Test.YtnaefnajkaohgaaGreatDoorC33
import Derived.Test.YtnaefnajkaohgaaGreatDoorC38
import Derived.Test.YtnaefnajkaohgaaGreatDoorC46
set_option linter.all false
namespace Go.Proofs.YtnaefnajkaohgaaGreatDoor
open Go.ChangeShapes Go.WideShapes Go.ChangeAt Go.RowKit Go.AL
set_option maxRecDepth 100000
theorem own:ownKnob Tryz.prog.godebug=none:=by kernel_rfl
theorem laidOut:laidOutB Tryz.prog=true:=by kernel_rfl
theorem mixed:Tryz.prog.follows .mixedOrders=true:=by kernel_rfl
theorem door_met(os:Os)(args:Array Value):laidMetH Tryz.prog Rows.tableSlicesRow.laid ((World.doorLaid Tryz.prog 2000 os).forCall (fun _ _=>0) ⟨#[],args,[]⟩).memory:=
 laidMetH_of_parts3 (fuel:=8) (laidMet_of_run' 8 (by kernel_rfl) (by kernel_rfl)) (by kernel_rfl) (by kernel_rfl)
theorem gCond:Tryz.prog.globalNamed "skewer/play.conditions" = some 0:=by kernel_rfl
theorem tCond:(Tryz.prog.globals[0]?).map (·.type)=some 160:=by kernel_rfl
theorem cells159:Tryz.prog.cellsOf 159=1:=by kernel_rfl
theorem ck32:ckOf Tryz.prog 20 32=some ([.int .u8,.int .u8,.int .u8,.sl [.u8],.sl [.u8],.sl [.u8,.u8,.u8]]++List.replicate 24 (.int .u8) ++ [.sl [.u8]]):=by kernel_rfl
theorem ck25:ckOf Tryz.prog 20 25=some (List.replicate 6 (.int .u8)):=by kernel_rfl
set_option maxRecDepth 100000
theorem cells160:Tryz.prog.cellsOf 160=4:=by kernel_rfl
theorem nil_of_trod{H:Type}{enc:TypeId×Value→H}{P:Program}{w:World}{base:Nat}{sp:Nat→Bool}{fuel:Nat}{t:TypeId}{ps rs:Array TypeId}{va:Bool}{v:Value}{q:List MemPlace}
  (ht:P.underlying t=some (.func ps rs va)) (h:DataW.trod enc P w base sp true fuel t [v]=some (.nil,q)):v = .nilFunc:=by
 cases fuel with
 | zero=>simp[DataW.trod]at h
 | succ n=>cases v<;>simp[DataW.trod,ht]at h ⊢
theorem table{W:World}(h:laidMetH Tryz.prog Rows.tableSlicesRow.laid W):W.cell? ⟨0,0,none⟩=some .nilFunc∧W.cell? ⟨0,1,none⟩=some (.func (.func 294) #[] #[]) ∧
  W.cell? ⟨0,2,none⟩=some (.func (.func 296) #[] #[])∧W.cell? ⟨0,3,none⟩=some (.func (.func 297) #[] #[]):=by
 obtain⟨g,t,cs,fuel,p,hg,ht,hv,hd⟩:=h.funcs (n := "skewer/play.conditions") (d:=_) (by
  show _∈[_,_,_,_]
  exact List.mem_cons_of_mem _ (List.mem_cons_of_mem _ (List.mem_cons_of_mem _ (List.mem_cons_self ..))))
 obtain rfl:=Option.some.inj (gCond.symm.trans hg)
 obtain rfl:=Option.some.inj (tCond.symm.trans ht)
 have hd':DataW.trod (funcToken Tryz.prog) Tryz.prog W 0 (fun _=>true) true fuel 160 cs.toList=some (.agg [.nil,.held [115,107,101,119,101,114,47,112,108,97,121,46,99,111,110,100,105,116,105,111,110,115,36,49],.held [115,107,101,119,101,114,47,112,108,97,121,46,99,111,110,100,105,116,105,111,110,115,36,50],.held [115,107,101,119,101,114,47,112,108,97,121,46,99,111,110,100,105,116,105,111,110,115,36,51]],p):=hd
 cases fuel with
 | zero=>cases hd'
 | succ fuel=>
 unfold DataW.trod at hd'
 simp only[Tryz.underlying160]at hd'
 split at hd'
 ·rename_i hcl
  obtain⟨ys,hys,h2⟩:=Option.map_eq_some_iff.1 hd'
  simp only[Prod.mk.injEq,DataW.agg.injEq]at h2
  obtain⟨h2,_⟩:=h2
  have hl:cs.toList.length=4:=hcl.trans cells160
  have hys':List.mapM (fun i=>DataW.trod (funcToken Tryz.prog) Tryz.prog W 0 (fun _=>true) true fuel 159 ((cs.toList.drop (i*1)).take 1)) (List.range 4)=some ys:=by rw[cells159]at hys;exact hys
  obtain⟨h3,h4⟩:=mapM_at hys'
  match he:cs.toList,hl with
  | [v0,v1,v2,v3],_=>
   rw[he]at h4
   match ys,h2,h3 with
   | [y0,y1,y2,y3],h2,_=>
    obtain⟨x0,p0⟩:=y0
    obtain⟨x1,p1⟩:=y1
    obtain⟨x2,p2⟩:=y2
    obtain⟨x3,p3⟩:=y3
    simp only[List.map_cons,List.map_nil,List.cons.injEq,and_true]at h2
    obtain⟨rfl,rfl,rfl,rfl⟩:=h2
    have e0:=nil_of_trod Tryz.underlying159 (h4 0 0 rfl)
    have e1:=func_of_trod (f0:=294) Tryz.underlying159 (by kernel_rfl) (h4 1 1 rfl)
    have e2:=func_of_trod (f0:=296) Tryz.underlying159 (by kernel_rfl) (h4 2 2 rfl)
    have e3:=func_of_trod (f0:=297) Tryz.underlying159 (by kernel_rfl) (h4 3 3 rfl)
    have hc:∀ i,W.cell? ⟨0,i,none⟩=cs[i]? := fun i=>World.var?_cell hg hv i
    have hc':∀ i,W.cell? ⟨0,i,none⟩ = [v0,v1,v2,v3][i]? := fun i=>by rw[hc,← he,Array.getElem?_toList]
    subst e0;subst e1;subst e2;subst e3
    exact⟨hc' 0,hc' 1,hc' 2,hc' 3⟩
 ·cases hd'
def V(b:Program→FuncId→Func→ChangeSpec→OpenClaim→Bool):Prop:=b Tryz.checked.prog 5 Tryz.f5 Rows.tableSlicesSpec Rows.tableSlicesRow=true
theorem vk{b:Program→FuncId→Func→ChangeSpec→OpenClaim→Bool}(h:b Tryz.checked.prog 5 Tryz.f5 Rows.tableSlicesSpec Rows.tableSlicesRow=true):V b:=h
end Go.Proofs.YtnaefnajkaohgaaGreatDoor
