/- Part 45 of the proof of skewer.skewerlaw15.TableZero. -/
import Derived.Test.YtnaefnajkaohgaaGreatDoorCards
import Derived.Test.YtnaefnajkaohgaaGreatDoorTie
import Derived.ProofKit
import Derived.LaidMore
import Derived.Stop.Joined
import Derived.SevenTiedAt
import Derived.Carry
import Derived.Test.YtnaefnajkaohgaaGreatDoorF34
import Derived.Test.YtnaefnajkaohgaaGreatDoorF39
import Derived.Test.YtnaefnajkaohgaaGreatDoorF44
set_option linter.all false
namespace Go.Proofs.YtnaefnajkaohgaaGreatDoor
open Go.ChangeShapes Go.WideShapes Go.ChangeAt Go.RowKit Go.AL
set_option maxRecDepth 100000
theorem own:ownKnob Tryz.prog.godebug=none:=by kernel_rfl
theorem laidOut:laidOutB Tryz.prog=true:=by kernel_rfl
theorem mixed:Tryz.prog.follows .mixedOrders=true:=by kernel_rfl
theorem Pf(os:Os)(args:Array Value):laidMetH Tryz.prog Rows.tableZeroRow.laid ((World.doorLaid Tryz.prog 2000 os).forCall (fun _ _=>0) ⟨#[],args,[]⟩).memory:=
 laidMetH_of_parts3 (fuel:=8) (laidMet_of_run' 8 (by kernel_rfl) (by kernel_rfl)) (by kernel_rfl) (by kernel_rfl)
theorem Qd:Tryz.prog.globalNamed "skewer/play.conditions" = some 0:=by kernel_rfl
theorem Z2:(Tryz.prog.globals[0]?).map (·.type)=some 160:=by kernel_rfl
theorem OA:Tryz.prog.cellsOf 159=1:=by kernel_rfl
theorem OF:rW Tryz.prog 20 32=some ([.int .u8,.int .u8,.int .u8,.sl [.u8],.sl [.u8],.sl [.u8,.u8,.u8]]++List.replicate 24 (.int .u8) ++ [.sl [.u8]]):=by kernel_rfl
theorem OE:rW Tryz.prog 20 25=some (List.replicate 6 (.int .u8)):=by kernel_rfl
set_option maxRecDepth 100000
theorem OB:Tryz.prog.cellsOf 160=4:=by kernel_rfl
theorem TZ{H:Type}{enc:TypeId×Value→H}{P:Program}{w:World}{base:Nat}{sp:Nat→Bool}{fuel:Nat}{t:TypeId}{ps rs:Array TypeId}{va:Bool}{v:Value}{q:List MemPlace}
  (ht:P.underlying t=some (.func ps rs va)) (h:DataW.trod enc P w base sp true fuel t [v]=some (.nil,q)):v = .nilFunc:=by
 cases fuel with
 | zero=>simp[DataW.trod]at h
 | succ n=>cases v<;>simp[DataW.trod,ht]at h ⊢
theorem table{W:World}(h:laidMetH Tryz.prog Rows.tableZeroRow.laid W):W.cell? ⟨0,0,none⟩=some .nilFunc∧W.cell? ⟨0,1,none⟩=some (.func (.func 294) #[] #[]) ∧
  W.cell? ⟨0,2,none⟩=some (.func (.func 296) #[] #[])∧W.cell? ⟨0,3,none⟩=some (.func (.func 297) #[] #[]):=by
 obtain⟨g,t,cs,fuel,p,hg,ht,hv,hd⟩:=h.funcs (n := "skewer/play.conditions") (d:=_) (by
  show _∈[_,_,_,_]
  exact aO _ (aO _ (aO _ (cL ..))))
 obtain rfl:=cJ (Qd.symm.trans hg)
 obtain rfl:=cJ (Z2.symm.trans ht)
 have lr:DataW.trod (funcToken Tryz.prog) Tryz.prog W 0 (fun _=>true) true fuel 160 cs.toList=some (.agg [.nil,.held [115,107,101,119,101,114,47,112,108,97,121,46,99,111,110,100,105,116,105,111,110,115,36,49],.held [115,107,101,119,101,114,47,112,108,97,121,46,99,111,110,100,105,116,105,111,110,115,36,50],.held [115,107,101,119,101,114,47,112,108,97,121,46,99,111,110,100,105,116,105,111,110,115,36,51]],p):=hd
 cases fuel with
 | zero=>cases lr
 | succ fuel=>
 unfold DataW.trod at lr
 simp only[Tryz.underlying160]at lr
 split at lr
 ·rename_i ff
  obtain⟨ys,mJ,h2⟩:=ai.1 lr
  simp only[dx,DataW.agg.injEq]at h2
  obtain⟨h2,_⟩:=h2
  have hl:cs.toList.length=4:=ff.trans OB
  have Sw:List.mapM (fun i=>DataW.trod (funcToken Tryz.prog) Tryz.prog W 0 (fun _=>true) true fuel 159 ((cs.toList.drop (i*1)).take 1)) (List.range 4)=some ys:=by rw[OA]at mJ;exact mJ
  obtain⟨h3,h4⟩:=Hl Sw
  match he:cs.toList,hl with
  | [v0,v1,v2,v3],_=>
   rw[he]at h4
   match ys,h2,h3 with
   | [y0,y1,y2,y3],h2,_=>
    obtain⟨x0,p0⟩:=y0
    obtain⟨x1,p1⟩:=y1
    obtain⟨x2,p2⟩:=y2
    obtain⟨x3,p3⟩:=y3
    simp only[List.map_cons,List.map_nil,cz,and_true]at h2
    obtain⟨rfl,rfl,rfl,rfl⟩:=h2
    have e0:=TZ Tryz.underlying159 (h4 0 0 rfl)
    have e1:=func_of_trod (f0:=294) Tryz.underlying159 (by kernel_rfl) (h4 1 1 rfl)
    have e2:=func_of_trod (f0:=296) Tryz.underlying159 (by kernel_rfl) (h4 2 2 rfl)
    have e3:=func_of_trod (f0:=297) Tryz.underlying159 (by kernel_rfl) (h4 3 3 rfl)
    have hc:∀ i,W.cell? ⟨0,i,none⟩=cs[i]? := fun i=>World.var?_cell hg hv i
    have mE:∀ i,W.cell? ⟨0,i,none⟩ = [v0,v1,v2,v3][i]? := fun i=>by rw[hc,← he,bq]
    subst e0;subst e1;subst e2;subst e3
    exact⟨mE 0,mE 1,mE 2,mE 3⟩
 ·cases lr
def V(b:Program→FuncId→Func→ChangeSpec→OpenClaim→Bool):Prop:=b Tryz.checked.prog 6 Tryz.f6 Rows.tableZeroSpec Rows.tableZeroRow=true
theorem vk{b:Program→FuncId→Func→ChangeSpec→OpenClaim→Bool}(h:b Tryz.checked.prog 6 Tryz.f6 Rows.tableZeroSpec Rows.tableZeroRow=true):V b:=h
