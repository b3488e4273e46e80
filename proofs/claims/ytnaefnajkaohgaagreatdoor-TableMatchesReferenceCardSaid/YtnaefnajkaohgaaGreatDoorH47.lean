/- 47 -/
import Derived.Test.YtnaefnajkaohgaaGreatDoorCards
import Derived.Test.YtnaefnajkaohgaaGreatDoorTie
import Derived.ProofKit
import Derived.LaidMore
import Derived.Stop.Joined
import Derived.SevenTiedAt
import Derived.Carry
import Derived.Test.YtnaefnajkaohgaaGreatDoorH31
import Derived.Test.YtnaefnajkaohgaaGreatDoorH36
import Derived.Test.YtnaefnajkaohgaaGreatDoorH46
set_option linter.all false
namespace Go.Proofs.YtnaefnajkaohgaaGreatDoor
open Go.ChangeShapes Go.WideShapes Go.ChangeAt Go.RowKit Go.AL
set_option maxRecDepth 100000
def own:ownKnob Tryz.prog.godebug=none:=by kernel_rfl
def laidOut:laidOutB Tryz.prog=true:=by kernel_rfl
def mixed:Tryz.prog.follows .mixedOrders=true:=by kernel_rfl
def U0(os:Os)(args:Array Value):laidMetH Tryz.prog Rows.tableMatchesReferenceRow.laid ((World.doorLaid Tryz.prog 2000 os).forCall (fun _ _=>0) ⟨#[],args,[]⟩).memory:=
 laidMetH_of_parts3 (fuel:=8) (laidMet_of_run' 8 (by kernel_rfl) (by kernel_rfl)) (by kernel_rfl) (by kernel_rfl)
def Wm:Tryz.prog.globalNamed "skewer/play.conditions" = some 0:=by kernel_rfl
def agG:(Tryz.prog.globals[0]?).map (·.type)=some 160:=by kernel_rfl
def Uh:Tryz.prog.cellsOf 159=1:=by kernel_rfl
def Um:uw Tryz.prog 20 32=some ([.int .u8,.int .u8,.int .u8,.sl [.u8],.sl [.u8],.sl [.u8,.u8,.u8]]++List.replicate 24 (.int .u8) ++ [.sl [.u8]]):=by kernel_rfl
def Ul:uw Tryz.prog 20 25=some (List.replicate 6 (.int .u8)):=by kernel_rfl
def Un:uw Tryz.prog 20 33=some [.sl [.i64]]:=by kernel_rfl
def Ui:Tryz.prog.cellsOf 160=4:=by kernel_rfl
def aaJ{H:Type}{enc:TypeId×Value→H}{P:Program}{w:World}{base:Nat}{sp:Nat→Bool}{fuel:Nat}{t:TypeId}{ps rs:Array TypeId}{va:Bool}{v:Value}{q:List MemPlace}
  (ht:P.underlying t=some (.func ps rs va)) (h:DataW.trod enc P w base sp true fuel t [v]=some (.nil,q)):v = .nilFunc:=by
 cases fuel with
 | zero=>simp[DataW.trod]at h
 | succ n=>cases v<;>simp[DataW.trod,ht]at h ⊢
def table{W:World}(h:laidMetH Tryz.prog Rows.tableMatchesReferenceRow.laid W):W.cell? ⟨0,0,none⟩=some .nilFunc∧W.cell? ⟨0,1,none⟩=some (.func (.func 294) #[] #[]) ∧
  W.cell? ⟨0,2,none⟩=some (.func (.func 296) #[] #[])∧W.cell? ⟨0,3,none⟩=some (.func (.func 297) #[] #[]):=by
 obtain⟨g,t,cs,fuel,p,hg,ht,hv,hd⟩:=h.funcs (n := "skewer/play.conditions") (d:=_) (by
  show _∈[_,_,_,_]
  exact aS _ (aS _ (aS _ (b7 ..))))
 obtain rfl:=c8 (Wm.symm.trans hg)
 obtain rfl:=c8 (agG.symm.trans ht)
 have nO:DataW.trod (funcToken Tryz.prog) Tryz.prog W 0 (fun _=>true) true fuel 160 cs.toList=some (.agg [.nil,.held [115,107,101,119,101,114,47,112,108,97,121,46,99,111,110,100,105,116,105,111,110,115,36,49],.held [115,107,101,119,101,114,47,112,108,97,121,46,99,111,110,100,105,116,105,111,110,115,36,50],.held [115,107,101,119,101,114,47,112,108,97,121,46,99,111,110,100,105,116,105,111,110,115,36,51]],p):=hd
 cases fuel with
 | zero=>cases nO
 | succ fuel=>
 unfold DataW.trod at nO
 simp only[Tryz.underlying160]at nO
 split at nO
 ·rename_i fM
  obtain⟨ys,pF,h2⟩:=ai.1 nO
  simp only[dL,DataW.agg.injEq]at h2
  obtain⟨h2,_⟩:=h2
  have hl:cs.toList.length=4:=fM.trans Ui
  have Zb:List.mapM (fun i=>DataW.trod (funcToken Tryz.prog) Tryz.prog W 0 (fun _=>true) true fuel 159 ((cs.toList.drop (i*1)).take 1)) (List.range 4)=some ys:=by rw[Uh]at pF;exact pF
  obtain⟨h3,h4⟩:=Mf Zb
  match he:cs.toList,hl with
  | [v0,v1,v2,v3],_=>
   rw[he]at h4
   match ys,h2,h3 with
   | [y0,y1,y2,y3],h2,_=>
    obtain⟨x0,p0⟩:=y0
    obtain⟨x1,p1⟩:=y1
    obtain⟨x2,p2⟩:=y2
    obtain⟨x3,p3⟩:=y3
    simp only[List.map_cons,List.map_nil,cD,and_true]at h2
    obtain⟨rfl,rfl,rfl,rfl⟩:=h2
    have e0:=aaJ Tryz.underlying159 (h4 0 0 rfl)
    have e1:=func_of_trod (f0:=294) Tryz.underlying159 (by kernel_rfl) (h4 1 1 rfl)
    have e2:=func_of_trod (f0:=296) Tryz.underlying159 (by kernel_rfl) (h4 2 2 rfl)
    have e3:=func_of_trod (f0:=297) Tryz.underlying159 (by kernel_rfl) (h4 3 3 rfl)
    have hc:∀ i,W.cell? ⟨0,i,none⟩=cs[i]? := fun i=>World.var?_cell hg hv i
    have pA:∀ i,W.cell? ⟨0,i,none⟩ = [v0,v1,v2,v3][i]? := fun i=>by rw[hc,← he,bB]
    subst e0;subst e1;subst e2;subst e3
    exact⟨pA 0,pA 1,pA 2,pA 3⟩
 ·cases nO
def V(b:Program→FuncId→Func→ChangeSpec→OpenClaim→Bool):Prop:=b Tryz.checked.prog 3 Tryz.f3 Rows.tableMatchesReferenceSpec Rows.tableMatchesReferenceRow=true
def vk{b:Program→FuncId→Func→ChangeSpec→OpenClaim→Bool}(h:b Tryz.checked.prog 3 Tryz.f3 Rows.tableMatchesReferenceSpec Rows.tableMatchesReferenceRow=true):V b:=h
