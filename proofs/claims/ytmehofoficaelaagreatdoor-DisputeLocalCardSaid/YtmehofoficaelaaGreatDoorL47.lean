/- Part 47 of DisputeLocal. -/
import Derived.Test.YtmehofoficaelaaGreatDoorCards
import Derived.Test.YtmehofoficaelaaGreatDoorTie
import Derived.ProofKit
import Derived.LaidMore
import Derived.LaidSub
import Derived.OpenShut
import Derived.Stop.Joined
import Derived.SevenTiedAt
import Derived.Carry
import Derived.Test.YtmehofoficaelaaGreatDoorL32
import Derived.Test.YtmehofoficaelaaGreatDoorL37
import Derived.Test.YtmehofoficaelaaGreatDoorL46
set_option linter.all false
namespace Go.Proofs.YtmehofoficaelaaGreatDoor
open Go.ChangeShapes Go.WideShapes Go.ChangeAt Go.RowKit Go.AL
set_option maxRecDepth 100000
def own:ownKnob Tryz.prog.godebug=none:=by kernel_rfl
def laidOut:laidOutB Tryz.prog=true:=by kernel_rfl
def mixed:Tryz.prog.follows .mixedOrders=true:=by kernel_rfl
def Vr(os:Os)(args:Array Value):laidMetH Tryz.prog Rows.disputeLocalRow.laid ((World.doorLaid Tryz.prog 2000 os).forCall (fun _ _=>0) ⟨#[],args,[]⟩).memory:=
 laidMetH_of_parts3 (fuel:=8) (laidMet_of_run' 8 (by kernel_rfl) (by kernel_rfl)) (by kernel_rfl) (by kernel_rfl)
def WR:Tryz.prog.globalNamed "skewer/play.conditions" = some 0:=by kernel_rfl
def agB:(Tryz.prog.globals[0]?).map (·.type)=some 293:=by kernel_rfl
def UD:Tryz.prog.cellsOf 292=1:=by kernel_rfl
def UF:Tryz.prog.cellsOf 311=1:=by kernel_rfl
def UH:vo Tryz.prog 20 32=some ([.int .u8,.int .u8,.int .u8,.sl [.u8],.sl [.u8],.sl [.u8,.u8,.u8]]++List.replicate 24 (.int .u8) ++ [.sl [.u8]]):=by kernel_rfl
def UI:vo Tryz.prog 20 75=some (List.replicate 3 (.int .u8)):=by kernel_rfl
def agE{ds:List D}(h:F2 tJ (List.replicate 3 (.int .u8)) ds):∃ a0 a1 a2:Int,ds = [.val (.int .u8 a0),.val (.int .u8 a1),.val (.int .u8 a2)]∧∀ n∈[a0,a1,a2],0≤n∧n<256:=by
 obtain⟨l,r,hl,hb,rfl,g⟩:=M9 (n:=3) (ks:=[]) (by rw[aA];exact h)
 obtain rfl:=g.done
 match l,hl,hb with
 | [a0,a1,a2],_,hb=>exact⟨a0,a1,a2,by simp,hb⟩
def UE:Tryz.prog.cellsOf 293=4:=by kernel_rfl
def aao{H:Type}{enc:TypeId×Value→H}{P:Program}{w:World}{base:Nat}{sp:Nat→Bool}{fuel:Nat}{t:TypeId}{ps rs:Array TypeId}{va:Bool}{v:Value}{q:List MemPlace}
  (ht:P.underlying t=some (.func ps rs va)) (h:DataW.trod enc P w base sp true fuel t [v]=some (.nil,q)):v = .nilFunc:=by
 cases fuel with
 | zero=>simp[DataW.trod]at h
 | succ n=>cases v<;>simp[DataW.trod,ht]at h ⊢
def table{W:World}(h:laidMetH Tryz.prog Rows.disputeLocalRow.laid W):W.cell? ⟨0,0,none⟩=some .nilFunc∧W.cell? ⟨0,1,none⟩=some (.func (.func 364) #[] #[]) ∧
  W.cell? ⟨0,2,none⟩=some (.func (.func 366) #[] #[])∧W.cell? ⟨0,3,none⟩=some (.func (.func 367) #[] #[]):=by
 obtain⟨g,t,cs,fuel,p,hg,ht,hv,hd⟩:=h.funcs (n := "skewer/play.conditions") (d:=_) (aM (i:=5) rfl)
 obtain rfl:=cA (WR.symm.trans hg)
 obtain rfl:=cA (agB.symm.trans ht)
 have nR:DataW.trod (funcToken Tryz.prog) Tryz.prog W 0 (fun _=>true) true fuel 293 cs.toList=some (.agg [.nil,.held [115,107,101,119,101,114,47,112,108,97,121,46,99,111,110,100,105,116,105,111,110,115,36,49],.held [115,107,101,119,101,114,47,112,108,97,121,46,99,111,110,100,105,116,105,111,110,115,36,50],.held [115,107,101,119,101,114,47,112,108,97,121,46,99,111,110,100,105,116,105,111,110,115,36,51]],p):=hd
 cases fuel with
 | zero=>cases nR
 | succ fuel=>
 unfold DataW.trod at nR
 simp only[Tryz.underlying293]at nR
 split at nR
 ·rename_i gj
  obtain⟨ys,po,h2⟩:=aj.1 nR
  simp only[c8,DataW.agg.injEq]at h2
  obtain⟨h2,_⟩:=h2
  have hl:cs.toList.length=4:=gj.trans UE
  have YU:List.mapM (fun i=>DataW.trod (funcToken Tryz.prog) Tryz.prog W 0 (fun _=>true) true fuel 292 ((cs.toList.drop (i*1)).take 1)) (List.range 4)=some ys:=by rw[UD]at po;exact po
  obtain⟨h3,h4⟩:=L9 YU
  match he:cs.toList,hl with
  | [v0,v1,v2,v3],_=>
   rw[he]at h4
   match ys,h2,h3 with
   | [y0,y1,y2,y3],h2,_=>
    obtain⟨x0,p0⟩:=y0
    obtain⟨x1,p1⟩:=y1
    obtain⟨x2,p2⟩:=y2
    obtain⟨x3,p3⟩:=y3
    simp only[List.map_cons,List.map_nil,cQ,and_true]at h2
    obtain⟨rfl,rfl,rfl,rfl⟩:=h2
    have e0:=aao Tryz.underlying292 (h4 0 0 rfl)
    have e1:=func_of_trod (f0:=364) Tryz.underlying292 (by kernel_rfl) (h4 1 1 rfl)
    have e2:=func_of_trod (f0:=366) Tryz.underlying292 (by kernel_rfl) (h4 2 2 rfl)
    have e3:=func_of_trod (f0:=367) Tryz.underlying292 (by kernel_rfl) (h4 3 3 rfl)
    have hc:∀ i,W.cell? ⟨0,i,none⟩=cs[i]? := fun i=>World.var?_cell hg hv i
    have pf:∀ i,W.cell? ⟨0,i,none⟩ = [v0,v1,v2,v3][i]? := fun i=>by rw[hc,← he,bn]
    subst e0;subst e1;subst e2;subst e3
    exact⟨pf 0,pf 1,pf 2,pf 3⟩
 ·cases nR
def ZG{P:Program}{W:World}{l:List (String×DataW Unit)}{n:String}{d:DataW Unit}(h:laidMetH P l W) (hx:(l.filter fun x=>x.1==n)=[(n,d)]) (hn:([(n,d)].all fun x=>x.2.handleName?.isNone)=true) :
  ∃ g t cs fuel p,P.globalNamed n=some g∧(P.globals[g]?).map (·.type)=some t∧W.var? P n=some cs∧DataW.trod (fun _=>()) P W 0 (fun _=>true) false fuel t cs.toList=some (d,p):=by
 have h:=h.filter fun x=>x.1==n
 rw[hx,MakeChecks.laidMetH_plain _ _ _ hn]at h
 obtain⟨ps,⟨g,t,cs,fuel,p,q,hg,ht,hv,hd,_,_⟩,_,_⟩:=h
 exact⟨g,t,cs,fuel,p,hg,ht,hv,hd⟩
def Y8{H:Type}{enc:TypeId×Value→H}{P:Program}{w:World}{base:Nat}{sp:Nat→Bool}{held:Bool}{fuel:Nat}{t e:TypeId}{n:Nat}{k:IntKind}{zs:List Int}{cs:List Value}{p:List MemPlace}
  (ht:P.underlying t=some (.array n e)) (he:P.underlying e=some (.int k)) (hc:P.cellsOf e=1) (Qo:P.cellsOf t=n) (hz:zs.length=n)
  (h:DataW.trod enc P w base sp held fuel t cs=some (.agg (zs.map fun z=>.lit (.int k z)),p)):cs=zs.map fun z=>Value.int k z:=by
 obtain⟨xs,m,_,ex,h1,h2,h3⟩:=DataW.trod_array ht h
 have e3:(xs.map (·.1))=zs.map fun z=>.lit (.int k z):=(DataW.agg.inj (Prod.mk.inj ex).1).symm
 refine ct (by rw[List.length_map];omega) fun i hi jP=>?_
 have hE:=h3 i (by omega)
 rw[hc,cI,List.getElem?_eq_getElem (by omega)]at hE
 obtain⟨z,e1,e2,_⟩:=DataW.trod_int he hE
 have e4:(xs.map (·.1))[i]? = (zs.map fun z=>(DataW.lit (.int k z):DataW H))[i]? := by rw[e3]
 rw[aq,aq,List.getElem?_eq_getElem (by omega:i<xs.length),List.getElem?_eq_getElem (by omega:i<zs.length),e2]at e4
 simp only[aH,ak,DataW.lit.injEq,Lit.int.injEq,true_and]at e4
 have h0:((cs.drop i).take 1)[0]? = some (.int k z):=by rw[e1];rfl
 have h5:cs[i]? = some (.int k z):=by simpa using h0
 rw[List.getElem?_eq_getElem hi,ak]at h5
 rw[h5,e4,List.getElem_map]
def AF(l:List D):List Int:=l.map fun | .val (.int _ n)=>n | _=>0
def Sc{W:World}(h:laidMetH Tryz.prog Rows.disputeLocalRow.laid W){n:String}{b:Nat}{t:TypeId}{m:Nat}{l:List D}
  (hx:(Rows.disputeLocalRow.laid.filter fun x=>x.1==n)=[(n,.agg ((AF l).map fun z=>.lit (.int .u32 z)))]) (hn:([(n,(.agg ((AF l).map fun z=>.lit (.int .u32 z)):DataW Unit))].all fun x=>x.2.handleName?.isNone)=true)
  (hg:Tryz.prog.globalNamed n=some b) (ht:(Tryz.prog.globals[b]?).map (·.type)=some t) (hu:Tryz.prog.underlying t=some (.array m 311)) (Qo:Tryz.prog.cellsOf t=m) (hz:(AF l).length=m) :
  ∀ i,W.cell? ⟨b,i,none⟩ = ((AF l).map fun z=>Value.int .u32 z)[i]? := by
 obtain⟨g,u,cs,fuel,p,ui,YE,hv,hd⟩:=ZG h hx hn
 obtain rfl:=cA (hg.symm.trans ui)
 obtain rfl:=cA (ht.symm.trans YE)
 have e:=Y8 hu Tryz.underlying311 UF Qo hz hd
 intro i
 rw[World.var?_cell hg hv i,← e,bn]
def SQ{c:Ctx}{W:World}{b:Nat}{zs:List Int}(hF:c.F b) (hc:∀ i,W.cell? ⟨b,i,none⟩ = (zs.map fun z=>Value.int .u32 z)[i]?) :
  eW c W (.pointer (some ⟨b,0,none⟩)) (.fj (zs.map fun z=>.val (.int .u32 z))):=by
 have hz:∀ (j:Nat) (d:D),(zs.map fun z=>(.val (.int .u32 z):D))[j]? = some d→zs[j]? = some (zs.getD j 0)∧d = .val (.int .u32 (zs.getD j 0)):=fun j d hj=>by
  rw[aq]at hj
  obtain⟨z,hz,rfl⟩:=aj.1 hj
  have:zs.getD j 0=z:=by simp[List.getD,hz]
  rw[this]
  exact⟨hz,rfl⟩
 refine .fj b 0 _ (fun i=>.int .u32 (zs.getD i 0)) hF (fun j d hj=>⟨?_,rfl⟩) (fun j d hj=>?_)
 ·rw[aR,hc,aq,(hz j d hj).1];rfl
 ·rw[(hz j d hj).2];exact .val _
def V(b:Program→FuncId→Func→ChangeSpec→OpenClaim→Bool):Prop:=b Tryz.checked.prog 8 Tryz.f8 Rows.disputeLocalSpec Rows.disputeLocalRow=true
def vk{b:Program→FuncId→Func→ChangeSpec→OpenClaim→Bool}(h:b Tryz.checked.prog 8 Tryz.f8 Rows.disputeLocalSpec Rows.disputeLocalRow=true):V b:=h
