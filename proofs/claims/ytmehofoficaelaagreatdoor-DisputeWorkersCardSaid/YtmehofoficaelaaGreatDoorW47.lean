/- Part 47 of DisputeWorkers. -/
import Derived.Test.YtmehofoficaelaaGreatDoorCards
import Derived.Test.YtmehofoficaelaaGreatDoorTie
import Derived.ProofKit
import Derived.LaidMore
import Derived.LaidSub
import Derived.OpenShut
import Derived.Stop.Joined
import Derived.SevenTiedAt
import Derived.Carry
import Derived.Test.YtmehofoficaelaaGreatDoorW27
import Derived.Test.YtmehofoficaelaaGreatDoorW34
import Derived.Test.YtmehofoficaelaaGreatDoorW46
set_option linter.all false
namespace Go.Proofs.YtmehofoficaelaaGreatDoor
open Go.ChangeShapes Go.WideShapes Go.ChangeAt Go.RowKit Go.AL
set_option maxRecDepth 100000
theorem own:ownKnob Tryz.prog.godebug=none:=by kernel_rfl
theorem laidOut:laidOutB Tryz.prog=true:=by kernel_rfl
theorem mixed:Tryz.prog.follows .mixedOrders=true:=by kernel_rfl
theorem adj(os:Os)(args:Array Value):laidMetH Tryz.prog Rows.disputeWorkersRow.laid ((World.doorLaid Tryz.prog 2000 os).forCall (λ_ _=>0) ⟨#[],args,[]⟩).memory:=
 laidMetH_of_parts3 (fuel:=8) (laidMet_of_run' 8 (by kernel_rfl) (by kernel_rfl)) (by kernel_rfl) (by kernel_rfl)
theorem afg:Tryz.prog.globalNamed "skewer/play.conditions" = some 0:=by kernel_rfl
theorem aow:(Tryz.prog.globals[0]?).map (·.type)=some 293:=by kernel_rfl
theorem aci:Tryz.prog.cellsOf 292=1:=by kernel_rfl
theorem ack:Tryz.prog.cellsOf 311=1:=by kernel_rfl
theorem acn:zq Tryz.prog 20 32=some ([.int .u8,.int .u8,.int .u8,.sl [.u8],.sl [.u8],.sl [.u8,.u8,.u8]]++List.replicate 24 (.int .u8) ++ [.sl [.u8]]):=by kernel_rfl
theorem ab1{d:D}(h:xG (.sl [.u8,.u8,.u8,.u8,.u8]) d):∃l:List B5,d = .sl 5 (l.map f5)/\∀y∈l,y.ok:=by
 obtain⟨len,W,rfl,h⟩:=h
 have:∀i,i<len->∃x:B5,W i = [.int .u8 x.a,.int .u8 x.b,.int .u8 x.c,.int .u8 x.d,.int .u8 x.e]/\x.ok:=λi hi=>by obtain⟨v0,z,h1,j,q0⟩:=(h i hi).cons;obtain⟨t,w,rfl,p,q1⟩:=q0.cons;obtain⟨s,b2,rfl,o,q2⟩:=q1.cons;obtain⟨r,v,rfl,m,q3⟩:=q2.cons;obtain⟨q,u,rfl,k,q4⟩:=q3.cons;obtain⟨n0,rfl,k0⟩:=yC j;obtain⟨n1,rfl,k1⟩:=yC p;obtain⟨n2,rfl,k2⟩:=yC o;obtain⟨e,rfl,k3⟩:=yC m;obtain⟨c,rfl,k4⟩:=yC k;exact⟨⟨n0,n1,n2,e,c⟩,by rw[h1,q4.done],⟨k0,k1,k2,k3,k4⟩⟩
 have a:∃f:Nat->B5,∀i,i<len->W i = [.int .u8 (f i).a,.int .u8 (f i).b,.int .u8 (f i).c,.int .u8 (f i).d,.int .u8 (f i).e]/\(f i).ok:=
  ⟨λi=>if h:i<len then Classical.choose (this i h)else default,λi hi=>by simp only[hi,dite_true];exact cH (this i hi)⟩
 obtain⟨f,b⟩:=a;refine⟨(List.range len).map f,?_,λn g=>?_⟩
 .rw[cz];congr 1;refine aw λi hi=>?_;rw[(b i (by simpa using hi)).1];simp
 .obtain⟨i,hi,rfl⟩:=ar.1 g;exact(b i (by simpa using hi)).2
theorem aco:zq Tryz.prog 20 33=some [.sl [.u8,.u8,.u8,.u8,.u8]]:=by kernel_rfl
theorem acj:Tryz.prog.cellsOf 293=4:=by kernel_rfl
theorem ahL{H:Type}{enc:TypeId×Value->H}{P:Program}{w:World}{base:Nat}{sp:Nat->Bool}{fuel:Nat}{t:TypeId}{ps rs:Array TypeId}{a:Bool}{v:Value}{q:List MemPlace}
  (b:P.underlying t=some (.func ps rs a)) (h:DataW.trod enc P w base sp true fuel t [v]=some (.nil,q)):v = .nilFunc:=by
 cases fuel with
 | zero=>simp[DataW.trod]at h
 | succ n=>cases v<;>simp[DataW.trod,b]at h ⊢
theorem table{W:World}(h:laidMetH Tryz.prog Rows.disputeWorkersRow.laid W):W.cell? ⟨0,0,none⟩=some .nilFunc/\W.cell? ⟨0,1,none⟩=some (.func (.func 364) #[] #[]) /\
  W.cell? ⟨0,2,none⟩=some (.func (.func 366) #[] #[])/\W.cell? ⟨0,3,none⟩=some (.func (.func 367) #[] #[]):=by
 obtain⟨g,t,cs,fuel,p,hg,o,m,q⟩:=h.funcs (n := "skewer/play.conditions") (d:=_) (List.mem_of_getElem? (i:=5) rfl);obtain rfl:=bZ (afg.symm.trans hg);obtain rfl:=bZ (aow.symm.trans o);have b:DataW.trod (funcToken Tryz.prog) Tryz.prog W 0 (λ_=>true) true fuel 293 cs.toList=some (.agg [.nil,.held [115,107,101,119,101,114,47,112,108,97,121,46,99,111,110,100,105,116,105,111,110,115,36,49],.held [115,107,101,119,101,114,47,112,108,97,121,46,99,111,110,100,105,116,105,111,110,115,36,50],.held [115,107,101,119,101,114,47,112,108,97,121,46,99,111,110,100,105,116,105,111,110,115,36,51]],p):=q
 cases fuel with
 | zero=>cases b
 | succ fuel=>
 unfold DataW.trod at b;simp only[Tryz.underlying293]at b;split at b
 .rename_i u;obtain⟨j,k,a⟩:=aj.1 b;simp only[dC,DataW.agg.injEq]at a;obtain⟨a,_⟩:=a;have hl:cs.toList.length=4:=u.trans acj;have f:List.mapM (λi=>DataW.trod (funcToken Tryz.prog) Tryz.prog W 0 (λ_=>true) true fuel 292 ((cs.toList.drop (i*1)).take 1)) (List.range 4)=some j:=by rw[aci]at k;exact k
  obtain⟨s,c⟩:=SO f
  match l:cs.toList,hl with
  | [v0,v1,v2,v3],_=>
   rw[l]at c
   match j,a,s with
   | [y0,y1,y2,y3],a,_=>
    obtain⟨C,G⟩:=y0;obtain⟨B,F⟩:=y1;obtain⟨A,E⟩:=y2;obtain⟨z,D⟩:=y3;simp only[List.map_cons,List.map_nil,cY,and_true]at a;obtain⟨rfl,rfl,rfl,rfl⟩:=a;have y:=ahL Tryz.underlying292 (c 0 0 rfl);have x:=func_of_trod (f0:=364) Tryz.underlying292 (by kernel_rfl) (c 1 1 rfl);have w:=func_of_trod (f0:=366) Tryz.underlying292 (by kernel_rfl) (c 2 2 rfl);have v:=func_of_trod (f0:=367) Tryz.underlying292 (by kernel_rfl) (c 3 3 rfl);have r:∀i,W.cell? ⟨0,i,none⟩=cs[i]? := λi=>World.var?_cell hg m i;have e:∀i,W.cell? ⟨0,i,none⟩ = [v0,v1,v2,v3][i]? := λi=>by rw[r,<-l,bF]
    subst y;subst x;subst w;subst v;exact⟨e 0,e 1,e 2,e 3⟩
 .cases b
theorem agY{P:Program}{W:World}{l:List (String×DataW Unit)}{n:String}{d:DataW Unit}(h:laidMetH P l W) (a:(l.filter λx=>x.1==n)=[(n,d)]) (e:([(n,d)].all λx=>x.2.handleName?.isNone)=true) :
  ∃g t cs fuel p,P.globalNamed n=some g/\(P.globals[g]?).map (·.type)=some t/\W.var? P n=some cs/\DataW.trod (λ_=>()) P W 0 (λ_=>true) false fuel t cs.toList=some (d,p):=by
 have h:=h.filter λx=>x.1==n;rw[a,MakeChecks.laidMetH_plain _ _ _ e]at h;obtain⟨ps,⟨g,t,cs,fuel,p,q,hg,c,b,f,_,_⟩,_,_⟩:=h;exact⟨g,t,cs,fuel,p,hg,c,b,f⟩
theorem agH{H:Type}{enc:TypeId×Value->H}{P:Program}{w:World}{base:Nat}{sp:Nat->Bool}{held:Bool}{fuel:Nat}{t e:TypeId}{n:Nat}{k:IntKind}{zs:List Int}{cs:List Value}{p:List MemPlace}
  (d:P.underlying t=some (.array n e)) (f:P.underlying e=some (.int k)) (g:P.cellsOf e=1) (r:P.cellsOf t=n) (u:zs.length=n)
  (h:DataW.trod enc P w base sp held fuel t cs=some (.agg (zs.map λz=>.lit (.int k z)),p)):cs=zs.map λz=>Value.int k z:=by
 obtain⟨xs,m,_,ex,h1,v,j⟩:=DataW.trod_array d h;have l:(xs.map (·.1))=zs.map λz=>.lit (.int k z):=(DataW.agg.inj (Prod.mk.inj ex).1).symm;refine br (by rw[List.length_map];omega) λi hi s=>?_;have b:=j i (by omega);rw[g,eV,List.getElem?_eq_getElem (by omega)]at b;obtain⟨z,q,o,_⟩:=DataW.trod_int f b;have a:(xs.map (·.1))[i]? = (zs.map λz=>(DataW.lit (.int k z):DataW H))[i]? := by rw[l]
 rw[au,au,List.getElem?_eq_getElem (by omega:i<xs.length),List.getElem?_eq_getElem (by omega:i<zs.length),o]at a;simp only[aH,aq,DataW.lit.injEq,Lit.int.injEq,true_and]at a;have h0:((cs.drop i).take 1)[0]? = some (.int k z):=by rw[q];rfl
 have c:cs[i]? = some (.int k z):=by simpa using h0
 rw[List.getElem?_eq_getElem hi,aq]at c;rw[c,a,List.getElem_map]
def Ff(l:List D):List Int:=l.map λ| .val (.int _ n)=>n | _=>0
theorem ZL{W:World}(h:laidMetH Tryz.prog Rows.disputeWorkersRow.laid W){n:String}{b:Nat}{t:TypeId}{m:Nat}{l:List D}
  (j:(Rows.disputeWorkersRow.laid.filter λx=>x.1==n)=[(n,.agg ((Ff l).map λz=>.lit (.int .u32 z)))]) (r:([(n,(.agg ((Ff l).map λz=>.lit (.int .u32 z)):DataW Unit))].all λx=>x.2.handleName?.isNone)=true)
  (hg:Tryz.prog.globalNamed n=some b) (q:(Tryz.prog.globals[b]?).map (·.type)=some t) (o:Tryz.prog.underlying t=some (.array m 311)) (d:Tryz.prog.cellsOf t=m) (f:(Ff l).length=m) :
  ∀i,W.cell? ⟨b,i,none⟩ = ((Ff l).map λz=>Value.int .u32 z)[i]? := by
 obtain⟨g,u,cs,fuel,p,c,a,k,s⟩:=agY h j r;obtain rfl:=bZ (hg.symm.trans c);obtain rfl:=bZ (q.symm.trans a);have e:=agH o Tryz.underlying311 ack d f s;intro i;rw[World.var?_cell hg k i,<-e,bF]
theorem aas{c:Ctx}{W:World}{b:Nat}{zs:List Int}(g:c.F b) (f:∀i,W.cell? ⟨b,i,none⟩ = (zs.map λz=>Value.int .u32 z)[i]?) :
  gh c W (.pointer (some ⟨b,0,none⟩)) (.gu (zs.map λz=>.val (.int .u32 z))):=by
 have e:∀(j:Nat) (d:D),(zs.map λz=>(.val (.int .u32 z):D))[j]? = some d->zs[j]? = some (zs.getD j 0)/\d = .val (.int .u32 (zs.getD j 0)):=λj d a=>by
  rw[au]at a;obtain⟨z,e,rfl⟩:=aj.1 a;have:zs.getD j 0=z:=by simp[List.getD,e]
  rw[this];exact⟨e,rfl⟩
 refine .gu b 0 _ (λi=>.int .u32 (zs.getD i 0)) g (λj d a=>⟨?_,rfl⟩) (λj d a=>?_)
 .rw[aQ,f,au,(e j d a).1];rfl
 .rw[(e j d a).2];exact .val _
def V(b:Program->FuncId->Func->ChangeSpec->OpenClaim->Bool):Prop:=b Tryz.checked.prog 11 Tryz.f11 Rows.disputeWorkersSpec Rows.disputeWorkersRow=true
theorem vk{b:Program->FuncId->Func->ChangeSpec->OpenClaim->Bool}(h:b Tryz.checked.prog 11 Tryz.f11 Rows.disputeWorkersSpec Rows.disputeWorkersRow=true):V b:=h
