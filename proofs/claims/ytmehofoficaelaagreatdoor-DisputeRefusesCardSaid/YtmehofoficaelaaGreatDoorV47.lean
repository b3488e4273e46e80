/- 47 -/
import Derived.Test.YtmehofoficaelaaGreatDoorCards
import Derived.Test.YtmehofoficaelaaGreatDoorTie
import Derived.ProofKit
import Derived.LaidMore
import Derived.LaidSub
import Derived.OpenShut
import Derived.Stop.Joined
import Derived.SevenTiedAt
import Derived.Carry
import Derived.Test.YtmehofoficaelaaGreatDoorV27
import Derived.Test.YtmehofoficaelaaGreatDoorV34
import Derived.Test.YtmehofoficaelaaGreatDoorV46
set_option linter.all false
open Go.DataW renaming trod→aE
open List renaming getElem?_eq_getElem→bb,replicate→b4,range→cp,length→List.l
open Option renaming some→bs,none→cc
namespace Go.Proofs.YtmehofoficaelaaGreatDoor
open Go.ChangeShapes Go.WideShapes Go.ChangeAt Go.RowKit Go.AL
set_option maxRecDepth 100000
def own:ownKnob Tryz.prog.godebug=none:=gu
def laidOut:laidOutB Tryz.prog=true:=gu
def mixed:Tryz.prog.follows .mixedOrders=true:=gu
def adp(os:Os)(args:Array Value):laidMetH Tryz.prog Rows.disputeRefusesRow.laid ((World.doorLaid Tryz.prog 2000 os).forCall (λ_ _=>0) ⟨#[],args,[]⟩).memory:=
 laidMetH_of_parts3 (fuel:=8) (laidMet_of_run' 8 gu gu) gu gu
def afn:Tryz.prog.globalNamed "skewer/play.conditions" = bs 0:=gu
def aol:(Tryz.prog.globals[0]?).map (·.type)=bs 293:=gu
def aco:Tryz.prog.cellsOf 292=1:=gu
def acq:Tryz.prog.cellsOf 311=1:=gu
def acs:zw Tryz.prog 20 32=bs ([.int .u8,.int .u8,.int .u8,.sl [.u8],.sl [.u8],.sl [.u8,.u8,.u8]]++b4 24 (.int .u8) ++ [.sl [.u8]]):=gu
def acu:zw Tryz.prog 20 77=bs ([.sl [.u8,.u8,.u8,.u8,.u8]]++b4 5 (.int .u8)):=gu
def ab7{d:D}(h:wF (.sl [.u8,.u8,.u8,.u8,.u8]) d):∃l:List B5,d = .sl 5 (l.map f5)/\∀y∈l,y.ok:=by
 obtain⟨len,W,rfl,h⟩:=h
 have:∀i,i<len->∃x:B5,W i = [.int .u8 x.a,.int .u8 x.b,.int .u8 x.c,.int .u8 x.d,.int .u8 x.e]/\x.ok:=λi hi=>by obtain⟨v0,z,h1,j,q0⟩:=(h i hi).cons;obtain⟨t,w,rfl,p,q1⟩:=q0.cons;obtain⟨s,b2,rfl,o,q2⟩:=q1.cons;obtain⟨r,v,rfl,m,q3⟩:=q2.cons;obtain⟨q,u,rfl,k,q4⟩:=q3.cons;obtain⟨n0,rfl,k0⟩:=yE j;obtain⟨n1,rfl,k1⟩:=yE p;obtain⟨n2,rfl,k2⟩:=yE o;obtain⟨e,rfl,k3⟩:=yE m;obtain⟨c,rfl,k4⟩:=yE k;exact⟨⟨n0,n1,n2,e,c⟩,by rw[h1,q4.done],⟨k0,k1,k2,k3,k4⟩⟩
 have a:∃f:Nat->B5,∀i,i<len->W i = [.int .u8 (f i).a,.int .u8 (f i).b,.int .u8 (f i).c,.int .u8 (f i).d,.int .u8 (f i).e]/\(f i).ok:=
  ⟨λi=>if h:i<len then Classical.choose (this i h)else default,λi hi=>by simp only[hi,dite_true];exact cK (this i hi)⟩
 obtain⟨f,b⟩:=a;refine⟨(cp len).map f,?_,λn g=>?_⟩
 .rw[b7];congr 1;refine au λi hi=>?_;rw[(b i (by simpa using hi)).1];simp
 .obtain⟨i,hi,rfl⟩:=az.1 g;exact(b i (by simpa using hi)).2
def amV{ds:List D}(h:F2 wF ([.sl [.u8,.u8,.u8,.u8,.u8]]++b4 5 (.int .u8)) ds):∃(l:List B5) (K e a b c:Int),
  ds = [.sl 5 (l.map f5),.val (.int .u8 K),.val (.int .u8 e),.val (.int .u8 a),.val (.int .u8 b),.val (.int .u8 c)]/\(∀y∈l,y.ok)/\(0<=K/\K<256)/\(0<=e/\e<256)/\(0<=a/\a<256)/\(0<=b/\b<256)/\(0<=c/\c<256):=by
 obtain⟨d0,j,rfl,h0,i⟩:=h.cons;obtain⟨l,rfl,hl⟩:=ab7 h0;obtain⟨m,r,f,d,rfl,g⟩:=TW (n:=5) (ks:=[]) (by rw[aB];exact i);obtain rfl:=g.done
 match m,f,d with
 | [K,e,a,b,c],_,d=>exact⟨l,K,e,a,b,c,fZ,hl,d K fZ,d e fZ,d a fZ,d b fZ,d c fZ⟩
def acp:Tryz.prog.cellsOf 293=4:=gu
def ahP{H:Type}{enc:TypeId×Value->H}{P:Program}{w:World}{base:Nat}{sp:Nat->Bool}{fuel:Nat}{t:TypeId}{ps rs:Array TypeId}{a:Bool}{v:Value}{q:List MemPlace}
  (b:P.underlying t=bs (.func ps rs a)) (h:aE enc P w base sp true fuel t [v]=bs (.nil,q)):v = .nilFunc:=by
 cases fuel with
 | zero=>simp[aE]at h
 | succ n=>cases v<;>simp[aE,b]at h ⊢
def table{W:World}(h:laidMetH Tryz.prog Rows.disputeRefusesRow.laid W):W.cell? ⟨0,0,cc⟩=bs .nilFunc/\W.cell? ⟨0,1,cc⟩=bs (.func (.func 364) #[] #[]) /\
  W.cell? ⟨0,2,cc⟩=bs (.func (.func 366) #[] #[])/\W.cell? ⟨0,3,cc⟩=bs (.func (.func 367) #[] #[]):=by
 obtain⟨g,t,cs,fuel,p,hg,o,m,q⟩:=h.funcs (n := "skewer/play.conditions") (d:=_) (List.mem_of_getElem? (i:=5) rfl);obtain rfl:=bZ (afn.symm.trans hg);obtain rfl:=bZ (aol.symm.trans o);have b:aE (funcToken Tryz.prog) Tryz.prog W 0 (λ_=>true) true fuel 293 cs.toList=bs (.agg [.nil,.held [115,107,101,119,101,114,47,112,108,97,121,46,99,111,110,100,105,116,105,111,110,115,36,49],.held [115,107,101,119,101,114,47,112,108,97,121,46,99,111,110,100,105,116,105,111,110,115,36,50],.held [115,107,101,119,101,114,47,112,108,97,121,46,99,111,110,100,105,116,105,111,110,115,36,51]],p):=q
 cases fuel with
 | zero=>cases b
 | succ fuel=>
 unfold aE at b;simp only[Tryz.underlying293]at b;split at b
 .rename_i u;obtain⟨j,k,a⟩:=ao.1 b;simp only[dD,DataW.agg.injEq]at a;obtain⟨a,_⟩:=a;have hl:cs.toList.l=4:=u.trans acp;have f:List.mapM (λi=>aE (funcToken Tryz.prog) Tryz.prog W 0 (λ_=>true) true fuel 292 ((cs.toList.drop (i*1)).take 1)) (cp 4)=bs j:=by rw[aco]at k;exact k
  obtain⟨s,c⟩:=SP f
  match l:cs.toList,hl with
  | [v0,v1,v2,v3],_=>
   rw[l]at c
   match j,a,s with
   | [y0,y1,y2,y3],a,_=>
    obtain⟨C,G⟩:=y0;obtain⟨B,F⟩:=y1;obtain⟨A,E⟩:=y2;obtain⟨z,D⟩:=y3;simp only[List.map_cons,List.map_nil,cY,and_true]at a;obtain⟨rfl,rfl,rfl,rfl⟩:=a;have y:=ahP Tryz.underlying292 (c 0 0 rfl);have x:=func_of_trod (f0:=364) Tryz.underlying292 gu (c 1 1 rfl);have w:=func_of_trod (f0:=366) Tryz.underlying292 gu (c 2 2 rfl);have v:=func_of_trod (f0:=367) Tryz.underlying292 gu (c 3 3 rfl);have r:∀i,W.cell? ⟨0,i,cc⟩=cs[i]? := λi=>World.var?_cell hg m i;have e:∀i,W.cell? ⟨0,i,cc⟩ = [v0,v1,v2,v3][i]? := λi=>by rw[r,<-l,bE]
    subst y;subst x;subst w;subst v;exact⟨e 0,e 1,e 2,e 3⟩
 .cases b
def ag2{P:Program}{W:World}{l:List (String×DataW Unit)}{n:String}{d:DataW Unit}(h:laidMetH P l W) (a:(l.filter λx=>x.1==n)=[(n,d)]) (e:([(n,d)].all λx=>x.2.handleName?.isNone)=true) :
  ∃g t cs fuel p,P.globalNamed n=bs g/\(P.globals[g]?).map (·.type)=bs t/\W.var? P n=bs cs/\aE (λ_=>()) P W 0 (λ_=>true) false fuel t cs.toList=bs (d,p):=by
 have h:=h.filter λx=>x.1==n;rw[a,MakeChecks.laidMetH_plain _ _ _ e]at h;obtain⟨ps,⟨g,t,cs,fuel,p,q,hg,c,b,f,_,_⟩,_,_⟩:=h;exact⟨g,t,cs,fuel,p,hg,c,b,f⟩
def agM{H:Type}{enc:TypeId×Value->H}{P:Program}{w:World}{base:Nat}{sp:Nat->Bool}{held:Bool}{fuel:Nat}{t e:TypeId}{n:Nat}{k:IntKind}{zs:List Int}{cs:List Value}{p:List MemPlace}
  (d:P.underlying t=bs (.array n e)) (f:P.underlying e=bs (.int k)) (g:P.cellsOf e=1) (r:P.cellsOf t=n) (u:zs.l=n)
  (h:aE enc P w base sp held fuel t cs=bs (.agg (zs.map λz=>.lit (.int k z)),p)):cs=zs.map λz=>Value.int k z:=by
 obtain⟨xs,m,_,ex,h1,v,j⟩:=DataW.trod_array d h;have l:(xs.map (·.1))=zs.map λz=>.lit (.int k z):=(DataW.agg.inj (Prod.mk.inj ex).1).symm;refine bg (by rw[List.length_map];omega) λi hi s=>?_;have b:=j i U;rw[g,eT,bb U]at b;obtain⟨z,q,o,_⟩:=DataW.trod_int f b;have a:(xs.map (·.1))[i]? = (zs.map λz=>(DataW.lit (.int k z):DataW H))[i]? := by rw[l]
 rw[ax,ax,bb (by omega:i<xs.l),bb (by omega:i<zs.l),o]at a;simp only[aH,ar,DataW.lit.injEq,Lit.int.injEq,true_and]at a;have h0:((cs.drop i).take 1)[0]? = bs (.int k z):=by rw[q];rfl
 have c:cs[i]? = bs (.int k z):=by simpa using h0
 rw[bb hi,ar]at c;rw[c,a,List.getElem_map]
def Fv(l:List D):List Int:=l.map λ| .val (.int _ n)=>n | _=>0
def ZT{W:World}(h:laidMetH Tryz.prog Rows.disputeRefusesRow.laid W){n:String}{b:Nat}{t:TypeId}{m:Nat}{l:List D}
  (j:(Rows.disputeRefusesRow.laid.filter λx=>x.1==n)=[(n,.agg ((Fv l).map λz=>.lit (.int .u32 z)))]) (r:([(n,(.agg ((Fv l).map λz=>.lit (.int .u32 z)):DataW Unit))].all λx=>x.2.handleName?.isNone)=true)
  (hg:Tryz.prog.globalNamed n=bs b) (q:(Tryz.prog.globals[b]?).map (·.type)=bs t) (o:Tryz.prog.underlying t=bs (.array m 311)) (d:Tryz.prog.cellsOf t=m) (f:(Fv l).l=m) :
  ∀i,W.cell? ⟨b,i,cc⟩ = ((Fv l).map λz=>Value.int .u32 z)[i]? := by
 obtain⟨g,u,cs,fuel,p,c,a,k,s⟩:=ag2 h j r;obtain rfl:=bZ (hg.symm.trans c);obtain rfl:=bZ (q.symm.trans a);have e:=agM o Tryz.underlying311 acq d f s;intro i;rw[World.var?_cell hg k i,<-e,bE]
def aaE{c:Ctx}{W:World}{b:Nat}{zs:List Int}(g:c.F b) (f:∀i,W.cell? ⟨b,i,cc⟩ = (zs.map λz=>Value.int .u32 z)[i]?) :
  gj c W (.pointer (bs ⟨b,0,cc⟩)) (.gC (zs.map λz=>.val (.int .u32 z))):=by
 have e:∀(j:Nat) (d:D),(zs.map λz=>(.val (.int .u32 z):D))[j]? = bs d->zs[j]? = bs (zs.getD j 0)/\d = .val (.int .u32 (zs.getD j 0)):=λj d a=>by
  rw[ax]at a;obtain⟨z,e,rfl⟩:=ao.1 a;have:zs.getD j 0=z:=by simp[List.getD,e]
  rw[this];exact⟨e,rfl⟩
 refine .gC b 0 _ (λi=>.int .u32 (zs.getD i 0)) g (λj d a=>⟨?_,rfl⟩) (λj d a=>?_)
 .rw[aR,f,ax,(e j d a).1];rfl
 .rw[(e j d a).2];exact .val _
def V(b:Program->FuncId->Func->ChangeSpec->OpenClaim->Bool):Prop:=b Tryz.checked.prog 9 Tryz.f9 Rows.disputeRefusesSpec Rows.disputeRefusesRow=true
def vk{b:Program->FuncId->Func->ChangeSpec->OpenClaim->Bool}(h:b Tryz.checked.prog 9 Tryz.f9 Rows.disputeRefusesSpec Rows.disputeRefusesRow=true):V b:=h
