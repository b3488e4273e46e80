/- Part 47 of DisputeMatchesReference. -/
import Derived.Test.YtmehofoficaelaaGreatDoorCards
import Derived.Test.YtmehofoficaelaaGreatDoorTie
import Derived.ProofKit
import Derived.LaidMore
import Derived.LaidSub
import Derived.OpenShut
import Derived.Stop.Joined
import Derived.SevenTiedAt
import Derived.Carry
import Derived.Test.YtmehofoficaelaaGreatDoorM27
import Derived.Test.YtmehofoficaelaaGreatDoorM34
import Derived.Test.YtmehofoficaelaaGreatDoorM46
set_option linter.all false
open List renaming getElem?_eq_getElem→aE,replicate→bs,range→b4,length→List.l
open Option renaming some→bb,none→cj
namespace Go.Proofs.YtmehofoficaelaaGreatDoor
open Go.ChangeShapes Go.WideShapes Go.ChangeAt Go.RowKit Go.AL
set_option maxRecDepth 100000
def own:ownKnob Tryz.prog.godebug=none:=gw
def laidOut:laidOutB Tryz.prog=true:=gw
def mixed:Tryz.prog.follows .mixedOrders=true:=gw
def aeT(os:Os)(args:Array Value):laidMetH Tryz.prog Rows.disputeMatchesReferenceRow.laid ((World.doorLaid Tryz.prog 2000 os).forCall (λ_ _=>0) ⟨#[],args,[]⟩).memory:=
 laidMetH_of_parts3 (fuel:=8) (laidMet_of_run' 8 gw gw) gw gw
def agT:Tryz.prog.globalNamed "skewer/play.conditions" = bb 0:=gw
def ap5:(Tryz.prog.globals[0]?).map (·.type)=bb 293:=gw
def adY:Tryz.prog.cellsOf 292=1:=gw
def ad0:Tryz.prog.cellsOf 311=1:=gw
def ad2:y7 Tryz.prog 20 32=bb ([.int .u8,.int .u8,.int .u8,.sl [.u8],.sl [.u8],.sl [.u8,.u8,.u8]]++bs 24 (.int .u8) ++ [.sl [.u8]]):=gw
def ad3:y7 Tryz.prog 20 77=bb ([.sl [.u8,.u8,.u8,.u8,.u8]]++bs 5 (.int .u8)):=gw
def adJ{d:D}(h:wS (.sl [.u8,.u8,.u8,.u8,.u8]) d):∃l:List B5,d = .sl 5 (l.map f5)/\∀y∈l,y.ok:=by
 obtain⟨len,W,rfl,h⟩:=h
 have:∀i,i<len->∃x:B5,W i = [.int .u8 x.a,.int .u8 x.b,.int .u8 x.c,.int .u8 x.d,.int .u8 x.e]/\x.ok:=λi hi=>by obtain⟨v0,z,h1,j,q0⟩:=(h i hi).cons;obtain⟨t,w,rfl,p,q1⟩:=q0.cons;obtain⟨s,b2,rfl,o,q2⟩:=q1.cons;obtain⟨r,v,rfl,m,q3⟩:=q2.cons;obtain⟨q,u,rfl,k,q4⟩:=q3.cons;obtain⟨n0,rfl,k0⟩:=xF j;obtain⟨n1,rfl,k1⟩:=xF p;obtain⟨n2,rfl,k2⟩:=xF o;obtain⟨e,rfl,k3⟩:=xF m;obtain⟨c,rfl,k4⟩:=xF k;exact⟨⟨n0,n1,n2,e,c⟩,by rw[h1,q4.done],⟨k0,k1,k2,k3,k4⟩⟩
 have a:∃f:Nat->B5,∀i,i<len->W i = [.int .u8 (f i).a,.int .u8 (f i).b,.int .u8 (f i).c,.int .u8 (f i).d,.int .u8 (f i).e]/\(f i).ok:=
  ⟨λi=>if h:i<len then Classical.choose (this i h)else default,λi hi=>by simp only[hi,dite_true];exact cI (this i hi)⟩
 obtain⟨f,b⟩:=a;refine⟨(b4 len).map f,?_,λn g=>?_⟩
 .rw[b6];congr 1;refine aw λi hi=>?_;rw[(b i (by simpa using hi)).1];simp
 .obtain⟨i,hi,rfl⟩:=au.1 g;exact(b i (by simpa using hi)).2
def aoD{ds:List D}(h:F2 wS ([.sl [.u8,.u8,.u8,.u8,.u8]]++bs 5 (.int .u8)) ds):∃(l:List B5) (K e a b c:Int),
  ds = [.sl 5 (l.map f5),.val (.int .u8 K),.val (.int .u8 e),.val (.int .u8 a),.val (.int .u8 b),.val (.int .u8 c)]/\(∀y∈l,y.ok)/\(0<=K/\K<256)/\(0<=e/\e<256)/\(0<=a/\a<256)/\(0<=b/\b<256)/\(0<=c/\c<256):=by
 obtain⟨d0,j,rfl,h0,i⟩:=h.cons;obtain⟨l,rfl,hl⟩:=adJ h0;obtain⟨m,r,f,d,rfl,g⟩:=Vh (n:=5) (ks:=[]) (by rw[aD];exact i);obtain rfl:=g.done
 match m,f,d with
 | [K,e,a,b,c],_,d=>exact⟨l,K,e,a,b,c,gf,hl,d K gf,d e gf,d a gf,d b gf,d c gf⟩
def adI{d:D}(h:wS (.sl [.u8,.u8]) d):∃l:List B2,d = .sl 2 (l.map AM)/\∀y∈l,y.ok:=by
 obtain⟨len,W,rfl,h⟩:=h
 have:∀i,i<len->∃x:B2,W i = [.int .u8 x.a,.int .u8 x.b]/\x.ok:=λi hi=>by obtain⟨v0,m,h1,e,q0⟩:=(h i hi).cons;obtain⟨j,k,rfl,g,q1⟩:=q0.cons;obtain⟨n0,rfl,k0⟩:=xF e;obtain⟨n1,rfl,k1⟩:=xF g;exact⟨⟨n0,n1⟩,by rw[h1,q1.done],⟨k0,k1⟩⟩
 have a:∃f:Nat->B2,∀i,i<len->W i = [.int .u8 (f i).a,.int .u8 (f i).b]/\(f i).ok:=
  ⟨λi=>if h:i<len then Classical.choose (this i h)else default,λi hi=>by simp only[hi,dite_true];exact cI (this i hi)⟩
 obtain⟨f,b⟩:=a;refine⟨(b4 len).map f,?_,λn c=>?_⟩
 .rw[b6];congr 1;refine aw λi hi=>?_;rw[(b i (by simpa using hi)).1];simp
 .obtain⟨i,hi,rfl⟩:=au.1 c;exact(b i (by simpa using hi)).2
def ad4:y7 Tryz.prog 20 78=bb [.sl [.u8,.u8]]:=gw
def adZ:Tryz.prog.cellsOf 293=4:=gw
def ajf{H:Type}{enc:TypeId×Value->H}{P:Program}{w:World}{base:Nat}{sp:Nat->Bool}{fuel:Nat}{t:TypeId}{ps rs:Array TypeId}{a:Bool}{v:Value}{q:List MemPlace}
  (b:P.underlying t=bb (.func ps rs a)) (h:DataW.trod enc P w base sp true fuel t [v]=bb (.nil,q)):v = .nilFunc:=by
 cases fuel with
 | zero=>simp[DataW.trod]at h
 | succ n=>cases v<;>simp[DataW.trod,b]at h ⊢
def table{W:World}(h:laidMetH Tryz.prog Rows.disputeMatchesReferenceRow.laid W):W.cell? ⟨0,0,cj⟩=bb .nilFunc/\W.cell? ⟨0,1,cj⟩=bb (.func (.func 364) #[] #[]) /\
  W.cell? ⟨0,2,cj⟩=bb (.func (.func 366) #[] #[])/\W.cell? ⟨0,3,cj⟩=bb (.func (.func 367) #[] #[]):=by
 obtain⟨g,t,cs,fuel,p,hg,o,m,q⟩:=h.funcs (n := "skewer/play.conditions") (d:=_) (List.mem_of_getElem? (i:=5) rfl);obtain rfl:=bT (agT.symm.trans hg);obtain rfl:=bT (ap5.symm.trans o);have b:DataW.trod (funcToken Tryz.prog) Tryz.prog W 0 (λ_=>true) true fuel 293 cs.toList=bb (.agg [.nil,.held [115,107,101,119,101,114,47,112,108,97,121,46,99,111,110,100,105,116,105,111,110,115,36,49],.held [115,107,101,119,101,114,47,112,108,97,121,46,99,111,110,100,105,116,105,111,110,115,36,50],.held [115,107,101,119,101,114,47,112,108,97,121,46,99,111,110,100,105,116,105,111,110,115,36,51]],p):=q
 cases fuel with
 | zero=>cases b
 | succ fuel=>
 unfold DataW.trod at b;simp only[Tryz.underlying293]at b;split at b
 .rename_i u;obtain⟨j,k,a⟩:=aq.1 b;simp only[dM,DataW.agg.injEq]at a;obtain⟨a,_⟩:=a;have hl:cs.toList.l=4:=u.trans adZ;have f:List.mapM (λi=>DataW.trod (funcToken Tryz.prog) Tryz.prog W 0 (λ_=>true) true fuel 292 ((cs.toList.drop (i*1)).take 1)) (b4 4)=bb j:=by rw[adY]at k;exact k
  obtain⟨s,c⟩:=Uf f
  match l:cs.toList,hl with
  | [v0,v1,v2,v3],_=>
   rw[l]at c
   match j,a,s with
   | [y0,y1,y2,y3],a,_=>
    obtain⟨C,G⟩:=y0;obtain⟨B,F⟩:=y1;obtain⟨A,E⟩:=y2;obtain⟨z,D⟩:=y3;simp only[List.map_cons,List.map_nil,dj,and_true]at a;obtain⟨rfl,rfl,rfl,rfl⟩:=a;have y:=ajf Tryz.underlying292 (c 0 0 rfl);have x:=func_of_trod (f0:=364) Tryz.underlying292 gw (c 1 1 rfl);have w:=func_of_trod (f0:=366) Tryz.underlying292 gw (c 2 2 rfl);have v:=func_of_trod (f0:=367) Tryz.underlying292 gw (c 3 3 rfl);have r:∀i,W.cell? ⟨0,i,cj⟩=cs[i]? := λi=>World.var?_cell hg m i;have e:∀i,W.cell? ⟨0,i,cj⟩ = [v0,v1,v2,v3][i]? := λi=>by rw[r,<-l,bH]
    subst y;subst x;subst w;subst v;exact⟨e 0,e 1,e 2,e 3⟩
 .cases b
def ait{P:Program}{W:World}{l:List (String×DataW Unit)}{n:String}{d:DataW Unit}(h:laidMetH P l W) (a:(l.filter λx=>x.1==n)=[(n,d)]) (e:([(n,d)].all λx=>x.2.handleName?.isNone)=true) :
  ∃g t cs fuel p,P.globalNamed n=bb g/\(P.globals[g]?).map (·.type)=bb t/\W.var? P n=bb cs/\DataW.trod (λ_=>()) P W 0 (λ_=>true) false fuel t cs.toList=bb (d,p):=by
 have h:=h.filter λx=>x.1==n;rw[a,MakeChecks.laidMetH_plain _ _ _ e]at h;obtain⟨ps,⟨g,t,cs,fuel,p,q,hg,c,b,f,_,_⟩,_,_⟩:=h;exact⟨g,t,cs,fuel,p,hg,c,b,f⟩
def aii{H:Type}{enc:TypeId×Value->H}{P:Program}{w:World}{base:Nat}{sp:Nat->Bool}{held:Bool}{fuel:Nat}{t e:TypeId}{n:Nat}{k:IntKind}{zs:List Int}{cs:List Value}{p:List MemPlace}
  (d:P.underlying t=bb (.array n e)) (f:P.underlying e=bb (.int k)) (g:P.cellsOf e=1) (r:P.cellsOf t=n) (u:zs.l=n)
  (h:DataW.trod enc P w base sp held fuel t cs=bb (.agg (zs.map λz=>.lit (.int k z)),p)):cs=zs.map λz=>Value.int k z:=by
 obtain⟨xs,m,_,ex,h1,v,j⟩:=DataW.trod_array d h;have l:(xs.map (·.1))=zs.map λz=>.lit (.int k z):=(DataW.agg.inj (Prod.mk.inj ex).1).symm;refine bj (by rw[List.length_map];omega) λi hi s=>?_;have b:=j i U;rw[g,eZ,aE U]at b;obtain⟨z,q,o,_⟩:=DataW.trod_int f b;have a:(xs.map (·.1))[i]? = (zs.map λz=>(DataW.lit (.int k z):DataW H))[i]? := by rw[l]
 rw[ax,ax,aE (by omega:i<xs.l),aE (by omega:i<zs.l),o]at a;simp only[aK,av,DataW.lit.injEq,Lit.int.injEq,true_and]at a;have h0:((cs.drop i).take 1)[0]? = bb (.int k z):=by rw[q];rfl
 have c:cs[i]? = bb (.int k z):=by simpa using h0
 rw[aE hi,av]at c;rw[c,a,List.getElem_map]
def Gy(l:List D):List Int:=l.map λ| .val (.int _ n)=>n | _=>0
def aby{W:World}(h:laidMetH Tryz.prog Rows.disputeMatchesReferenceRow.laid W){n:String}{b:Nat}{t:TypeId}{m:Nat}{l:List D}
  (j:(Rows.disputeMatchesReferenceRow.laid.filter λx=>x.1==n)=[(n,.agg ((Gy l).map λz=>.lit (.int .u32 z)))]) (r:([(n,(.agg ((Gy l).map λz=>.lit (.int .u32 z)):DataW Unit))].all λx=>x.2.handleName?.isNone)=true)
  (hg:Tryz.prog.globalNamed n=bb b) (q:(Tryz.prog.globals[b]?).map (·.type)=bb t) (o:Tryz.prog.underlying t=bb (.array m 311)) (d:Tryz.prog.cellsOf t=m) (f:(Gy l).l=m) :
  ∀i,W.cell? ⟨b,i,cj⟩ = ((Gy l).map λz=>Value.int .u32 z)[i]? := by
 obtain⟨g,u,cs,fuel,p,c,a,k,s⟩:=ait h j r;obtain rfl:=bT (hg.symm.trans c);obtain rfl:=bT (q.symm.trans a);have e:=aii o Tryz.underlying311 ad0 d f s;intro i;rw[World.var?_cell hg k i,<-e,bH]
def acd{c:Ctx}{W:World}{b:Nat}{zs:List Int}(g:c.F b) (f:∀i,W.cell? ⟨b,i,cj⟩ = (zs.map λz=>Value.int .u32 z)[i]?) :
  gq c W (.pointer (bb ⟨b,0,cj⟩)) (.gH (zs.map λz=>.val (.int .u32 z))):=by
 have e:∀(j:Nat) (d:D),(zs.map λz=>(.val (.int .u32 z):D))[j]? = bb d->zs[j]? = bb (zs.getD j 0)/\d = .val (.int .u32 (zs.getD j 0)):=λj d a=>by
  rw[ax]at a;obtain⟨z,e,rfl⟩:=aq.1 a;have:zs.getD j 0=z:=by simp[List.getD,e]
  rw[this];exact⟨e,rfl⟩
 refine .gH b 0 _ (λi=>.int .u32 (zs.getD i 0)) g (λj d a=>⟨?_,rfl⟩) (λj d a=>?_)
 .rw[aV,f,ax,(e j d a).1];rfl
 .rw[(e j d a).2];exact .val _
def V(b:Program->FuncId->Func->ChangeSpec->OpenClaim->Bool):Prop:=b Tryz.checked.prog 4 Tryz.f4 Rows.disputeMatchesReferenceSpec Rows.disputeMatchesReferenceRow=true
def vk{b:Program->FuncId->Func->ChangeSpec->OpenClaim->Bool}(h:b Tryz.checked.prog 4 Tryz.f4 Rows.disputeMatchesReferenceSpec Rows.disputeMatchesReferenceRow=true):V b:=h
