/- 47 -/
import Derived.Test.YtmehofoficaelaaGreatDoorCards
import Derived.Test.YtmehofoficaelaaGreatDoorTie
import Derived.ProofKit
import Derived.LaidMore
import Derived.LaidSub
import Derived.OpenShut
import Derived.Stop.Joined
import Derived.SevenTiedAt
import Derived.Carry
import Derived.Test.YtmehofoficaelaaGreatDoorP27
import Derived.Test.YtmehofoficaelaaGreatDoorP34
import Derived.Test.YtmehofoficaelaaGreatDoorP46
set_option linter.all false
open Go.DataW renaming trod→aE
open List renaming getElem?_eq_getElem→bf,replicate→cp,range→dx,length→List.l
open Option renaming some→cc,none→di
namespace Go.Proofs.YtmehofoficaelaaGreatDoor
open Go.ChangeShapes Go.WideShapes Go.ChangeAt Go.RowKit Go.AL
set_option maxRecDepth 100000
def own:ownKnob Tryz.prog.godebug=none:=ia
def laidOut:laidOutB Tryz.prog=true:=ia
def mixed:Tryz.prog.follows .mixedOrders=true:=ia
def ahr(os:Os)(args:Array Value):laidMetH Tryz.prog Rows.topTablesByWorkersRow.laid ((World.doorLaid Tryz.prog 2000 os).forCall (λ_ _=>0) ⟨#[],args,[]⟩).memory:=
 laidMetH_of_parts3 (fuel:=8) (laidMet_of_run' 8 ia ia) ia ia
def ajA:Tryz.prog.globalNamed "skewer/play.conditions" = cc 0:=ia
def atP:(Tryz.prog.globals[0]?).map (·.type)=cc 293:=ia
def ago:Tryz.prog.cellsOf 292=1:=ia
def agq:Tryz.prog.cellsOf 311=1:=ia
def agu:zU Tryz.prog 20 32=cc ([.int .u8,.int .u8,.int .u8,.sl [.u8],.sl [.u8],.sl [.u8,.u8,.u8]]++cp 24 (.int .u8) ++ [.sl [.u8]]):=ia
def af5{d:D}(h:yD (.sl [.u8,.u8,.u8,.u8,.u8]) d):∃l:List B5,d = .sl 5 (l.map f5)/\∀y∈l,y.ok:=by
 obtain⟨len,W,rfl,h⟩:=h
 have:∀i,i<len->∃x:B5,W i = [.int .u8 x.a,.int .u8 x.b,.int .u8 x.c,.int .u8 x.d,.int .u8 x.e]/\x.ok:=λi hi=>by obtain⟨u,A,h1,j,q0⟩:=(h i hi).cons;obtain⟨t,z,rfl,p,q1⟩:=q0.cons;obtain⟨s,b2,rfl,o,q2⟩:=q1.cons;obtain⟨r,w,rfl,m,q3⟩:=q2.cons;obtain⟨q,v,rfl,k,q4⟩:=q3.cons;obtain⟨n0,rfl,k0⟩:=Ay j;obtain⟨n1,rfl,k1⟩:=Ay p;obtain⟨n2,rfl,k2⟩:=Ay o;obtain⟨e,rfl,k3⟩:=Ay m;obtain⟨c,rfl,k4⟩:=Ay k;exact⟨⟨n0,n1,n2,e,c⟩,by rw[h1,q4.done],⟨k0,k1,k2,k3,k4⟩⟩
 have a:∃f:Nat->B5,∀i,i<len->W i = [.int .u8 (f i).a,.int .u8 (f i).b,.int .u8 (f i).c,.int .u8 (f i).d,.int .u8 (f i).e]/\(f i).ok:=
  ⟨λi=>if h:i<len then Classical.choose (this i h)else default,λi hi=>by simp only[hi,dite_true];exact da (this i hi)⟩
 obtain⟨f,b⟩:=a;refine⟨(dx len).map f,?_,λn g=>?_⟩
 .rw[bC];congr 1;refine au λi hi=>?_;rw[(b i (by simpa using hi)).1];simp
 .obtain⟨i,hi,rfl⟩:=aj.1 g;exact(b i (by simpa using hi)).2
def agv:zU Tryz.prog 20 33=cc [.sl [.u8,.u8,.u8,.u8,.u8]]:=ia
def agw:zU Tryz.prog 20 34=cc (cp 2 (.int .u8)):=ia
def atY{ds:List D}(h:F2 yD (cp 2 (.int .u8)) ds):∃b a:Int,ds = [.val (.int .u8 b),.val (.int .u8 a)]/\∀n∈[b,a],0<=n/\n<256:=by
 obtain⟨l,r,hl,c,rfl,g⟩:=XA (n:=2) (ks:=[]) (by rw[az];exact h);obtain rfl:=g.done
 match l,hl,c with
 | [b,a],_,c=>exact⟨b,a,gP,c⟩
def agp:Tryz.prog.cellsOf 293=4:=ia
def amp{H:Type}{enc:TypeId×Value->H}{P:Program}{w:World}{base:Nat}{sp:Nat->Bool}{fuel:Nat}{t:TypeId}{ps rs:Array TypeId}{a:Bool}{v:Value}{q:List MemPlace}
  (b:P.underlying t=cc (.func ps rs a)) (h:aE enc P w base sp true fuel t [v]=cc (.nil,q)):v = .nilFunc:=by
 cases fuel with
 | zero=>simp[aE]at h
 | succ n=>cases v<;>simp[aE,b]at h ⊢
def table{W:World}(h:laidMetH Tryz.prog Rows.topTablesByWorkersRow.laid W):W.cell? ⟨0,0,di⟩=cc .nilFunc/\W.cell? ⟨0,1,di⟩=cc (.func (.func 364) #[] #[]) /\
  W.cell? ⟨0,2,di⟩=cc (.func (.func 366) #[] #[])/\W.cell? ⟨0,3,di⟩=cc (.func (.func 367) #[] #[]):=by
 obtain⟨g,t,cs,fuel,p,hg,q,o,r⟩:=h.funcs (n := "skewer/play.conditions") (d:=_) (List.mem_of_getElem? (i:=5) rfl);obtain rfl:=cA (ajA.symm.trans hg);obtain rfl:=cA (atP.symm.trans q);have b:aE (funcToken Tryz.prog) Tryz.prog W 0 (λ_=>true) true fuel 293 cs.toList=cc (.agg [.nil,.held [115,107,101,119,101,114,47,112,108,97,121,46,99,111,110,100,105,116,105,111,110,115,36,49],.held [115,107,101,119,101,114,47,112,108,97,121,46,99,111,110,100,105,116,105,111,110,115,36,50],.held [115,107,101,119,101,114,47,112,108,97,121,46,99,111,110,100,105,116,105,111,110,115,36,51]],p):=r
 cases fuel with
 | zero=>cases b
 | succ fuel=>
 unfold aE at b;simp only[Tryz.underlying293]at b;split at b
 .rename_i m;obtain⟨j,k,a⟩:=ar.1 b;simp only[ef,DataW.agg.injEq]at a;obtain⟨a,_⟩:=a;have hl:cs.toList.l=4:=m.trans agp;have f:List.mapM (λi=>aE (funcToken Tryz.prog) Tryz.prog W 0 (λ_=>true) true fuel 292 ((cs.toList.drop (i*1)).take 1)) (dx 4)=cc j:=by rw[ago]at k;exact k
  obtain⟨u,c⟩:=Wv f
  match l:cs.toList,hl with
  | [v0,v1,v2,v3],_=>
   rw[l]at c
   match j,a,u with
   | [y0,y1,y2,y3],a,_=>
    obtain⟨B,F⟩:=y0;obtain⟨A,E⟩:=y1;obtain⟨z,D⟩:=y2;obtain⟨y,C⟩:=y3;simp only[List.map_cons,List.map_nil,cN,and_true]at a;obtain⟨rfl,rfl,rfl,rfl⟩:=a;have x:=amp Tryz.underlying292 (c 0 0 rfl);have w:=func_of_trod (f0:=364) Tryz.underlying292 ia (c 1 1 rfl);have e2:=func_of_trod (f0:=366) Tryz.underlying292 ia (c 2 2 rfl);have v:=func_of_trod (f0:=367) Tryz.underlying292 ia (c 3 3 rfl);have s:∀i,W.cell? ⟨0,i,di⟩=cs[i]? := λi=>World.var?_cell hg o i;have e:∀i,W.cell? ⟨0,i,di⟩ = [v0,v1,v2,v3][i]? := λi=>by rw[s,<-l,bS]
    subst x;subst w;subst e2;subst v;exact⟨e 0,e 1,e 2,e 3⟩
 .cases b
def alq{P:Program}{W:World}{l:List (String×DataW Unit)}{n:String}{d:DataW Unit}(h:laidMetH P l W) (a:(l.filter λx=>x.1==n)=[(n,d)]) (e:([(n,d)].all λx=>x.2.handleName?.isNone)=true) :
  ∃g t cs fuel p,P.globalNamed n=cc g/\(P.globals[g]?).map (·.type)=cc t/\W.var? P n=cc cs/\aE (λ_=>()) P W 0 (λ_=>true) false fuel t cs.toList=cc (d,p):=by
 have h:=h.filter λx=>x.1==n;rw[a,MakeChecks.laidMetH_plain _ _ _ e]at h;obtain⟨ps,⟨g,t,cs,fuel,p,q,hg,c,b,f,_,_⟩,_,_⟩:=h;exact⟨g,t,cs,fuel,p,hg,c,b,f⟩
def ak4{H:Type}{enc:TypeId×Value->H}{P:Program}{w:World}{base:Nat}{sp:Nat->Bool}{held:Bool}{fuel:Nat}{t e:TypeId}{n:Nat}{k:IntKind}{zs:List Int}{cs:List Value}{p:List MemPlace}
  (d:P.underlying t=cc (.array n e)) (f:P.underlying e=cc (.int k)) (g:P.cellsOf e=1) (r:P.cellsOf t=n) (s:zs.l=n)
  (h:aE enc P w base sp held fuel t cs=cc (.agg (zs.map λz=>.lit (.int k z)),p)):cs=zs.map λz=>Value.int k z:=by
 obtain⟨xs,m,_,ex,h1,u,j⟩:=DataW.trod_array d h;have l:(xs.map (·.1))=zs.map λz=>.lit (.int k z):=(DataW.agg.inj (Prod.mk.inj ex).1).symm;refine bH (by rw[List.length_map];omega) λi hi q=>?_;have b:=j i U;rw[g,fD,bf U]at b;obtain⟨z,o,e2,_⟩:=DataW.trod_int f b;have a:(xs.map (·.1))[i]? = (zs.map λz=>(DataW.lit (.int k z):DataW H))[i]? := by rw[l]
 rw[aw,aw,bf (by omega:i<xs.l),bf (by omega:i<zs.l),e2]at a;simp only[aK,ax,DataW.lit.injEq,Lit.int.injEq,true_and]at a;have h0:((cs.drop i).take 1)[0]? = cc (.int k z):=by rw[o];rfl
 have c:cs[i]? = cc (.int k z):=by simpa using h0
 rw[bf hi,ax]at c;rw[c,a,br]
def Ii(l:List D):List Int:=l.map λ| .val (.int _ n)=>n | _=>0
def ady{W:World}(h:laidMetH Tryz.prog Rows.topTablesByWorkersRow.laid W){n:String}{b:Nat}{t:TypeId}{m:Nat}{l:List D}
  (f:(Rows.topTablesByWorkersRow.laid.filter λx=>x.1==n)=[(n,.agg ((Ii l).map λz=>.lit (.int .u32 z)))]) (q:([(n,(.agg ((Ii l).map λz=>.lit (.int .u32 z)):DataW Unit))].all λx=>x.2.handleName?.isNone)=true)
  (hg:Tryz.prog.globalNamed n=cc b) (o:(Tryz.prog.globals[b]?).map (·.type)=cc t) (k:Tryz.prog.underlying t=cc (.array m 311)) (c:Tryz.prog.cellsOf t=m) (d:(Ii l).l=m) :
  ∀i,W.cell? ⟨b,i,di⟩ = ((Ii l).map λz=>Value.int .u32 z)[i]? := by
 obtain⟨g,u,cs,fuel,p,s,a,j,r⟩:=alq h f q;obtain rfl:=cA (hg.symm.trans s);obtain rfl:=cA (o.symm.trans a);have e:=ak4 k Tryz.underlying311 agq c d r;intro i;rw[World.var?_cell hg j i,<-e,bS]
def aec{c:Ctx}{W:World}{b:Nat}{zs:List Int}(g:c.F b) (f:∀i,W.cell? ⟨b,i,di⟩ = (zs.map λz=>Value.int .u32 z)[i]?) :
  gX c W (.pointer (cc ⟨b,0,di⟩)) (.ie (zs.map λz=>.val (.int .u32 z))):=by
 have e:∀(j:Nat) (d:D),(zs.map λz=>(.val (.int .u32 z):D))[j]? = cc d->zs[j]? = cc (zs.getD j 0)/\d = .val (.int .u32 (zs.getD j 0)):=λj d a=>by
  rw[aw]at a;obtain⟨z,e,rfl⟩:=ar.1 a;have:zs.getD j 0=z:=by simp[List.getD,e]
  rw[this];exact⟨e,rfl⟩
 refine .ie b 0 _ (λi=>.int .u32 (zs.getD i 0)) g (λj d a=>⟨?_,rfl⟩) (λj d a=>?_)
 .rw[aR,f,aw,(e j d a).1];rfl
 .rw[(e j d a).2];exact .val _
def V(b:Program->FuncId->Func->ChangeSpec->OpenClaim->Bool):Prop:=b Tryz.checked.prog 3 Tryz.f3 Rows.topTablesByWorkersSpec Rows.topTablesByWorkersRow=true
def vk{b:Program->FuncId->Func->ChangeSpec->OpenClaim->Bool}(h:b Tryz.checked.prog 3 Tryz.f3 Rows.topTablesByWorkersSpec Rows.topTablesByWorkersRow=true):V b:=h
