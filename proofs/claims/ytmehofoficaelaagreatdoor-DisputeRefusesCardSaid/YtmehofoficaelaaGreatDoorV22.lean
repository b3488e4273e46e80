/- 22 -/
import Derived.Test.YtmehofoficaelaaGreatDoorV21
set_option linter.all false
namespace Go.Proofs.YtmehofoficaelaaGreatDoor
open Go Go.AL Classical
set_option maxRecDepth 10000
set_option maxHeartbeats 8000000
def Pr{os:List gY}{q:Pos}:q∈kz os↔⟨q,true⟩∈os:=by
 unfold kz;rw[az];constructor
 .rintro⟨⟨p,t⟩,h,rfl⟩;rw[aS]at h;have:=h.2;dsimp only at this;subst this;exact h.1
 .intro h;exact⟨_,aS.2 ⟨h,rfl⟩,rfl⟩
def ahO{g:gq}{p:Pos}(d:¬ended g p){os:List gY}(a:∀o,o∈os↔o∈qu g p)(c:g.oQ=true)(h:kz os≠[]):kN (kz os)=iY g p:=by refine S2 (CM _) λq=>?_;obtain⟨x,r,e⟩:=eY h;have b:⟨x,true⟩∈qu g p:=(a _).1 (Pr.1 (by rw[e];simp));rw[wB,Pr,a,rJ,if_pos ⟨c,_,b,rfl⟩];exact⟨λh=>⟨IB d,h⟩,λh=>h.2⟩
def ahN{g:gq}{p:Pos}(c:iC g p)(i:¬ended g p){os:List gY}(b:∀o,o∈os↔o∈qu g p)(f:¬(g.oQ=true/\kz os≠[])):kN (mz os++kN (nc p))=iY g p:=by
 refine S2 (CM _) λq=>?_
 have d:¬(g.oQ=true/\∃o∈qu g p,o.jY=true):=λ⟨a,o,h,t⟩=>f ⟨a,λe=>by
  have:o.p∈kz os:=Pr.2 ((b _).2 (by obtain⟨x,y⟩:=o;dsimp only at t;subst t;exact h))
  rw[e]at this;cases this⟩
 rw[wB,aj,wB,MX c,rJ,if_neg d]
 have:q∈mz os↔∃o∈qu g p,o.p=q:=by unfold mz;rw[az];exact⟨λ⟨o,h,e⟩=>⟨o,(b o).1 h,e⟩,λ⟨o,h,e⟩=>⟨o,(b o).2 h,e⟩⟩
 rw[this];exact⟨λh=>⟨IB i,h⟩,λh=>h.2⟩
def f47(g:gq)(p:Pos):Wf T 148 [dG g,dP p] [] (Is (.fn (.func 213) [] [.gC p.cells,.gC g.cells])):=by refine Yg LG ?_;simp[LG]
def f26(g:gq)(hg:gR g)(p:Pos)(m:iC g p):Wf T 94 [dG g,dP p] [] (Is (dN 5 Pos.cells (iY g p))):=by
 refine Yz FH (kK 41 [1040] FH.body) ?_;simp[FH,ji,kK,nq,nA,nR,mm];refine Yq (f46 g hg p m) λn F=>?_;simp
 by_cases t:ended g p
 .simp[t];rw[Ou t];rfl
 .simp[t];refine gh ?_;refine Yc (f47 g p) ?_;simp;refine tv.r (f:=213) (first:=[]) (cap:=[.gC p.cells,.gC g.cells]) rfl rfl rfl rfl ?_;simp;refine Wf.mono (f83 g hg p m) ?_;rintro _ H' ⟨os,w,z,rfl⟩;have h:=UK os;have G:=abj os
  have v:∀q∈mz os,Small q:=λq i=>by obtain⟨o,B,rfl⟩:=az.1 i;exact(OM hg m ((w o).1 B)).small hg
  have D:∀q∈kz os,Small q:=λq i=>v q (az.2 ⟨_,Pr.1 i,rfl⟩)
  have r:∀q∈kN (nc p),Small q:=λq i=>by rw[wB,MX m]at i;exact(Gu m i).small hg
  have E:(kN (nc p)).length<=18:=Nat.le_trans (Pe _) (Qb hg m);have A:=ahO (p:=p) t w;have s:=ahN m t w;refine⟨[(7,.ptr 2 0 0),(8,.ptr 3 0 0)],.ready,?_,?_⟩
  .by_cases h1:os = []
   .subst h1;rw[Em];simp
   .by_cases k:kz os = []
    .rw[yx g p h1 k];simp
    .rw[tQ g p h1 k];simp
  have l:=f49 g hg p m
  by_cases h1:os = []
  .subst h1;rw[Em];cases b:g.oQ
   .simp only[dG,gq.cells,b]at l;simp[b,h];refine gh ?_;refine Yt (l) ?_;simp;refine gh ?_;have a:=s (by simp[kz])
    by_cases j:kN (nc p) = []
    .rw[j]at a;simp[j];refine wT.c rfl rfl (f48 [] fZ fZ) rfl fZ ?_;simp[mz]at a;simp[a]
    .have y:0<(kN (nc p)).length:=ay.2 j;simp[mz]at a;have c:=f48 (kN (nc p)) r U;rw[<-wY j,a]at c;simp[j];refine gh ?_;refine pK.z (d:=dN 5 Pos.cells (iY g p)) 5 rfl rfl c fZ fZ (by simp[rowsOf]) fZ fZ ?_;simp
   .simp only[dG,gq.cells,b]at l;simp[b,h];refine gh ?_;refine Yt (l) ?_;simp;refine gh ?_;have a:=s (by simp[kz])
    by_cases j:kN (nc p) = []
    .rw[j]at a;simp[j];refine wT.c rfl rfl (f48 [] fZ fZ) rfl fZ ?_;simp[mz]at a;simp[a]
    .have y:0<(kN (nc p)).length:=ay.2 j;simp[mz]at a;have c:=f48 (kN (nc p)) r U;rw[<-wY j,a]at c;simp[j];refine gh ?_;refine pK.z (d:=dN 5 Pos.cells (iY g p)) 5 rfl rfl c fZ fZ (by simp[rowsOf]) fZ fZ ?_;simp
  .by_cases k:kz os = []
   .rw[yx g p h1 k];cases b:g.oQ
    .simp only[dG,gq.cells,b]at l;simp[b,h];refine gh ?_;refine Yt (l) ?_;simp;refine gh ?_;have a:=s (by simp[k]);have u:mz os++kN (nc p)≠[]:=λe=>h1 (by have:=(ei.1 e).1;simpa[mz]using this);have c:=f48 (mz os++kN (nc p)) (λq i=>(aj.1 i).elim (v q) (r q)) gL;rw[<-wY u,a]at c;refine pK.z (d:=dN 5 Pos.cells (iY g p)) 4 rfl rfl c (by simp[h]) (by simp[h]) (by simp[rowsOf]) fZ fZ ?_;simp
    .simp only[dG,gq.cells,b]at l;simp[b,h,k];refine gh ?_;refine Yt (l) ?_;simp;refine gh ?_;have a:=s (by simp[k]);have u:mz os++kN (nc p)≠[]:=λe=>h1 (by have:=(ei.1 e).1;simpa[mz]using this);have c:=f48 (mz os++kN (nc p)) (λq i=>(aj.1 i).elim (v q) (r q)) gL;rw[<-wY u,a]at c;refine pK.z (d:=dN 5 Pos.cells (iY g p)) 4 rfl rfl c (by simp[h]) (by simp[h]) (by simp[rowsOf]) fZ fZ ?_;simp
   .rw[tQ g p h1 k];cases b:g.oQ
    .simp only[dG,gq.cells,b]at l;simp[b,h];refine gh ?_;refine Yt (l) ?_;simp;refine gh ?_;have a:=s (by simp[b]);have u:mz os++kN (nc p)≠[]:=λe=>h1 (by have:=(ei.1 e).1;simpa[mz]using this);have c:=f48 (mz os++kN (nc p)) (λq i=>(aj.1 i).elim (v q) (r q)) gL;rw[<-wY u,a]at c;refine pK.z (d:=dN 5 Pos.cells (iY g p)) 4 rfl rfl c (by simp[h]) (by simp[h]) (by simp[rowsOf]) fZ fZ ?_;simp
    .have C:0<(kz os).length:=ay.2 k;simp[b,h,C];refine gh ?_;refine gy.c (x:=dN 5 Pos.cells (kN (kz os))) rfl rfl (by rw[wY k];exact f48 (kz os) D U) fZ fZ ?_;simp[A b k]
