/- Part 22 of DisputeSettles. -/
import Derived.Test.YtmehofoficaelaaGreatDoorS21
set_option linter.all false
namespace Go.Proofs.YtmehofoficaelaaGreatDoor
open Go Go.AL Classical
set_option maxRecDepth 10000
set_option maxHeartbeats 8000000
def P0{os:List gQ}{q:Pos}:q∈kl os↔⟨q,true⟩∈os:=by
 unfold kl;rw[List.mem_map];constructor
 .rintro⟨⟨p,t⟩,h,rfl⟩;rw[aL]at h;have:=h.2;dsimp only at this;subst this;exact h.1
 .intro h;exact⟨_,aL.2 ⟨h,rfl⟩,rfl⟩
def aiE{g:gj}{p:Pos}(d:¬ended g p){os:List gQ}(a:∀o,o∈os↔o∈qn g p)(c:g.oH=true)(h:kl os≠[]):kI (kl os)=iW g p:=by refine TM (C2 _) λq=>?_;obtain⟨x,r,e⟩:=e7 h;have b:⟨x,true⟩∈qn g p:=(a _).1 (P0.1 (by rw[e];simp));rw[wK,P0,a,rH,if_pos ⟨c,_,b,rfl⟩];exact⟨λh=>⟨IU d,h⟩,λh=>h.2⟩
def aiD{g:gj}{p:Pos}(c:iz g p)(i:¬ended g p){os:List gQ}(b:∀o,o∈os↔o∈qn g p)(f:¬(g.oH=true/\kl os≠[])):kI (mq os++kI (nf p))=iW g p:=by
 refine TM (C2 _) λq=>?_
 have d:¬(g.oH=true/\∃o∈qn g p,o.jM=true):=λ⟨a,o,h,t⟩=>f ⟨a,λe=>by
  have:o.p∈kl os:=P0.2 ((b _).2 (by obtain⟨x,y⟩:=o;dsimp only at t;subst t;exact h))
  rw[e]at this;cases this⟩
 rw[wK,List.mem_append,wK,Ns c,rH,if_neg d]
 have:q∈mq os↔∃o∈qn g p,o.p=q:=by unfold mq;rw[List.mem_map];exact⟨λ⟨o,h,e⟩=>⟨o,(b o).1 h,e⟩,λ⟨o,h,e⟩=>⟨o,(b o).2 h,e⟩⟩
 rw[this];exact⟨λh=>⟨IU i,h⟩,λh=>h.2⟩
def f47(g:gj)(p:Pos):Wf T 148 [dG g,dP p] [] (Is (.fn (.func 213) [] [.gC p.cells,.gC g.cells])):=by refine Yg Mg ?_;simp[Mg]
def f26(g:gj)(hg:gU g)(p:Pos)(m:iz g p):Wf T 94 [dG g,dP p] [] (Is (dN 5 Pos.cells (iW g p))):=by
 refine Yz FR (kq 41 [1040] FR.body) ?_;simp[FR,iV,kq,nb,ng,nD,lV];refine Yq (f46 g hg p m) λn F=>?_;simp
 by_cases t:ended g p
 .simp[t];rw[O5 t];rfl
 .simp[t];refine gf ?_;refine Yc (f47 g p) ?_;simp;refine tC.r (f:=213) (first:=[]) (cap:=[.gC p.cells,.gC g.cells]) rfl rfl rfl rfl ?_;simp;refine Wf.mono (f83 g hg p m) ?_;rintro _ H' ⟨os,w,y,rfl⟩;have h:=Vx os;have G:=ab1 os
  have v:∀q∈mq os,Small q:=λq i=>by obtain⟨o,A,rfl⟩:=List.mem_map.1 i;exact(Ph hg m ((w o).1 A)).small hg
  have C:∀q∈kl os,Small q:=λq i=>v q (List.mem_map.2 ⟨_,P0.1 i,rfl⟩)
  have r:∀q∈kI (nf p),Small q:=λq i=>by rw[wK,Ns m]at i;exact(GN m i).small hg
  have D:(kI (nf p)).length<=18:=Nat.le_trans (PM _) (QQ hg m);have z:=aiE (p:=p) t w;have s:=aiD m t w;refine⟨[(7,.ptr 2 0 0),(8,.ptr 3 0 0)],.ready,?_,?_⟩
  .by_cases h1:os = []
   .subst h1;rw[Et];simp
   .by_cases k:kl os = []
    .rw[yD g p h1 k];simp
    .rw[tY g p h1 k];simp
  have l:=f49 g hg p m
  by_cases h1:os = []
  .subst h1;rw[Et];cases b:g.oH
   .simp only[dG,gj.cells,b]at l;simp[b,h];refine gf ?_;refine Yt (l) ?_;simp;refine gf ?_;have a:=s (by simp[kl])
    by_cases j:kI (nf p) = []
    .rw[j]at a;simp[j];refine wZ.c rfl rfl (f48 [] (by simp) (by simp)) rfl (by simp) ?_;simp[mq]at a;simp[a]
    .have E:0<(kI (nf p)).length:=aw.2 j;simp[mq]at a;have c:=f48 (kI (nf p)) r (by omega);rw[<-w8 j,a]at c;simp[j];refine gf ?_;refine uK.z (d:=dN 5 Pos.cells (iW g p)) 5 rfl rfl c (by simp) (by simp) (by simp[rowsOf]) (by simp) (by simp) ?_;simp
   .simp only[dG,gj.cells,b]at l;simp[b,h];refine gf ?_;refine Yt (l) ?_;simp;refine gf ?_;have a:=s (by simp[kl])
    by_cases j:kI (nf p) = []
    .rw[j]at a;simp[j];refine wZ.c rfl rfl (f48 [] (by simp) (by simp)) rfl (by simp) ?_;simp[mq]at a;simp[a]
    .have E:0<(kI (nf p)).length:=aw.2 j;simp[mq]at a;have c:=f48 (kI (nf p)) r (by omega);rw[<-w8 j,a]at c;simp[j];refine gf ?_;refine uK.z (d:=dN 5 Pos.cells (iW g p)) 5 rfl rfl c (by simp) (by simp) (by simp[rowsOf]) (by simp) (by simp) ?_;simp
  .by_cases k:kl os = []
   .rw[yD g p h1 k];cases b:g.oH
    .simp only[dG,gj.cells,b]at l;simp[b,h];refine gf ?_;refine Yt (l) ?_;simp;refine gf ?_;have a:=s (by simp[k]);have u:mq os++kI (nf p)≠[]:=λe=>h1 (by have:=(ey.1 e).1;simpa[mq]using this);have c:=f48 (mq os++kI (nf p)) (λq i=>(List.mem_append.1 i).elim (v q) (r q)) (by simp;omega);rw[<-w8 u,a]at c;refine uK.z (d:=dN 5 Pos.cells (iW g p)) 4 rfl rfl c (by simp[h]) (by simp[h]) (by simp[rowsOf]) (by simp) (by simp) ?_;simp
    .simp only[dG,gj.cells,b]at l;simp[b,h,k];refine gf ?_;refine Yt (l) ?_;simp;refine gf ?_;have a:=s (by simp[k]);have u:mq os++kI (nf p)≠[]:=λe=>h1 (by have:=(ey.1 e).1;simpa[mq]using this);have c:=f48 (mq os++kI (nf p)) (λq i=>(List.mem_append.1 i).elim (v q) (r q)) (by simp;omega);rw[<-w8 u,a]at c;refine uK.z (d:=dN 5 Pos.cells (iW g p)) 4 rfl rfl c (by simp[h]) (by simp[h]) (by simp[rowsOf]) (by simp) (by simp) ?_;simp
   .rw[tY g p h1 k];cases b:g.oH
    .simp only[dG,gj.cells,b]at l;simp[b,h];refine gf ?_;refine Yt (l) ?_;simp;refine gf ?_;have a:=s (by simp[b]);have u:mq os++kI (nf p)≠[]:=λe=>h1 (by have:=(ey.1 e).1;simpa[mq]using this);have c:=f48 (mq os++kI (nf p)) (λq i=>(List.mem_append.1 i).elim (v q) (r q)) (by simp;omega);rw[<-w8 u,a]at c;refine uK.z (d:=dN 5 Pos.cells (iW g p)) 4 rfl rfl c (by simp[h]) (by simp[h]) (by simp[rowsOf]) (by simp) (by simp) ?_;simp
    .have B:0<(kl os).length:=aw.2 k;simp[b,h,B];refine gf ?_;refine gx.c (x:=dN 5 Pos.cells (kI (kl os))) rfl rfl (by rw[w8 k];exact f48 (kl os) C (by omega)) (by simp) (by simp) ?_;simp[z b k]
