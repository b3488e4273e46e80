/- Part 22 of DisputeMatchesReference. -/
import Derived.Test.YtmehofoficaelaaGreatDoorM21
set_option linter.all false
namespace Go.Proofs.YtmehofoficaelaaGreatDoor
open Go Go.AL Classical
set_option maxRecDepth 10000
set_option maxHeartbeats 8000000
def QG{os:List ij}{q:Pos}:q∈kT os↔⟨q,true⟩∈os:=by
 unfold kT;rw[au];constructor
 .rintro⟨⟨p,t⟩,h,rfl⟩;rw[aO]at h;have:=h.2;dsimp only at this;subst this;exact h.1
 .intro h;exact⟨_,aO.2 ⟨h,rfl⟩,rfl⟩
def aje{g:gv}{p:Pos}(d:¬ended g p){os:List ij}(a:∀o,o∈os↔o∈sj g p)(c:g.pI=true)(h:kT os≠[]):lA (kT os)=jb g p:=by refine Uo (DU _) λq=>?_;obtain⟨x,r,e⟩:=ff h;have b:⟨x,true⟩∈sj g p:=(a _).1 (QG.1 (by rw[e];simp));rw[xQ,QG,a,s0,if_pos ⟨c,_,b,rfl⟩];exact⟨λh=>⟨Ju d,h⟩,λh=>h.2⟩
def ajd{g:gv}{p:Pos}(c:iI g p)(i:¬ended g p){os:List ij}(b:∀o,o∈os↔o∈sj g p)(f:¬(g.pI=true/\kT os≠[])):lA (nf os++lA (oi p))=jb g p:=by
 refine Uo (DU _) λq=>?_
 have d:¬(g.pI=true/\∃o∈sj g p,o.kn=true):=λ⟨a,o,h,t⟩=>f ⟨a,λe=>by
  have:o.p∈kT os:=QG.2 ((b _).2 (by obtain⟨x,y⟩:=o;dsimp only at t;subst t;exact h))
  rw[e]at this;cases this⟩
 rw[xQ,aj,xQ,N7 c,s0,if_neg d]
 have:q∈nf os↔∃o∈sj g p,o.p=q:=by unfold nf;rw[au];exact⟨λ⟨o,h,e⟩=>⟨o,(b o).1 h,e⟩,λ⟨o,h,e⟩=>⟨o,(b o).2 h,e⟩⟩
 rw[this];exact⟨λh=>⟨Ju i,h⟩,λh=>h.2⟩
def f47(g:gv)(p:Pos):Wf T 148 [dG g,dP p] [] (Is (.fn (.func 213) [] [.gH p.cells,.gH g.cells])):=by refine Yg MX ?_;simp[MX]
def f26(g:gv)(hg:gZ g)(p:Pos)(m:iI g p):Wf T 94 [dG g,dP p] [] (Is (dN 5 Pos.cells (jb g p))):=by
 refine Yz GQ (kS 41 [1040] GQ.body) ?_;simp[GQ,jm,kS,nR,nU,oo,mm];refine Yq (f46 g hg p m) λn G=>?_;simp
 by_cases t:ended g p
 .simp[t];rw[PK t];rfl
 .simp[t];refine gi ?_;refine Yc (f47 g p) ?_;simp;refine uP.r (f:=213) (first:=[]) (cap:=[.gH p.cells,.gH g.cells]) rfl rfl rfl rfl ?_;simp;refine Wf.mono (f83 g hg p m) ?_;rintro _ H' ⟨os,w,z,rfl⟩;have h:=V6 os;have F:=acS os
  have v:∀q∈nf os,Small q:=λq i=>by obtain⟨o,B,rfl⟩:=au.1 i;exact(P4 hg m ((w o).1 B)).small hg
  have D:∀q∈kT os,Small q:=λq i=>v q (au.2 ⟨_,QG.1 i,rfl⟩)
  have s:∀q∈lA (oi p),Small q:=λq i=>by rw[xQ,N7 m]at i;exact(HP m i).small hg
  have E:(lA (oi p)).length<=18:=Nat.le_trans (Qu _) (Ru hg m);have A:=aje (p:=p) t w;have r:=ajd m t w;refine⟨[(7,.ptr 2 0 0),(8,.ptr 3 0 0)],.ready,?_,?_⟩
  .by_cases h1:os = []
   .subst h1;rw[Fw];simp
   .by_cases k:kT os = []
    .rw[zA g p h1 k];simp
    .rw[ve g p h1 k];simp
  have l:=f49 g hg p m
  by_cases h1:os = []
  .subst h1;rw[Fw];cases b:g.pI
   .simp only[dG,gv.cells,b]at l;simp[b,h];refine gi ?_;refine Yt (l) ?_;simp;refine gi ?_;have a:=r (by simp[kT])
    by_cases j:lA (oi p) = []
    .rw[j]at a;simp[j];refine vQ.c rfl rfl (f48 [] gf gf) rfl gf ?_;simp[nf]at a;simp[a]
    .have y:0<(lA (oi p)).length:=ao.2 j;simp[nf]at a;have c:=f48 (lA (oi p)) s U;rw[<-ya j,a]at c;simp[j];refine gi ?_;refine vR.z (d:=dN 5 Pos.cells (jb g p)) 5 rfl rfl c gf gf (by simp[rowsOf]) gf gf ?_;simp
   .simp only[dG,gv.cells,b]at l;simp[b,h];refine gi ?_;refine Yt (l) ?_;simp;refine gi ?_;have a:=r (by simp[kT])
    by_cases j:lA (oi p) = []
    .rw[j]at a;simp[j];refine vQ.c rfl rfl (f48 [] gf gf) rfl gf ?_;simp[nf]at a;simp[a]
    .have y:0<(lA (oi p)).length:=ao.2 j;simp[nf]at a;have c:=f48 (lA (oi p)) s U;rw[<-ya j,a]at c;simp[j];refine gi ?_;refine vR.z (d:=dN 5 Pos.cells (jb g p)) 5 rfl rfl c gf gf (by simp[rowsOf]) gf gf ?_;simp
  .by_cases k:kT os = []
   .rw[zA g p h1 k];cases b:g.pI
    .simp only[dG,gv.cells,b]at l;simp[b,h];refine gi ?_;refine Yt (l) ?_;simp;refine gi ?_;have a:=r (by simp[k]);have u:nf os++lA (oi p)≠[]:=λe=>h1 (by have:=(eD.1 e).1;simpa[nf]using this);have c:=f48 (nf os++lA (oi p)) (λq i=>(aj.1 i).elim (v q) (s q)) gO;rw[<-ya u,a]at c;refine vR.z (d:=dN 5 Pos.cells (jb g p)) 4 rfl rfl c (by simp[h]) (by simp[h]) (by simp[rowsOf]) gf gf ?_;simp
    .simp only[dG,gv.cells,b]at l;simp[b,h,k];refine gi ?_;refine Yt (l) ?_;simp;refine gi ?_;have a:=r (by simp[k]);have u:nf os++lA (oi p)≠[]:=λe=>h1 (by have:=(eD.1 e).1;simpa[nf]using this);have c:=f48 (nf os++lA (oi p)) (λq i=>(aj.1 i).elim (v q) (s q)) gO;rw[<-ya u,a]at c;refine vR.z (d:=dN 5 Pos.cells (jb g p)) 4 rfl rfl c (by simp[h]) (by simp[h]) (by simp[rowsOf]) gf gf ?_;simp
   .rw[ve g p h1 k];cases b:g.pI
    .simp only[dG,gv.cells,b]at l;simp[b,h];refine gi ?_;refine Yt (l) ?_;simp;refine gi ?_;have a:=r (by simp[b]);have u:nf os++lA (oi p)≠[]:=λe=>h1 (by have:=(eD.1 e).1;simpa[nf]using this);have c:=f48 (nf os++lA (oi p)) (λq i=>(aj.1 i).elim (v q) (s q)) gO;rw[<-ya u,a]at c;refine vR.z (d:=dN 5 Pos.cells (jb g p)) 4 rfl rfl c (by simp[h]) (by simp[h]) (by simp[rowsOf]) gf gf ?_;simp
    .have C:0<(kT os).length:=ao.2 k;simp[b,h,C];refine gi ?_;refine gE.c (x:=dN 5 Pos.cells (lA (kT os))) rfl rfl (by rw[ya k];exact f48 (kT os) D U) gf gf ?_;simp[A b k]
