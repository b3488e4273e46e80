/- Part 22 of DisputeWorkers. -/
import Derived.Test.YtmehofoficaelaaGreatDoorW21
set_option linter.all false
namespace Go.Proofs.YtmehofoficaelaaGreatDoor
open Go Go.AL Classical
set_option maxRecDepth 10000
set_option maxHeartbeats 8000000
theorem Pk{os:List gQ}{q:Pos}:q∈km os↔⟨q,true⟩∈os:=by
 unfold km;rw[ar];constructor
 .rintro⟨⟨p,t⟩,h,rfl⟩;rw[aN]at h;have:=h.2;dsimp only at this;subst this;exact h.1
 .intro h;exact⟨_,aN.2 ⟨h,rfl⟩,rfl⟩
theorem ahK{g:gi}{p:Pos}(d:¬ended g p){os:List gQ}(a:∀o,o∈os↔o∈qp g p)(c:g.oK=true)(h:km os≠[]):kJ (km os)=iS g p:=by refine S1 (CL _) λq=>?_;obtain⟨x,r,e⟩:=eX h;have b:⟨x,true⟩∈qp g p:=(a _).1 (Pk.1 (by rw[e];simp));rw[wB,Pk,a,rH,if_pos ⟨c,_,b,rfl⟩];exact⟨λh=>⟨Ip d,h⟩,λh=>h.2⟩
theorem ahJ{g:gi}{p:Pos}(c:iw g p)(i:¬ended g p){os:List gQ}(b:∀o,o∈os↔o∈qp g p)(f:¬(g.oK=true/\km os≠[])):kJ (mm os++kJ (nb p))=iS g p:=by
 refine S1 (CL _) λq=>?_
 have d:¬(g.oK=true/\∃o∈qp g p,o.jN=true):=λ⟨a,o,h,t⟩=>f ⟨a,λe=>by
  have:o.p∈km os:=Pk.2 ((b _).2 (by obtain⟨x,y⟩:=o;dsimp only at t;subst t;exact h))
  rw[e]at this;cases this⟩
 rw[wB,List.mem_append,wB,MZ c,rH,if_neg d]
 have:q∈mm os↔∃o∈qp g p,o.p=q:=by unfold mm;rw[ar];exact⟨λ⟨o,h,e⟩=>⟨o,(b o).1 h,e⟩,λ⟨o,h,e⟩=>⟨o,(b o).2 h,e⟩⟩
 rw[this];exact⟨λh=>⟨Ip i,h⟩,λh=>h.2⟩
theorem f47(g:gi)(p:Pos):Wf T 148 [dG g,dP p] [] (Is (.fn (.func 213) [] [.gu p.cells,.gu g.cells])):=by refine Yg LL ?_;simp[LL]
theorem f26(g:gi)(hg:gV g)(p:Pos)(m:iw g p):Wf T 94 [dG g,dP p] [] (Is (dN 5 Pos.cells (iS g p))):=by
 refine Yz Fv (kD 41 [1040] Fv.body) ?_;simp[Fv,iZ,kD,np,nz,nP,ma];refine Yq (f46 g hg p m) λn F=>?_;simp
 by_cases t:ended g p
 .simp[t];rw[Ot t];rfl
 .simp[t];refine gd ?_;refine Yc (f47 g p) ?_;simp;refine sT.r (f:=213) (first:=[]) (cap:=[.gu p.cells,.gu g.cells]) rfl rfl rfl rfl ?_;simp;refine Wf.mono (f83 g hg p m) ?_;rintro _ H' ⟨os,w,z,rfl⟩;have h:=UM os;have G:=aa8 os
  have v:∀q∈mm os,Small q:=λq i=>by obtain⟨o,B,rfl⟩:=ar.1 i;exact(OH hg m ((w o).1 B)).small hg
  have D:∀q∈km os,Small q:=λq i=>v q (ar.2 ⟨_,Pk.1 i,rfl⟩)
  have r:∀q∈kJ (nb p),Small q:=λq i=>by rw[wB,MZ m]at i;exact(Gk m i).small hg
  have E:(kJ (nb p)).length<=18:=Nat.le_trans (O9 _) (P9 hg m);have A:=ahK (p:=p) t w;have s:=ahJ m t w;refine⟨[(7,.ptr 2 0 0),(8,.ptr 3 0 0)],.ready,?_,?_⟩
  .by_cases h1:os = []
   .subst h1;rw[Ea];simp
   .by_cases k:km os = []
    .rw[yv g p h1 k];simp
    .rw[tS g p h1 k];simp
  have l:=f49 g hg p m
  by_cases h1:os = []
  .subst h1;rw[Ea];cases b:g.oK
   .simp only[dG,gi.cells,b]at l;simp[b,h];refine gd ?_;refine Yt (l) ?_;simp;refine gd ?_;have a:=s (by simp[km])
    by_cases j:kJ (nb p) = []
    .rw[j]at a;simp[j];refine pK.c rfl rfl (f48 [] (by simp) (by simp)) rfl (by simp) ?_;simp[mm]at a;simp[a]
    .have y:0<(kJ (nb p)).length:=ax.2 j;simp[mm]at a;have c:=f48 (kJ (nb p)) r (by omega);rw[<-wS j,a]at c;simp[j];refine gd ?_;refine uF.z (d:=dN 5 Pos.cells (iS g p)) 5 rfl rfl c (by simp) (by simp) (by simp[rowsOf]) (by simp) (by simp) ?_;simp
   .simp only[dG,gi.cells,b]at l;simp[b,h];refine gd ?_;refine Yt (l) ?_;simp;refine gd ?_;have a:=s (by simp[km])
    by_cases j:kJ (nb p) = []
    .rw[j]at a;simp[j];refine pK.c rfl rfl (f48 [] (by simp) (by simp)) rfl (by simp) ?_;simp[mm]at a;simp[a]
    .have y:0<(kJ (nb p)).length:=ax.2 j;simp[mm]at a;have c:=f48 (kJ (nb p)) r (by omega);rw[<-wS j,a]at c;simp[j];refine gd ?_;refine uF.z (d:=dN 5 Pos.cells (iS g p)) 5 rfl rfl c (by simp) (by simp) (by simp[rowsOf]) (by simp) (by simp) ?_;simp
  .by_cases k:km os = []
   .rw[yv g p h1 k];cases b:g.oK
    .simp only[dG,gi.cells,b]at l;simp[b,h];refine gd ?_;refine Yt (l) ?_;simp;refine gd ?_;have a:=s (by simp[k]);have u:mm os++kJ (nb p)≠[]:=λe=>h1 (by have:=(ef.1 e).1;simpa[mm]using this);have c:=f48 (mm os++kJ (nb p)) (λq i=>(List.mem_append.1 i).elim (v q) (r q)) (by simp;omega);rw[<-wS u,a]at c;refine uF.z (d:=dN 5 Pos.cells (iS g p)) 4 rfl rfl c (by simp[h]) (by simp[h]) (by simp[rowsOf]) (by simp) (by simp) ?_;simp
    .simp only[dG,gi.cells,b]at l;simp[b,h,k];refine gd ?_;refine Yt (l) ?_;simp;refine gd ?_;have a:=s (by simp[k]);have u:mm os++kJ (nb p)≠[]:=λe=>h1 (by have:=(ef.1 e).1;simpa[mm]using this);have c:=f48 (mm os++kJ (nb p)) (λq i=>(List.mem_append.1 i).elim (v q) (r q)) (by simp;omega);rw[<-wS u,a]at c;refine uF.z (d:=dN 5 Pos.cells (iS g p)) 4 rfl rfl c (by simp[h]) (by simp[h]) (by simp[rowsOf]) (by simp) (by simp) ?_;simp
   .rw[tS g p h1 k];cases b:g.oK
    .simp only[dG,gi.cells,b]at l;simp[b,h];refine gd ?_;refine Yt (l) ?_;simp;refine gd ?_;have a:=s (by simp[b]);have u:mm os++kJ (nb p)≠[]:=λe=>h1 (by have:=(ef.1 e).1;simpa[mm]using this);have c:=f48 (mm os++kJ (nb p)) (λq i=>(List.mem_append.1 i).elim (v q) (r q)) (by simp;omega);rw[<-wS u,a]at c;refine uF.z (d:=dN 5 Pos.cells (iS g p)) 4 rfl rfl c (by simp[h]) (by simp[h]) (by simp[rowsOf]) (by simp) (by simp) ?_;simp
    .have C:0<(km os).length:=ax.2 k;simp[b,h,C];refine gd ?_;refine gx.c (x:=dN 5 Pos.cells (kJ (km os))) rfl rfl (by rw[wS k];exact f48 (km os) D (by omega)) (by simp) (by simp) ?_;simp[A b k]
