/- 22 -/
import Derived.Test.YtmehofoficaelaaGreatDoorP21
set_option linter.all false
namespace Go.Proofs.YtmehofoficaelaaGreatDoor
open Go Go.AL Classical
set_option maxRecDepth 10000
set_option maxHeartbeats 8000000
def SN{os:List iJ}{q:Pos}:q∈lA os↔⟨q,true⟩∈os:=by
 unfold lA;rw[aj];constructor
 .rintro⟨⟨p,t⟩,h,rfl⟩;rw[aH]at h;have:=h.2;dsimp only at this;subst this;exact h.1
 .intro h;exact⟨_,aH.2 ⟨h,rfl⟩,rfl⟩
def amo{g:gY}{p:Pos}(d:¬ended g p){os:List iJ}(a:∀o,o∈os↔o∈su g p)(c:g.me=true)(h:lA os≠[]):lY (lA os)=kd g p:=by refine WI (E5 _) λq=>?_;obtain⟨x,r,e⟩:=fJ h;have b:⟨x,true⟩∈su g p:=(a _).1 (SN.1 (by rw[e];simp));rw[yx,SN,a,sP,if_pos ⟨c,_,b,rfl⟩];exact⟨λh=>⟨Ln d,h⟩,λh=>h.2⟩
def amn{g:gY}{p:Pos}(c:ja g p)(i:¬ended g p){os:List iJ}(b:∀o,o∈os↔o∈su g p)(f:¬(g.me=true/\lA os≠[])):lY (nM os++lY (oU p))=kd g p:=by
 refine WI (E5 _) λq=>?_
 have d:¬(g.me=true/\∃o∈su g p,o.kP=true):=λ⟨a,o,h,t⟩=>f ⟨a,λe=>by
  have:o.p∈lA os:=SN.2 ((b _).2 (by obtain⟨x,y⟩:=o;dsimp only at t;subst t;exact h))
  rw[e]at this;cases this⟩
 rw[yx,ai,yx,P' c,sP,if_neg d]
 have:q∈nM os↔∃o∈su g p,o.p=q:=by unfold nM;rw[aj];exact⟨λ⟨o,h,e⟩=>⟨o,(b o).1 h,e⟩,λ⟨o,h,e⟩=>⟨o,(b o).2 h,e⟩⟩
 rw[this];exact⟨λh=>⟨Ln i,h⟩,λh=>h.2⟩
def f47(g:gY)(p:Pos):Wf T 148 [dG g,dP p] [] (Is (.fn (.func 213) [] [.ie p.cells,.ie g.cells])):=by refine Yg OY ?_;simp[OY]
def f26(g:gY)(hg:iE g)(p:Pos)(m:ja g p):Wf T 94 [dG g,dP p] [] (Is (dN 5 Pos.cells (kd g p))):=by
 refine Yz IC (lV 41 [1040] IC.body) ?_;simp[IC,jY,lV,po,py,pY,nQ];refine Yq (f46 g hg p m) λn F=>?_;simp
 by_cases t:ended g p
 .simp[t];rw[WH t];rfl
 .simp[t];refine gU ?_;refine Yc (f47 g p) ?_;simp;refine sT.r (f:=213) (first:=[]) (cap:=[.ie p.cells,.ie g.cells]) rfl rfl rfl rfl ?_;simp;refine Wf.mono (f83 g hg p m) ?_;rintro _ H' ⟨os,w,z,rfl⟩;have h:=Y8 os;have G:=ae3 os
  have v:∀q∈nM os,Small q:=λq i=>by obtain⟨o,C,rfl⟩:=aj.1 i;exact(R9 hg m ((w o).1 C)).small hg
  have B:∀q∈lA os,Small q:=λq i=>v q (aj.2 ⟨_,SN.1 i,rfl⟩)
  have s:∀q∈lY (oU p),Small q:=λq i=>by rw[yx,P' m]at i;exact(Jt m i).small hg
  have E:(lY (oU p)).length<=18:=Nat.le_trans (SC _) (TK hg m);have A:=amo (p:=p) t w;have r:=amn m t w;refine⟨[(7,.ptr 2 0 0),(8,.ptr 3 0 0)],.ready,?_,?_⟩
  .by_cases h1:os = []
   .subst h1;rw[GL];simp
   .by_cases k:lA os = []
    .rw[Ar g p h1 k];simp
    .rw[wv g p h1 k];simp
  have l:=f49 g hg p m
  by_cases h1:os = []
  .subst h1;rw[GL];cases b:g.me
   .simp only[dG,gY.cells,b]at l;simp[b,h];refine gU ?_;refine Yt (l) ?_;simp;refine gU ?_;have a:=r (by simp[lA])
    by_cases j:lY (oU p) = []
    .rw[j]at a;simp[j];refine rX.c rfl rfl (f48 [] gP gP) rfl gP ?_;simp[nM]at a;simp[a]
    .have y:0<(lY (oU p)).length:=ay.2 j;simp[nM]at a;have c:=f48 (lY (oU p)) s U;rw[<-yU j,a]at c;simp[j];refine gU ?_;refine wW.z (d:=dN 5 Pos.cells (kd g p)) 5 rfl rfl c gP gP (by simp[rowsOf]) gP gP ?_;simp
   .simp only[dG,gY.cells,b]at l;simp[b,h];refine gU ?_;refine Yt (l) ?_;simp;refine gU ?_;have a:=r (by simp[lA])
    by_cases j:lY (oU p) = []
    .rw[j]at a;simp[j];refine rX.c rfl rfl (f48 [] gP gP) rfl gP ?_;simp[nM]at a;simp[a]
    .have y:0<(lY (oU p)).length:=ay.2 j;simp[nM]at a;have c:=f48 (lY (oU p)) s U;rw[<-yU j,a]at c;simp[j];refine gU ?_;refine wW.z (d:=dN 5 Pos.cells (kd g p)) 5 rfl rfl c gP gP (by simp[rowsOf]) gP gP ?_;simp
  .by_cases k:lA os = []
   .rw[Ar g p h1 k];cases b:g.me
    .simp only[dG,gY.cells,b]at l;simp[b,h];refine gU ?_;refine Yt (l) ?_;simp;refine gU ?_;have a:=r (by simp[k]);have u:nM os++lY (oU p)≠[]:=λe=>h1 (by have:=(eV.1 e).1;simpa[nM]using this);have c:=f48 (nM os++lY (oU p)) (λq i=>(ai.1 i).elim (v q) (s q)) iz;rw[<-yU u,a]at c;refine wW.z (d:=dN 5 Pos.cells (kd g p)) 4 rfl rfl c (by simp[h]) (by simp[h]) (by simp[rowsOf]) gP gP ?_;simp
    .simp only[dG,gY.cells,b]at l;simp[b,h,k];refine gU ?_;refine Yt (l) ?_;simp;refine gU ?_;have a:=r (by simp[k]);have u:nM os++lY (oU p)≠[]:=λe=>h1 (by have:=(eV.1 e).1;simpa[nM]using this);have c:=f48 (nM os++lY (oU p)) (λq i=>(ai.1 i).elim (v q) (s q)) iz;rw[<-yU u,a]at c;refine wW.z (d:=dN 5 Pos.cells (kd g p)) 4 rfl rfl c (by simp[h]) (by simp[h]) (by simp[rowsOf]) gP gP ?_;simp
   .rw[wv g p h1 k];cases b:g.me
    .simp only[dG,gY.cells,b]at l;simp[b,h];refine gU ?_;refine Yt (l) ?_;simp;refine gU ?_;have a:=r (by simp[b]);have u:nM os++lY (oU p)≠[]:=λe=>h1 (by have:=(eV.1 e).1;simpa[nM]using this);have c:=f48 (nM os++lY (oU p)) (λq i=>(ai.1 i).elim (v q) (s q)) iz;rw[<-yU u,a]at c;refine wW.z (d:=dN 5 Pos.cells (kd g p)) 4 rfl rfl c (by simp[h]) (by simp[h]) (by simp[rowsOf]) gP gP ?_;simp
    .have D:0<(lA os).length:=ay.2 k;simp[b,h,D];refine gU ?_;refine ik.c (x:=dN 5 Pos.cells (lY (lA os))) rfl rfl (by rw[yU k];exact f48 (lA os) B U) gP gP ?_;simp[A b k]
