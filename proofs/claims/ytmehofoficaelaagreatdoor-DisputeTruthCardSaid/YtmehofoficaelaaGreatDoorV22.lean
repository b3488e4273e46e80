/- Part 22 of DisputeTruth. -/
import Derived.Test.YtmehofoficaelaaGreatDoorV21
set_option linter.all false
namespace Go.Proofs.YtmehofoficaelaaGreatDoor
open Go Go.AL Classical
set_option maxRecDepth 10000
set_option maxHeartbeats 8000000
theorem OH{os:List gJ}{q:Pos}:q∈kc os↔⟨q,true⟩∈os:=by
 unfold kc;rw[ao];constructor
 .rintro⟨⟨p,t⟩,h,rfl⟩;rw[aM]at h;have:=h.2;dsimp only at this;subst this;exact h.1
 .intro h;exact⟨_,aM.2 ⟨h,rfl⟩,rfl⟩
theorem ahe{g:fY}{p:Pos}(d:¬ended g p){os:List gJ}(a:∀o,o∈os↔o∈pY g p)(c:g.oi=true)(h:kc os≠[]):kz (kc os)=iJ g p:=by refine Sz (Cd _) λq=>?_;obtain⟨x,r,e⟩:=eT h;have b:⟨x,true⟩∈pY g p:=(a _).1 (OH.1 (by rw[e];simp));rw[vS,OH,a,qy,if_pos ⟨c,_,b,rfl⟩];exact⟨λh=>⟨HH d,h⟩,λh=>h.2⟩
theorem ahd{g:fY}{p:Pos}(c:ij g p)(i:¬ended g p){os:List gJ}(b:∀o,o∈os↔o∈pY g p)(f:¬(g.oi=true/\kc os≠[])):kz (ma os++kz (mP p))=iJ g p:=by
 refine Sz (Cd _) λq=>?_
 have d:¬(g.oi=true/\∃o∈pY g p,o.jF=true):=λ⟨a,o,h,t⟩=>f ⟨a,λe=>by
  have:o.p∈kc os:=OH.2 ((b _).2 (by obtain⟨x,y⟩:=o;dsimp only at t;subst t;exact h))
  rw[e]at this;cases this⟩
 rw[vS,List.mem_append,vS,Ml c,qy,if_neg d]
 have:q∈ma os↔∃o∈pY g p,o.p=q:=by unfold ma;rw[ao];exact⟨λ⟨o,h,e⟩=>⟨o,(b o).1 h,e⟩,λ⟨o,h,e⟩=>⟨o,(b o).2 h,e⟩⟩
 rw[this];exact⟨λh=>⟨HH i,h⟩,λh=>h.2⟩
theorem f47(g:fY)(p:Pos):Wf T 148 [dG g,dP p] [] (Is (.fn (.func 213) [] [.gi p.cells,.gi g.cells])):=by refine Yg K4 ?_;simp[K4]
theorem f26(g:fY)(hg:gN g)(p:Pos)(m:ij g p):Wf T 94 [dG g,dP p] [] (Is (dN 5 Pos.cells (iJ g p))):=by
 refine Yz EW (kh 41 [1040] EW.body) ?_;simp[EW,iO,kh,mN,mQ,nf,lK];refine Yq (f46 g hg p m) λn G=>?_;simp
 by_cases t:ended g p
 .simp[t];rw[NO t];rfl
 .simp[t];refine fQ ?_;refine Yc (f47 g p) ?_;simp;refine sZ.r (f:=213) (first:=[]) (cap:=[.gi p.cells,.gi g.cells]) rfl rfl rfl rfl ?_;simp;refine Wf.mono (f83 g hg p m) ?_;rintro _ H' ⟨os,w,z,rfl⟩;have h:=Ut os;have F:=aaS os
  have v:∀q∈ma os,Small q:=λq i=>by obtain⟨o,B,rfl⟩:=ao.1 i;exact(N2 hg m ((w o).1 B)).small hg
  have D:∀q∈kc os,Small q:=λq i=>v q (ao.2 ⟨_,OH.1 i,rfl⟩)
  have r:∀q∈kz (mP p),Small q:=λq i=>by rw[vS,Ml m]at i;exact(FO m i).small hg
  have E:(kz (mP p)).length<=18:=Nat.le_trans (Ox _) (PE hg m);have A:=ahe (p:=p) t w;have s:=ahd m t w;refine⟨[(7,.ptr 2 0 0),(8,.ptr 3 0 0)],.ready,?_,?_⟩
  .by_cases h1:os = []
   .subst h1;rw[DK];simp
   .by_cases k:kc os = []
    .rw[xX g p h1 k];simp
    .rw[tw g p h1 k];simp
  have l:=f49 g hg p m
  by_cases h1:os = []
  .subst h1;rw[DK];cases b:g.oi
   .simp only[dG,fY.cells,b]at l;simp[b,h];refine fQ ?_;refine Yt (l) ?_;simp;refine fQ ?_;have a:=s (by simp[kc])
    by_cases j:kz (mP p) = []
    .rw[j]at a;simp[j];refine wm.c rfl rfl (f48 [] (by simp) (by simp)) rfl (by simp) ?_;simp[ma]at a;simp[a]
    .have y:0<(kz (mP p)).length:=ax.2 j;simp[ma]at a;have c:=f48 (kz (mP p)) r (by omega);rw[<-wy j,a]at c;simp[j];refine fQ ?_;refine tY.z (d:=dN 5 Pos.cells (iJ g p)) 5 rfl rfl c (by simp) (by simp) (by simp[rowsOf]) (by simp) (by simp) ?_;simp
   .simp only[dG,fY.cells,b]at l;simp[b,h];refine fQ ?_;refine Yt (l) ?_;simp;refine fQ ?_;have a:=s (by simp[kc])
    by_cases j:kz (mP p) = []
    .rw[j]at a;simp[j];refine wm.c rfl rfl (f48 [] (by simp) (by simp)) rfl (by simp) ?_;simp[ma]at a;simp[a]
    .have y:0<(kz (mP p)).length:=ax.2 j;simp[ma]at a;have c:=f48 (kz (mP p)) r (by omega);rw[<-wy j,a]at c;simp[j];refine fQ ?_;refine tY.z (d:=dN 5 Pos.cells (iJ g p)) 5 rfl rfl c (by simp) (by simp) (by simp[rowsOf]) (by simp) (by simp) ?_;simp
  .by_cases k:kc os = []
   .rw[xX g p h1 k];cases b:g.oi
    .simp only[dG,fY.cells,b]at l;simp[b,h];refine fQ ?_;refine Yt (l) ?_;simp;refine fQ ?_;have a:=s (by simp[k]);have u:ma os++kz (mP p)≠[]:=λe=>h1 (by have:=(dY.1 e).1;simpa[ma]using this);have c:=f48 (ma os++kz (mP p)) (λq i=>(List.mem_append.1 i).elim (v q) (r q)) (by simp;omega);rw[<-wy u,a]at c;refine tY.z (d:=dN 5 Pos.cells (iJ g p)) 4 rfl rfl c (by simp[h]) (by simp[h]) (by simp[rowsOf]) (by simp) (by simp) ?_;simp
    .simp only[dG,fY.cells,b]at l;simp[b,h,k];refine fQ ?_;refine Yt (l) ?_;simp;refine fQ ?_;have a:=s (by simp[k]);have u:ma os++kz (mP p)≠[]:=λe=>h1 (by have:=(dY.1 e).1;simpa[ma]using this);have c:=f48 (ma os++kz (mP p)) (λq i=>(List.mem_append.1 i).elim (v q) (r q)) (by simp;omega);rw[<-wy u,a]at c;refine tY.z (d:=dN 5 Pos.cells (iJ g p)) 4 rfl rfl c (by simp[h]) (by simp[h]) (by simp[rowsOf]) (by simp) (by simp) ?_;simp
   .rw[tw g p h1 k];cases b:g.oi
    .simp only[dG,fY.cells,b]at l;simp[b,h];refine fQ ?_;refine Yt (l) ?_;simp;refine fQ ?_;have a:=s (by simp[b]);have u:ma os++kz (mP p)≠[]:=λe=>h1 (by have:=(dY.1 e).1;simpa[ma]using this);have c:=f48 (ma os++kz (mP p)) (λq i=>(List.mem_append.1 i).elim (v q) (r q)) (by simp;omega);rw[<-wy u,a]at c;refine tY.z (d:=dN 5 Pos.cells (iJ g p)) 4 rfl rfl c (by simp[h]) (by simp[h]) (by simp[rowsOf]) (by simp) (by simp) ?_;simp
    .have C:0<(kc os).length:=ax.2 k;simp[b,h,C];refine fQ ?_;refine gj.c (x:=dN 5 Pos.cells (kz (kc os))) rfl rfl (by rw[wy k];exact f48 (kc os) D (by omega)) (by simp) (by simp) ?_;simp[A b k]
