/- Part 22 of DisputeReferee. -/
import Derived.Test.YtmehofoficaelaaGreatDoorR21
set_option linter.all false
namespace Go.Proofs.YtmehofoficaelaaGreatDoor
open Go Go.AL Classical
set_option maxRecDepth 10000
set_option maxHeartbeats 8000000
theorem M5{os:List gy}{q:Pos}:q∈jP os↔⟨q,true⟩∈os:=by
 unfold jP;rw[aq];constructor
 .rintro⟨⟨p,t⟩,h,rfl⟩;rw[aO]at h;have:=h.2;dsimp only at this;subst this;exact h.1
 .intro h;exact⟨_,aO.2 ⟨h,rfl⟩,rfl⟩
theorem ae9{g:fH}{p:Pos}(d:¬ended g p){os:List gy}(a:∀o,o∈os↔o∈pD g p)(c:g.nJ=true)(h:jP os≠[]):ka (jP os)=iz g p:=by refine QC (Br _) λq=>?_;obtain⟨x,r,e⟩:=eH h;have b:⟨x,true⟩∈pD g p:=(a _).1 (M5.1 (by rw[e];simp));rw[u9,M5,a,qd,if_pos ⟨c,_,b,rfl⟩];exact⟨λh=>⟨Gd d,h⟩,λh=>h.2⟩
theorem ae8{g:fH}{p:Pos}(c:gT g p)(i:¬ended g p){os:List gy}(b:∀o,o∈os↔o∈pD g p)(f:¬(g.nJ=true/\jP os≠[])):ka (lP os++ka (my p))=iz g p:=by
 refine QC (Br _) λq=>?_
 have d:¬(g.nJ=true/\∃o∈pD g p,o.jq=true):=λ⟨a,o,h,t⟩=>f ⟨a,λe=>by
  have:o.p∈jP os:=M5.2 ((b _).2 (by obtain⟨x,y⟩:=o;dsimp only at t;subst t;exact h))
  rw[e]at this;cases this⟩
 rw[u9,List.mem_append,u9,KH c,qd,if_neg d]
 have:q∈lP os↔∃o∈pD g p,o.p=q:=by unfold lP;rw[aq];exact⟨λ⟨o,h,e⟩=>⟨o,(b o).1 h,e⟩,λ⟨o,h,e⟩=>⟨o,(b o).2 h,e⟩⟩
 rw[this];exact⟨λh=>⟨Gd i,h⟩,λh=>h.2⟩
theorem f47(g:fH)(p:Pos):Wf T 148 [dG g,dP p] [] (Is (.fn (.func 213) [] [.fV p.cells,.fV g.cells])):=by refine Yg JB ?_;simp[JB]
theorem f26(g:fH)(hg:gF g)(p:Pos)(m:gT g p):Wf T 94 [dG g,dP p] [] (Is (dN 5 Pos.cells (iz g p))):=by
 refine Yz DQ (jN 41 [1040] DQ.body) ?_;simp[DQ,iB,jN,mw,mz,mH,lq];refine Yq (f46 g hg p m) λn G=>?_;simp
 by_cases t:ended g p
 .simp[t];rw[Me t];rfl
 .simp[t];refine fD ?_;refine Yc (f47 g p) ?_;simp;refine x4.r (f:=213) (first:=[]) (cap:=[.fV p.cells,.fV g.cells]) rfl rfl rfl rfl ?_;simp;refine Wf.mono (f83 g hg p m) ?_;rintro _ H' ⟨os,w,z,rfl⟩;have i:=Sz os;have F:=YH os
  have v:∀q∈lP os,Small q:=λq h=>by obtain⟨o,A,rfl⟩:=aq.1 h;exact(Mr hg m ((w o).1 A)).small hg
  have C:∀q∈jP os,Small q:=λq h=>v q (aq.2 ⟨_,M5.1 h,rfl⟩)
  have s:∀q∈ka (my p),Small q:=λq h=>by rw[u9,KH m]at h;exact(EC m h).small hg
  have D:(ka (my p)).length<=18:=Nat.le_trans (MU _) (NU hg m);have E:=ae9 (p:=p) t w;have r:=ae8 m t w;refine⟨[(7,.ptr 2 0 0),(8,.ptr 3 0 0)],.ready,?_,?_⟩
  .by_cases h1:os = []
   .subst h1;rw[CI];simp
   .by_cases k:jP os = []
    .rw[xf g p h1 k];simp
    .rw[sU g p h1 k];simp
  have l:=f49 g hg p m
  by_cases h1:os = []
  .subst h1;rw[CI];cases b:g.nJ
   .simp only[dG,fH.cells,b]at l;simp[b,i];refine fD ?_;refine Yt (l) ?_;simp;refine fD ?_;have a:=r (by simp[jP])
    by_cases j:ka (my p) = []
    .rw[j]at a;simp[j];refine vt.c rfl rfl (f48 [] (by simp) (by simp)) rfl (by simp) ?_;simp[lP]at a;simp[a]
    .have y:0<(ka (my p)).length:=av.2 j;simp[lP]at a;have c:=f48 (ka (my p)) s (by omega);rw[<-vx j,a]at c;simp[j];refine fD ?_;refine pK.z (d:=dN 5 Pos.cells (iz g p)) 5 rfl rfl c (by simp) (by simp) (by simp[rowsOf]) (by simp) (by simp) ?_;simp
   .simp only[dG,fH.cells,b]at l;simp[b,i];refine fD ?_;refine Yt (l) ?_;simp;refine fD ?_;have a:=r (by simp[jP])
    by_cases j:ka (my p) = []
    .rw[j]at a;simp[j];refine vt.c rfl rfl (f48 [] (by simp) (by simp)) rfl (by simp) ?_;simp[lP]at a;simp[a]
    .have y:0<(ka (my p)).length:=av.2 j;simp[lP]at a;have c:=f48 (ka (my p)) s (by omega);rw[<-vx j,a]at c;simp[j];refine fD ?_;refine pK.z (d:=dN 5 Pos.cells (iz g p)) 5 rfl rfl c (by simp) (by simp) (by simp[rowsOf]) (by simp) (by simp) ?_;simp
  .by_cases k:jP os = []
   .rw[xf g p h1 k];cases b:g.nJ
    .simp only[dG,fH.cells,b]at l;simp[b,i];refine fD ?_;refine Yt (l) ?_;simp;refine fD ?_;have a:=r (by simp[k]);have u:lP os++ka (my p)≠[]:=λe=>h1 (by have:=(dL.1 e).1;simpa[lP]using this);have c:=f48 (lP os++ka (my p)) (λq h=>(List.mem_append.1 h).elim (v q) (s q)) (by simp;omega);rw[<-vx u,a]at c;refine pK.z (d:=dN 5 Pos.cells (iz g p)) 4 rfl rfl c (by simp[i]) (by simp[i]) (by simp[rowsOf]) (by simp) (by simp) ?_;simp
    .simp only[dG,fH.cells,b]at l;simp[b,i,k];refine fD ?_;refine Yt (l) ?_;simp;refine fD ?_;have a:=r (by simp[k]);have u:lP os++ka (my p)≠[]:=λe=>h1 (by have:=(dL.1 e).1;simpa[lP]using this);have c:=f48 (lP os++ka (my p)) (λq h=>(List.mem_append.1 h).elim (v q) (s q)) (by simp;omega);rw[<-vx u,a]at c;refine pK.z (d:=dN 5 Pos.cells (iz g p)) 4 rfl rfl c (by simp[i]) (by simp[i]) (by simp[rowsOf]) (by simp) (by simp) ?_;simp
   .rw[sU g p h1 k];cases b:g.nJ
    .simp only[dG,fH.cells,b]at l;simp[b,i];refine fD ?_;refine Yt (l) ?_;simp;refine fD ?_;have a:=r (by simp[b]);have u:lP os++ka (my p)≠[]:=λe=>h1 (by have:=(dL.1 e).1;simpa[lP]using this);have c:=f48 (lP os++ka (my p)) (λq h=>(List.mem_append.1 h).elim (v q) (s q)) (by simp;omega);rw[<-vx u,a]at c;refine pK.z (d:=dN 5 Pos.cells (iz g p)) 4 rfl rfl c (by simp[i]) (by simp[i]) (by simp[rowsOf]) (by simp) (by simp) ?_;simp
    .have B:0<(jP os).length:=av.2 k;simp[b,i,B];refine fD ?_;refine fY.c (x:=dN 5 Pos.cells (ka (jP os))) rfl rfl (by rw[vx k];exact f48 (jP os) C (by omega)) (by simp) (by simp) ?_;simp[E b k]
