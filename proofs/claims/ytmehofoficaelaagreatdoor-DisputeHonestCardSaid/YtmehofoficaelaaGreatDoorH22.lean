/- Part 22 of DisputeHonest. -/
import Derived.Test.YtmehofoficaelaaGreatDoorH21
set_option linter.all false
namespace Go.Proofs.YtmehofoficaelaaGreatDoor
open Go Go.AL Classical
set_option maxRecDepth 10000
set_option maxHeartbeats 8000000
theorem MD{os:List gh}{q:Pos}:q∈jD os↔⟨q,true⟩∈os:=by
 unfold jD;rw[au];constructor
 .rintro⟨⟨p,t⟩,h,rfl⟩;rw[aV]at h;have:=h.2;dsimp only at this;subst this;exact h.1
 .intro h;exact⟨_,aV.2 ⟨h,rfl⟩,rfl⟩
theorem aer{g:fu}{p:Pos}(d:¬ended g p){os:List gh}(a:∀o,o∈os↔o∈pg g p)(c:g.nL=true)(h:jD os≠[]):jR (jD os)=ic g p:=by refine Qa (AX _) λq=>?_;obtain⟨x,r,e⟩:=eD h;have b:⟨x,true⟩∈pg g p:=(a _).1 (MD.1 (by rw[e];simp));rw[uI,MD,a,pP,if_pos ⟨c,_,b,rfl⟩];exact⟨λh=>⟨FH d,h⟩,λh=>h.2⟩
theorem aeq{g:fu}{p:Pos}(c:gJ g p)(i:¬ended g p){os:List gh}(b:∀o,o∈os↔o∈pg g p)(f:¬(g.nL=true/\jD os≠[])):jR (lB os++jR (mf p))=ic g p:=by
 refine Qa (AX _) λq=>?_
 have d:¬(g.nL=true/\∃o∈pg g p,o.je=true):=λ⟨a,o,h,t⟩=>f ⟨a,λe=>by
  have:o.p∈jD os:=MD.2 ((b _).2 (by obtain⟨x,y⟩:=o;dsimp only at t;subst t;exact h))
  rw[e]at this;cases this⟩
 rw[uI,List.mem_append,uI,Kf c,pP,if_neg d]
 have:q∈lB os↔∃o∈pg g p,o.p=q:=by unfold lB;rw[au];exact⟨λ⟨o,h,e⟩=>⟨o,(b o).1 h,e⟩,λ⟨o,h,e⟩=>⟨o,(b o).2 h,e⟩⟩
 rw[this];exact⟨λh=>⟨FH i,h⟩,λh=>h.2⟩
theorem f47(g:fu)(p:Pos):Wf T 148 [dG g,dP p] [] (Is (.fn (.func 213) [] [.fH p.cells,.fH g.cells])):=by refine Yg I9 ?_;simp[I9]
theorem f26(g:fu)(hg:gu g)(p:Pos)(m:gJ g p):Wf T 94 [dG g,dP p] [] (Is (dN 5 Pos.cells (ic g p))):=by
 refine Yz Dg (jG 41 [1040] Dg.body) ?_;simp[Dg,ik,jG,me,mg,mq,kQ];refine Yq (f46 g hg p m) λn G=>?_;simp
 by_cases t:ended g p
 .simp[t];rw[LK t];rfl
 .simp[t];refine fo ?_;refine Yc (f47 g p) ?_;simp;refine xC.r (f:=213) (first:=[]) (cap:=[.fH p.cells,.fH g.cells]) rfl rfl rfl rfl ?_;simp;refine Wf.mono (f83 g hg p m) ?_;rintro _ H' ⟨os,w,z,rfl⟩;have i:=R8 os;have F:=X8 os
  have v:∀q∈lB os,Small q:=λq h=>by obtain⟨o,B,rfl⟩:=au.1 h;exact(LY hg m ((w o).1 B)).small hg
  have D:∀q∈jD os,Small q:=λq h=>v q (au.2 ⟨_,MD.1 h,rfl⟩)
  have s:∀q∈jR (mf p),Small q:=λq h=>by rw[uI,Kf m]at h;exact(D0 m h).small hg
  have E:(jR (mf p)).length<=18:=Nat.le_trans (Mt _) (Nu hg m);have A:=aer (p:=p) t w;have r:=aeq m t w;refine⟨[(7,.ptr 2 0 0),(8,.ptr 3 0 0)],.ready,?_,?_⟩
  .by_cases h1:os = []
   .subst h1;rw[Ca];simp
   .by_cases k:jD os = []
    .rw[wL g p h1 k];simp
    .rw[sy g p h1 k];simp
  have l:=f49 g hg p m
  by_cases h1:os = []
  .subst h1;rw[Ca];cases b:g.nL
   .simp only[dG,fu.cells,b]at l;simp[b,i];refine fo ?_;refine Yt (l) ?_;simp;refine fo ?_;have a:=r (by simp[jD])
    by_cases j:jR (mf p) = []
    .rw[j]at a;simp[j];refine uW.c rfl rfl (f48 [] (by simp) (by simp)) rfl (by simp) ?_;simp[lB]at a;simp[a]
    .have y:0<(jR (mf p)).length:=av.2 j;simp[lB]at a;have c:=f48 (jR (mf p)) s (by omega);rw[<-u0 j,a]at c;simp[j];refine fo ?_;refine sW.z (d:=dN 5 Pos.cells (ic g p)) 5 rfl rfl c (by simp) (by simp) (by simp[rowsOf]) (by simp) (by simp) ?_;simp
   .simp only[dG,fu.cells,b]at l;simp[b,i];refine fo ?_;refine Yt (l) ?_;simp;refine fo ?_;have a:=r (by simp[jD])
    by_cases j:jR (mf p) = []
    .rw[j]at a;simp[j];refine uW.c rfl rfl (f48 [] (by simp) (by simp)) rfl (by simp) ?_;simp[lB]at a;simp[a]
    .have y:0<(jR (mf p)).length:=av.2 j;simp[lB]at a;have c:=f48 (jR (mf p)) s (by omega);rw[<-u0 j,a]at c;simp[j];refine fo ?_;refine sW.z (d:=dN 5 Pos.cells (ic g p)) 5 rfl rfl c (by simp) (by simp) (by simp[rowsOf]) (by simp) (by simp) ?_;simp
  .by_cases k:jD os = []
   .rw[wL g p h1 k];cases b:g.nL
    .simp only[dG,fu.cells,b]at l;simp[b,i];refine fo ?_;refine Yt (l) ?_;simp;refine fo ?_;have a:=r (by simp[k]);have u:lB os++jR (mf p)≠[]:=λe=>h1 (by have:=(dF.1 e).1;simpa[lB]using this);have c:=f48 (lB os++jR (mf p)) (λq h=>(List.mem_append.1 h).elim (v q) (s q)) (by simp;omega);rw[<-u0 u,a]at c;refine sW.z (d:=dN 5 Pos.cells (ic g p)) 4 rfl rfl c (by simp[i]) (by simp[i]) (by simp[rowsOf]) (by simp) (by simp) ?_;simp
    .simp only[dG,fu.cells,b]at l;simp[b,i,k];refine fo ?_;refine Yt (l) ?_;simp;refine fo ?_;have a:=r (by simp[k]);have u:lB os++jR (mf p)≠[]:=λe=>h1 (by have:=(dF.1 e).1;simpa[lB]using this);have c:=f48 (lB os++jR (mf p)) (λq h=>(List.mem_append.1 h).elim (v q) (s q)) (by simp;omega);rw[<-u0 u,a]at c;refine sW.z (d:=dN 5 Pos.cells (ic g p)) 4 rfl rfl c (by simp[i]) (by simp[i]) (by simp[rowsOf]) (by simp) (by simp) ?_;simp
   .rw[sy g p h1 k];cases b:g.nL
    .simp only[dG,fu.cells,b]at l;simp[b,i];refine fo ?_;refine Yt (l) ?_;simp;refine fo ?_;have a:=r (by simp[b]);have u:lB os++jR (mf p)≠[]:=λe=>h1 (by have:=(dF.1 e).1;simpa[lB]using this);have c:=f48 (lB os++jR (mf p)) (λq h=>(List.mem_append.1 h).elim (v q) (s q)) (by simp;omega);rw[<-u0 u,a]at c;refine sW.z (d:=dN 5 Pos.cells (ic g p)) 4 rfl rfl c (by simp[i]) (by simp[i]) (by simp[rowsOf]) (by simp) (by simp) ?_;simp
    .have C:0<(jD os).length:=av.2 k;simp[b,i,C];refine fo ?_;refine fL.c (x:=dN 5 Pos.cells (jR (jD os))) rfl rfl (by rw[u0 k];exact f48 (jD os) D (by omega)) (by simp) (by simp) ?_;simp[A b k]
