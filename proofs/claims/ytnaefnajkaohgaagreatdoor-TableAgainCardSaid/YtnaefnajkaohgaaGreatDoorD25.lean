/- Part 25 of the proof of skewer.skewerlaw15.TableAgain. -/
import Derived.Test.YtnaefnajkaohgaaGreatDoorD24
set_option linter.all false
namespace Go.Proofs.YtnaefnajkaohgaaGreatDoor
open Go Go.AL Classical
set_option maxRecDepth 10000
set_option maxHeartbeats 8000000
theorem Gy{os:List fq}{q:Pos}:q∈iB os↔⟨q,true⟩∈os:=by
 unfold iB
 rw[av]
 constructor
 ·rintro⟨⟨p,t⟩,h,rfl⟩
  rw[aI]at h
  have:=h.2
  dsimp only at this
  subst this
  exact h.1
 ·intro h
  exact⟨_,aI.2 ⟨h,rfl⟩,rfl⟩
theorem W4{g:eO}{p:Pos}(he:¬ ended g p){os:List fq}(nN:∀ o,o∈os↔o∈mE g p)(hm:g.kS=true)(h:iB os≠[]):iL (iB os)=gM g p:=by
 refine JJ (we _) fun q=>?_
 obtain⟨x,r,e⟩:=dS h
 have hx:⟨x,true⟩∈mE g p:=(nN _).1 (Gy.1 (by rw[e];simp))
 rw[qE,Gy,nN,mU,if_pos ⟨hm,_,hx,rfl⟩]
 exact⟨fun h=>⟨AG he,h⟩,fun h=>h.2⟩
theorem W3{g:eO}{p:Pos}(hp:fF g p)(he:¬ ended g p){os:List fq}(nN:∀ o,o∈os↔o∈mE g p)(hm:¬ (g.kS=true∧iB os≠[])):iL (jJ os++iL (ku p))=gM g p:=by
 refine JJ (we _) fun q=>?_
 have hn:¬ (g.kS=true∧∃ o∈mE g p,o.ig=true):=fun⟨a,o,h,t⟩=>hm ⟨a,fun e=>by
  have:o.p∈iB os:=Gy.2 ((nN _).2 (by obtain⟨x,y⟩:=o;dsimp only at t;subst t;exact h))
  rw[e]at this;cases this⟩
 rw[qE,List.mem_append,qE,D6 hp,mU,if_neg hn]
 have:q∈jJ os↔∃ o∈mE g p,o.p=q:=by
  unfold jJ
  rw[av]
  exact⟨fun⟨o,h,e⟩=>⟨o,(nN o).1 h,e⟩,fun⟨o,h,e⟩=>⟨o,(nN o).2 h,e⟩⟩
 rw[this]
 exact⟨fun h=>⟨AG he,h⟩,fun h=>h.2⟩
theorem f47(g:eO)(p:Pos):Wf T 47 [dG g,dP p] [] (Is (.fn (.func 83) [] [.eZ p.cells,.eZ g.cells])):=by
 refine Yg C3 ?_
 simp[C3]
theorem f26(g:eO)(hg:fi g)(p:Pos)(hp:fF g p):Wf T 26 [dG g,dP p] [] (Is (dN 5 Pos.cells (gM g p))):=by
 refine Yz yv (iJ 41 [1040] yv.body) ?_
 simp[yv,gH,iJ,kU,kX,lr,jN]
 refine Yq (f46 g hg p hp) fun n hn=>?_
 simp
 by_cases he:ended g p
 ·simp[he]
  rw[JI he];rfl
 ·simp[he]
  (with_reducible repeat' first|refine Xk ?_<;>try simp|refine Xs ?_ ?_<;>intro h<;>(try intro h')<;>(try simp[h])<;>(try omega)|refine Xg ?_|omega)
  refine Yc (f47 g p) ?_
  simp
  refine p6.r (f:=83) (first:=[]) (cap:=[.eZ p.cells,.eZ g.cells]) rfl rfl rfl rfl ?_
  simp
  refine Wf.mono (f83 g hg p hp) ?_
  rintro _ H' ⟨os,nN,hlen,rfl⟩
  have fO:=Lt os
  have U5:=Qw os
  have E6:∀ q∈jJ os,Small q:=fun q hq=>by
   obtain⟨o,ho,rfl⟩:=av.1 hq
   exact(FV hg hp ((nN o).1 ho)).small hg
  have eX:∀ q∈iB os,Small q:=fun q hq=>E6 q (av.2 ⟨_,Gy.1 hq,rfl⟩)
  have gA:∀ q∈iL (ku p),Small q:=fun q hq=>by
   rw[qE,D6 hp]at hq
   exact(ze hp hq).small hg
  have aib:(iL (ku p)).length≤18:=Nat.le_trans (Gp _) (Hm hg hp)
  have xv:=W4 (p:=p) he nN
  have gy:=W3 hp he nN
  refine⟨[(7,.ptr 2 0 0),(8,.ptr 3 0 0)],.ready,?_,?_⟩
  ·by_cases h1:os = []
   ·subst h1;rw[xj];simp
   ·by_cases h2:iB os = []
    ·rw[sA g p h1 h2];simp
    ·rw[pc g p h1 h2];simp
  have qS:=f49 g hg p hp
  by_cases h1:os = []
  ·subst h1
   rw[xj]
   cases oo:g.kS
   ·simp only[dG,eO.cells,oo]at qS
    simp[oo,fO]
    (with_reducible repeat' first|refine Xk ?_<;>try simp|refine Xs ?_ ?_<;>intro h<;>(try intro h')<;>(try simp[h])<;>(try omega)|refine Xg ?_|omega)
    refine Yt (qS) ?_
    simp
    (with_reducible repeat' first|refine Xk ?_<;>try simp|refine Xs ?_ ?_<;>intro h<;>(try intro h')<;>(try simp[h])<;>(try omega)|refine Xg ?_|omega)
    have hm:=gy (by simp[iB])
    by_cases hd:iL (ku p) = []
    ·rw[hd]at hm
     simp[hd]
     refine ta.c rfl rfl (f48 [] (by simp) (by simp)) rfl (by simp) ?_
     simp[jJ]at hm
     simp[hm]
    ·have Nl:0<(iL (ku p)).length:=aA.2 hd
     simp[jJ]at hm
     have hf:=f48 (iL (ku p)) gA (by omega)
     rw[← qU hd,hm]at hf
     simp[hd]
     (with_reducible repeat' first|refine Xk ?_<;>try simp|refine Xs ?_ ?_<;>intro h<;>(try intro h')<;>(try simp[h])<;>(try omega)|refine Xg ?_|omega)
     refine p7.z (d:=dN 5 Pos.cells (gM g p)) 5 rfl rfl hf (by simp) (by simp) (by simp[rowsOf]) (by simp) (by simp) ?_
     simp
   ·simp only[dG,eO.cells,oo]at qS
    simp[oo,fO]
    (with_reducible repeat' first|refine Xk ?_<;>try simp|refine Xs ?_ ?_<;>intro h<;>(try intro h')<;>(try simp[h])<;>(try omega)|refine Xg ?_|omega)
    refine Yt (qS) ?_
    simp
    (with_reducible repeat' first|refine Xk ?_<;>try simp|refine Xs ?_ ?_<;>intro h<;>(try intro h')<;>(try simp[h])<;>(try omega)|refine Xg ?_|omega)
    have hm:=gy (by simp[iB])
    by_cases hd:iL (ku p) = []
    ·rw[hd]at hm
     simp[hd]
     refine ta.c rfl rfl (f48 [] (by simp) (by simp)) rfl (by simp) ?_
     simp[jJ]at hm
     simp[hm]
    ·have Nl:0<(iL (ku p)).length:=aA.2 hd
     simp[jJ]at hm
     have hf:=f48 (iL (ku p)) gA (by omega)
     rw[← qU hd,hm]at hf
     simp[hd]
     (with_reducible repeat' first|refine Xk ?_<;>try simp|refine Xs ?_ ?_<;>intro h<;>(try intro h')<;>(try simp[h])<;>(try omega)|refine Xg ?_|omega)
     refine p7.z (d:=dN 5 Pos.cells (gM g p)) 5 rfl rfl hf (by simp) (by simp) (by simp[rowsOf]) (by simp) (by simp) ?_
     simp
  ·by_cases h2:iB os = []
   ·rw[sA g p h1 h2]
    cases oo:g.kS
    ·simp only[dG,eO.cells,oo]at qS
     simp[oo,fO]
     (with_reducible repeat' first|refine Xk ?_<;>try simp|refine Xs ?_ ?_<;>intro h<;>(try intro h')<;>(try simp[h])<;>(try omega)|refine Xg ?_|omega)
     refine Yt (qS) ?_
     simp
     (with_reducible repeat' first|refine Xk ?_<;>try simp|refine Xs ?_ ?_<;>intro h<;>(try intro h')<;>(try simp[h])<;>(try omega)|refine Xg ?_|omega)
     have hm:=gy (by simp[h2])
     have hL:jJ os++iL (ku p)≠[]:=fun e=>h1 (by have:=(dx.1 e).1;simpa[jJ]using this)
     have hf:=f48 (jJ os++iL (ku p)) (fun q hq=>(List.mem_append.1 hq).elim (E6 q) (gA q)) (by simp;omega)
     rw[← qU hL,hm]at hf
     refine p7.z (d:=dN 5 Pos.cells (gM g p)) 4 rfl rfl hf (by simp[fO]) (by simp[fO]) (by simp[rowsOf]) (by simp) (by simp) ?_
     simp
    ·simp only[dG,eO.cells,oo]at qS
     simp[oo,fO,h2]
     (with_reducible repeat' first|refine Xk ?_<;>try simp|refine Xs ?_ ?_<;>intro h<;>(try intro h')<;>(try simp[h])<;>(try omega)|refine Xg ?_|omega)
     refine Yt (qS) ?_
     simp
     (with_reducible repeat' first|refine Xk ?_<;>try simp|refine Xs ?_ ?_<;>intro h<;>(try intro h')<;>(try simp[h])<;>(try omega)|refine Xg ?_|omega)
     have hm:=gy (by simp[h2])
     have hL:jJ os++iL (ku p)≠[]:=fun e=>h1 (by have:=(dx.1 e).1;simpa[jJ]using this)
     have hf:=f48 (jJ os++iL (ku p)) (fun q hq=>(List.mem_append.1 hq).elim (E6 q) (gA q)) (by simp;omega)
     rw[← qU hL,hm]at hf
     refine p7.z (d:=dN 5 Pos.cells (gM g p)) 4 rfl rfl hf (by simp[fO]) (by simp[fO]) (by simp[rowsOf]) (by simp) (by simp) ?_
     simp
   ·rw[pc g p h1 h2]
    cases oo:g.kS
    ·simp only[dG,eO.cells,oo]at qS
     simp[oo,fO]
     (with_reducible repeat' first|refine Xk ?_<;>try simp|refine Xs ?_ ?_<;>intro h<;>(try intro h')<;>(try simp[h])<;>(try omega)|refine Xg ?_|omega)
     refine Yt (qS) ?_
     simp
     (with_reducible repeat' first|refine Xk ?_<;>try simp|refine Xs ?_ ?_<;>intro h<;>(try intro h')<;>(try simp[h])<;>(try omega)|refine Xg ?_|omega)
     have hm:=gy (by simp[oo])
     have hL:jJ os++iL (ku p)≠[]:=fun e=>h1 (by have:=(dx.1 e).1;simpa[jJ]using this)
     have hf:=f48 (jJ os++iL (ku p)) (fun q hq=>(List.mem_append.1 hq).elim (E6 q) (gA q)) (by simp;omega)
     rw[← qU hL,hm]at hf
     refine p7.z (d:=dN 5 Pos.cells (gM g p)) 4 rfl rfl hf (by simp[fO]) (by simp[fO]) (by simp[rowsOf]) (by simp) (by simp) ?_
     simp
    ·have h3:0<(iB os).length:=aA.2 h2
     simp[oo,fO,h3]
     (with_reducible repeat' first|refine Xk ?_<;>try simp|refine Xs ?_ ?_<;>intro h<;>(try intro h')<;>(try simp[h])<;>(try omega)|refine Xg ?_|omega)
     refine fr.c (x:=dN 5 Pos.cells (iL (iB os))) rfl rfl (by rw[qU h2];exact f48 (iB os) eX (by omega)) (by simp) (by simp) ?_
     simp[xv oo h2]
     (with_reducible repeat' first|refine Xk ?_<;>try simp|refine Xs ?_ ?_<;>intro h<;>(try intro h')<;>(try simp[h])<;>(try omega)|refine Xg ?_|omega)
