/- Part 27 of TableHurry. -/
import Derived.Test.YtnaefnajkaohgaaGreatDoorG26
set_option linter.all false
namespace Go.Proofs.YtnaefnajkaohgaaGreatDoor
open Go Go.AL Classical
set_option maxRecDepth 10000
set_option maxHeartbeats 8000000
theorem EV{os:List eY}{q:Pos}:q∈ib os↔⟨q,true⟩∈os:=by
 unfold ib
 rw[aw]
 constructor
 ·rintro⟨⟨p,t⟩,h,rfl⟩
  rw[aT]at h
  have:=h.2
  dsimp only at this
  subst this
  exact h.1
 ·intro h
  exact⟨_,aT.2 ⟨h,rfl⟩,rfl⟩
theorem Ug{g:ey}{p:Pos}(he:¬ ended g p){os:List eY}(mM:∀ o,o∈os↔o∈mf g p)(hm:g.k6=true)(h:ib os≠[]):iv (ib os)=fX g p:=by
 refine HJ (u0 _) fun q=>?_
 obtain⟨x,r,e⟩:=dy h
 have hx:⟨x,true⟩∈mf g p:=(mM _).1 (EV.1 (by rw[e];simp))
 rw[pR,EV,mM,mE,if_pos ⟨hm,_,hx,rfl⟩]
 exact⟨fun h=>⟨zd he,h⟩,fun h=>h.2⟩
theorem Uf{g:ey}{p:Pos}(hp:fo g p)(he:¬ ended g p){os:List eY}(mM:∀ o,o∈os↔o∈mf g p)(hm:¬ (g.k6=true∧ib os≠[])):iv (js os++iv (jQ p))=fX g p:=by
 refine HJ (u0 _) fun q=>?_
 have hn:¬ (g.k6=true∧∃ o∈mf g p,o.gO=true):=fun⟨a,o,h,t⟩=>hm ⟨a,fun e=>by
  have:o.p∈ib os:=EV.2 ((mM _).2 (by obtain⟨x,y⟩:=o;dsimp only at t;subst t;exact h))
  rw[e]at this;cases this⟩
 rw[pR,List.mem_append,pR,CT hp,mE,if_neg hn]
 have:q∈js os↔∃ o∈mf g p,o.p=q:=by
  unfold js
  rw[aw]
  exact⟨fun⟨o,h,e⟩=>⟨o,(mM o).1 h,e⟩,fun⟨o,h,e⟩=>⟨o,(mM o).2 h,e⟩⟩
 rw[this]
 exact⟨fun h=>⟨zd he,h⟩,fun h=>h.2⟩
theorem f47(g:ey)(p:Pos):Wf T 47 [dG g,dP p] [] (Is (.fn (.func 83) [] [.eG p.cells,.eG g.cells])):=by
 refine Yg BM ?_
 simp[BM]
theorem f26(g:ey)(hg:eW g)(p:Pos)(hp:fo g p):Wf T 26 [dG g,dP p] [] (Is (dN 5 Pos.cells (fX g p))):=by
 refine Yz w7 (iA 41 [1040] w7.body) ?_
 simp[w7,gu,iA,kG,kI,kR,jE]
 refine Yq (f46 g hg p hp) fun n hn=>?_
 simp
 by_cases he:ended g p
 ·simp[he]
  rw[HI he];rfl
 ·simp[he]
  (with_reducible repeat' first|refine Xk ?_<;>try simp|refine Xs ?_ ?_<;>intro h<;>(try intro h')<;>(try simp[h])<;>(try omega)|refine Xg ?_|omega)
  refine Yc (f47 g p) ?_
  simp
  refine vm.r (f:=83) (first:=[]) (cap:=[.eG p.cells,.eG g.cells]) rfl rfl rfl rfl ?_
  simp
  refine Wf.mono (f83 g hg p hp) ?_
  rintro _ H' ⟨os,mM,hlen,rfl⟩
  have fu:=JC os
  have Ss:=N9 os
  have DB:∀ q∈js os,Small q:=fun q hq=>by
   obtain⟨o,ho,rfl⟩:=aw.1 hq
   exact(Ed hg hp ((mM o).1 ho)).small hg
  have eJ:∀ q∈ib os,Small q:=fun q hq=>DB q (aw.2 ⟨_,EV.1 hq,rfl⟩)
  have gv:∀ q∈iv (jQ p),Small q:=fun q hq=>by
   rw[pR,CT hp]at hq
   exact(xQ hp hq).small hg
  have afx:(iv (jQ p)).length≤18:=Nat.le_trans (EJ _) (FC hg hp)
  have wi:=Ug (p:=p) he mM
  have ix:=Uf hp he mM
  refine⟨[(7,.ptr 2 0 0),(8,.ptr 3 0 0)],.ready,?_,?_⟩
  ·by_cases h1:os = []
   ·subst h1;rw[vX];simp
   ·by_cases h2:ib os = []
    ·rw[rv g p h1 h2];simp
    ·rw[oj g p h1 h2];simp
  have p9:=f49 g hg p hp
  by_cases h1:os = []
  ·subst h1
   rw[vX]
   cases nh:g.k6
   ·simp only[dG,ey.cells,nh]at p9
    simp[nh,fu]
    (with_reducible repeat' first|refine Xk ?_<;>try simp|refine Xs ?_ ?_<;>intro h<;>(try intro h')<;>(try simp[h])<;>(try omega)|refine Xg ?_|omega)
    refine Yt (p9) ?_
    simp
    (with_reducible repeat' first|refine Xk ?_<;>try simp|refine Xs ?_ ?_<;>intro h<;>(try intro h')<;>(try simp[h])<;>(try omega)|refine Xg ?_|omega)
    have hm:=ix (by simp[ib])
    by_cases hd:iv (jQ p) = []
    ·rw[hd]at hm
     simp[hd]
     refine r7.c rfl rfl (f48 [] (by simp) (by simp)) rfl (by simp) ?_
     simp[js]at hm
     simp[hm]
    ·have Rm:0<(iv (jQ p)).length:=aB.2 hd
     simp[js]at hm
     have hf:=f48 (iv (jQ p)) gv (by omega)
     rw[← qd hd,hm]at hf
     simp[hd]
     (with_reducible repeat' first|refine Xk ?_<;>try simp|refine Xs ?_ ?_<;>intro h<;>(try intro h')<;>(try simp[h])<;>(try omega)|refine Xg ?_|omega)
     refine pe.z (d:=dN 5 Pos.cells (fX g p)) 5 rfl rfl hf (by simp) (by simp) (by simp[rowsOf]) (by simp) (by simp) ?_
     simp
   ·simp only[dG,ey.cells,nh]at p9
    simp[nh,fu]
    (with_reducible repeat' first|refine Xk ?_<;>try simp|refine Xs ?_ ?_<;>intro h<;>(try intro h')<;>(try simp[h])<;>(try omega)|refine Xg ?_|omega)
    refine Yt (p9) ?_
    simp
    (with_reducible repeat' first|refine Xk ?_<;>try simp|refine Xs ?_ ?_<;>intro h<;>(try intro h')<;>(try simp[h])<;>(try omega)|refine Xg ?_|omega)
    have hm:=ix (by simp[ib])
    by_cases hd:iv (jQ p) = []
    ·rw[hd]at hm
     simp[hd]
     refine r7.c rfl rfl (f48 [] (by simp) (by simp)) rfl (by simp) ?_
     simp[js]at hm
     simp[hm]
    ·have Rm:0<(iv (jQ p)).length:=aB.2 hd
     simp[js]at hm
     have hf:=f48 (iv (jQ p)) gv (by omega)
     rw[← qd hd,hm]at hf
     simp[hd]
     (with_reducible repeat' first|refine Xk ?_<;>try simp|refine Xs ?_ ?_<;>intro h<;>(try intro h')<;>(try simp[h])<;>(try omega)|refine Xg ?_|omega)
     refine pe.z (d:=dN 5 Pos.cells (fX g p)) 5 rfl rfl hf (by simp) (by simp) (by simp[rowsOf]) (by simp) (by simp) ?_
     simp
  ·by_cases h2:ib os = []
   ·rw[rv g p h1 h2]
    cases nh:g.k6
    ·simp only[dG,ey.cells,nh]at p9
     simp[nh,fu]
     (with_reducible repeat' first|refine Xk ?_<;>try simp|refine Xs ?_ ?_<;>intro h<;>(try intro h')<;>(try simp[h])<;>(try omega)|refine Xg ?_|omega)
     refine Yt (p9) ?_
     simp
     (with_reducible repeat' first|refine Xk ?_<;>try simp|refine Xs ?_ ?_<;>intro h<;>(try intro h')<;>(try simp[h])<;>(try omega)|refine Xg ?_|omega)
     have hm:=ix (by simp[h2])
     have hL:js os++iv (jQ p)≠[]:=fun e=>h1 (by have:=(c9.1 e).1;simpa[js]using this)
     have hf:=f48 (js os++iv (jQ p)) (fun q hq=>(List.mem_append.1 hq).elim (DB q) (gv q)) (by simp;omega)
     rw[← qd hL,hm]at hf
     refine pe.z (d:=dN 5 Pos.cells (fX g p)) 4 rfl rfl hf (by simp[fu]) (by simp[fu]) (by simp[rowsOf]) (by simp) (by simp) ?_
     simp
    ·simp only[dG,ey.cells,nh]at p9
     simp[nh,fu,h2]
     (with_reducible repeat' first|refine Xk ?_<;>try simp|refine Xs ?_ ?_<;>intro h<;>(try intro h')<;>(try simp[h])<;>(try omega)|refine Xg ?_|omega)
     refine Yt (p9) ?_
     simp
     (with_reducible repeat' first|refine Xk ?_<;>try simp|refine Xs ?_ ?_<;>intro h<;>(try intro h')<;>(try simp[h])<;>(try omega)|refine Xg ?_|omega)
     have hm:=ix (by simp[h2])
     have hL:js os++iv (jQ p)≠[]:=fun e=>h1 (by have:=(c9.1 e).1;simpa[js]using this)
     have hf:=f48 (js os++iv (jQ p)) (fun q hq=>(List.mem_append.1 hq).elim (DB q) (gv q)) (by simp;omega)
     rw[← qd hL,hm]at hf
     refine pe.z (d:=dN 5 Pos.cells (fX g p)) 4 rfl rfl hf (by simp[fu]) (by simp[fu]) (by simp[rowsOf]) (by simp) (by simp) ?_
     simp
   ·rw[oj g p h1 h2]
    cases nh:g.k6
    ·simp only[dG,ey.cells,nh]at p9
     simp[nh,fu]
     (with_reducible repeat' first|refine Xk ?_<;>try simp|refine Xs ?_ ?_<;>intro h<;>(try intro h')<;>(try simp[h])<;>(try omega)|refine Xg ?_|omega)
     refine Yt (p9) ?_
     simp
     (with_reducible repeat' first|refine Xk ?_<;>try simp|refine Xs ?_ ?_<;>intro h<;>(try intro h')<;>(try simp[h])<;>(try omega)|refine Xg ?_|omega)
     have hm:=ix (by simp[nh])
     have hL:js os++iv (jQ p)≠[]:=fun e=>h1 (by have:=(c9.1 e).1;simpa[js]using this)
     have hf:=f48 (js os++iv (jQ p)) (fun q hq=>(List.mem_append.1 hq).elim (DB q) (gv q)) (by simp;omega)
     rw[← qd hL,hm]at hf
     refine pe.z (d:=dN 5 Pos.cells (fX g p)) 4 rfl rfl hf (by simp[fu]) (by simp[fu]) (by simp[rowsOf]) (by simp) (by simp) ?_
     simp
    ·have h3:0<(ib os).length:=aB.2 h2
     simp[nh,fu,h3]
     (with_reducible repeat' first|refine Xk ?_<;>try simp|refine Xs ?_ ?_<;>intro h<;>(try intro h')<;>(try simp[h])<;>(try omega)|refine Xg ?_|omega)
     refine eU.c (x:=dN 5 Pos.cells (iv (ib os))) rfl rfl (by rw[qd h2];exact f48 (ib os) eJ (by omega)) (by simp) (by simp) ?_
     simp[wi nh h2]
     (with_reducible repeat' first|refine Xk ?_<;>try simp|refine Xs ?_ ?_<;>intro h<;>(try intro h')<;>(try simp[h])<;>(try omega)|refine Xg ?_|omega)
