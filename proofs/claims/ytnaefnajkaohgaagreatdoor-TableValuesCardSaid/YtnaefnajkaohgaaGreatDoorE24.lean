/- Part 24 of the proof of skewer.skewerlaw15.TableValues. -/
import Derived.Test.YtnaefnajkaohgaaGreatDoorE23
set_option linter.all false
namespace Go.Proofs.YtnaefnajkaohgaaGreatDoor
open Go Go.AL Classical
set_option maxRecDepth 10000
set_option maxHeartbeats 8000000
theorem Hq{os:List fD}{q:Pos}:q∈iI os↔⟨q,true⟩∈os:=by
 unfold iI
 rw[ao]
 constructor
 ·rintro⟨⟨p,t⟩,h,rfl⟩
  rw[aK]at h
  have:=h.2
  dsimp only at this
  subst this
  exact h.1
 ·intro h
  exact⟨_,aK.2 ⟨h,rfl⟩,rfl⟩
theorem YC{g:eU}{p:Pos}(he:¬ ended g p){os:List fD}(oi:∀ o,o∈os↔o∈nc g p)(hm:g.lq=true)(h:iI os≠[]):iV (iI os)=gU g p:=by
 refine Kp (wV _) fun q=>?_
 obtain⟨x,r,e⟩:=ei h
 have hx:⟨x,true⟩∈nc g p:=(oi _).1 (Hq.1 (by rw[e];simp))
 rw[q7,Hq,oi,nG,if_pos ⟨hm,_,hx,rfl⟩]
 exact⟨fun h=>⟨Bn he,h⟩,fun h=>h.2⟩
theorem YB{g:eU}{p:Pos}(hp:fR g p)(he:¬ ended g p){os:List fD}(oi:∀ o,o∈os↔o∈nc g p)(hm:¬ (g.lq=true∧iI os≠[])):iV (jY os++iV (kN p))=gU g p:=by
 refine Kp (wV _) fun q=>?_
 have hn:¬ (g.lq=true∧∃ o∈nc g p,o.iu=true):=fun⟨a,o,h,t⟩=>hm ⟨a,fun e=>by
  have:o.p∈iI os:=Hq.2 ((oi _).2 (by obtain⟨x,y⟩:=o;dsimp only at t;subst t;exact h))
  rw[e]at this;cases this⟩
 rw[q7,List.mem_append,q7,EZ hp,nG,if_neg hn]
 have:q∈jY os↔∃ o∈nc g p,o.p=q:=by
  unfold jY
  rw[ao]
  exact⟨fun⟨o,h,e⟩=>⟨o,(oi o).1 h,e⟩,fun⟨o,h,e⟩=>⟨o,(oi o).2 h,e⟩⟩
 rw[this]
 exact⟨fun h=>⟨Bn he,h⟩,fun h=>h.2⟩
theorem f47(g:eU)(p:Pos):Wf T 47 [dG g,dP p] [] (Is (.fn (.func 83) [] [.fh p.cells,.fh g.cells])):=by
 refine Yg DQ ?_
 simp[DQ]
theorem f26(g:eU)(hg:fr g)(p:Pos)(hp:fR g p):Wf T 26 [dG g,dP p] [] (Is (dN 5 Pos.cells (gU g p))):=by
 refine Yz zc (jc 41 [1040] zc.body) ?_
 simp[zc,gY,jc,lW,lX,me,ky]
 refine Yq (f46 g hg p hp) fun n hn=>?_
 simp
 by_cases he:ended g p
 ·simp[he]
  rw[Ko he];rfl
 ·simp[he]
  (with_reducible repeat' first|refine Xk ?_<;>try simp|refine Xs ?_ ?_<;>intro h<;>(try intro h')<;>(try simp[h])<;>(try omega)|refine Xg ?_|omega)
  refine Yc (f47 g p) ?_
  simp
  refine pY.r (f:=83) (first:=[]) (cap:=[.fh p.cells,.fh g.cells]) rfl rfl rfl rfl ?_
  simp
  refine Wf.mono (f83 g hg p hp) ?_
  rintro _ H' ⟨os,oi,hlen,rfl⟩
  have fZ:=Mc os
  have Wg:=Rk os
  have FY:∀ q∈jY os,Small q:=fun q hq=>by
   obtain⟨o,ho,rfl⟩:=ao.1 hq
   exact(GL hg hp ((oi o).1 ho)).small hg
  have fg:∀ q∈iI os,Small q:=fun q hq=>FY q (ao.2 ⟨_,Hq.1 hq,rfl⟩)
  have gH:∀ q∈iV (kN p),Small q:=fun q hq=>by
   rw[q7,EZ hp]at hq
   exact(zX hp hq).small hg
  have ajE:(iV (kN p)).length≤18:=Nat.le_trans (Hf _) (Ii hg hp)
  have qP:=YC (p:=p) he oi
  have gu:=YB hp he oi
  refine⟨[(7,.ptr 2 0 0),(8,.ptr 3 0 0)],.ready,?_,?_⟩
  ·by_cases h1:os = []
   ·subst h1;rw[x4];simp
   ·by_cases h2:iI os = []
    ·rw[s5 g p h1 h2];simp
    ·rw[pG g p h1 h2];simp
  have ry:=f49 g hg p hp
  by_cases h1:os = []
  ·subst h1
   rw[x4]
   cases oK:g.lq
   ·simp only[dG,eU.cells,oK]at ry
    simp[oK,fZ]
    (with_reducible repeat' first|refine Xk ?_<;>try simp|refine Xs ?_ ?_<;>intro h<;>(try intro h')<;>(try simp[h])<;>(try omega)|refine Xg ?_|omega)
    refine Yt (ry) ?_
    simp
    (with_reducible repeat' first|refine Xk ?_<;>try simp|refine Xs ?_ ?_<;>intro h<;>(try intro h')<;>(try simp[h])<;>(try omega)|refine Xg ?_|omega)
    have hm:=gu (by simp[iI])
    by_cases hd:iV (kN p) = []
    ·rw[hd]at hm
     simp[hd]
     refine tJ.c rfl rfl (f48 [] (by simp) (by simp)) rfl (by simp) ?_
     simp[jY]at hm
     simp[hm]
    ·have N3:0<(iV (kN p)).length:=az.2 hd
     simp[jY]at hm
     have hf:=f48 (iV (kN p)) gH (by omega)
     rw[← rA hd,hm]at hf
     simp[hd]
     (with_reducible repeat' first|refine Xk ?_<;>try simp|refine Xs ?_ ?_<;>intro h<;>(try intro h')<;>(try simp[h])<;>(try omega)|refine Xg ?_|omega)
     refine qx.z (d:=dN 5 Pos.cells (gU g p)) 5 rfl rfl hf (by simp) (by simp) (by simp[rowsOf]) (by simp) (by simp) ?_
     simp
   ·simp only[dG,eU.cells,oK]at ry
    simp[oK,fZ]
    (with_reducible repeat' first|refine Xk ?_<;>try simp|refine Xs ?_ ?_<;>intro h<;>(try intro h')<;>(try simp[h])<;>(try omega)|refine Xg ?_|omega)
    refine Yt (ry) ?_
    simp
    (with_reducible repeat' first|refine Xk ?_<;>try simp|refine Xs ?_ ?_<;>intro h<;>(try intro h')<;>(try simp[h])<;>(try omega)|refine Xg ?_|omega)
    have hm:=gu (by simp[iI])
    by_cases hd:iV (kN p) = []
    ·rw[hd]at hm
     simp[hd]
     refine tJ.c rfl rfl (f48 [] (by simp) (by simp)) rfl (by simp) ?_
     simp[jY]at hm
     simp[hm]
    ·have N3:0<(iV (kN p)).length:=az.2 hd
     simp[jY]at hm
     have hf:=f48 (iV (kN p)) gH (by omega)
     rw[← rA hd,hm]at hf
     simp[hd]
     (with_reducible repeat' first|refine Xk ?_<;>try simp|refine Xs ?_ ?_<;>intro h<;>(try intro h')<;>(try simp[h])<;>(try omega)|refine Xg ?_|omega)
     refine qx.z (d:=dN 5 Pos.cells (gU g p)) 5 rfl rfl hf (by simp) (by simp) (by simp[rowsOf]) (by simp) (by simp) ?_
     simp
  ·by_cases h2:iI os = []
   ·rw[s5 g p h1 h2]
    cases oK:g.lq
    ·simp only[dG,eU.cells,oK]at ry
     simp[oK,fZ]
     (with_reducible repeat' first|refine Xk ?_<;>try simp|refine Xs ?_ ?_<;>intro h<;>(try intro h')<;>(try simp[h])<;>(try omega)|refine Xg ?_|omega)
     refine Yt (ry) ?_
     simp
     (with_reducible repeat' first|refine Xk ?_<;>try simp|refine Xs ?_ ?_<;>intro h<;>(try intro h')<;>(try simp[h])<;>(try omega)|refine Xg ?_|omega)
     have hm:=gu (by simp[h2])
     have hL:jY os++iV (kN p)≠[]:=fun e=>h1 (by have:=(dE.1 e).1;simpa[jY]using this)
     have hf:=f48 (jY os++iV (kN p)) (fun q hq=>(List.mem_append.1 hq).elim (FY q) (gH q)) (by simp;omega)
     rw[← rA hL,hm]at hf
     refine qx.z (d:=dN 5 Pos.cells (gU g p)) 4 rfl rfl hf (by simp[fZ]) (by simp[fZ]) (by simp[rowsOf]) (by simp) (by simp) ?_
     simp
    ·simp only[dG,eU.cells,oK]at ry
     simp[oK,fZ,h2]
     (with_reducible repeat' first|refine Xk ?_<;>try simp|refine Xs ?_ ?_<;>intro h<;>(try intro h')<;>(try simp[h])<;>(try omega)|refine Xg ?_|omega)
     refine Yt (ry) ?_
     simp
     (with_reducible repeat' first|refine Xk ?_<;>try simp|refine Xs ?_ ?_<;>intro h<;>(try intro h')<;>(try simp[h])<;>(try omega)|refine Xg ?_|omega)
     have hm:=gu (by simp[h2])
     have hL:jY os++iV (kN p)≠[]:=fun e=>h1 (by have:=(dE.1 e).1;simpa[jY]using this)
     have hf:=f48 (jY os++iV (kN p)) (fun q hq=>(List.mem_append.1 hq).elim (FY q) (gH q)) (by simp;omega)
     rw[← rA hL,hm]at hf
     refine qx.z (d:=dN 5 Pos.cells (gU g p)) 4 rfl rfl hf (by simp[fZ]) (by simp[fZ]) (by simp[rowsOf]) (by simp) (by simp) ?_
     simp
   ·rw[pG g p h1 h2]
    cases oK:g.lq
    ·simp only[dG,eU.cells,oK]at ry
     simp[oK,fZ]
     (with_reducible repeat' first|refine Xk ?_<;>try simp|refine Xs ?_ ?_<;>intro h<;>(try intro h')<;>(try simp[h])<;>(try omega)|refine Xg ?_|omega)
     refine Yt (ry) ?_
     simp
     (with_reducible repeat' first|refine Xk ?_<;>try simp|refine Xs ?_ ?_<;>intro h<;>(try intro h')<;>(try simp[h])<;>(try omega)|refine Xg ?_|omega)
     have hm:=gu (by simp[oK])
     have hL:jY os++iV (kN p)≠[]:=fun e=>h1 (by have:=(dE.1 e).1;simpa[jY]using this)
     have hf:=f48 (jY os++iV (kN p)) (fun q hq=>(List.mem_append.1 hq).elim (FY q) (gH q)) (by simp;omega)
     rw[← rA hL,hm]at hf
     refine qx.z (d:=dN 5 Pos.cells (gU g p)) 4 rfl rfl hf (by simp[fZ]) (by simp[fZ]) (by simp[rowsOf]) (by simp) (by simp) ?_
     simp
    ·have h3:0<(iI os).length:=az.2 h2
     simp[oK,fZ,h3]
     (with_reducible repeat' first|refine Xk ?_<;>try simp|refine Xs ?_ ?_<;>intro h<;>(try intro h')<;>(try simp[h])<;>(try omega)|refine Xg ?_|omega)
     refine fw.c (x:=dN 5 Pos.cells (iV (iI os))) rfl rfl (by rw[rA h2];exact f48 (iI os) fg (by omega)) (by simp) (by simp) ?_
     simp[qP oK h2]
     (with_reducible repeat' first|refine Xk ?_<;>try simp|refine Xs ?_ ?_<;>intro h<;>(try intro h')<;>(try simp[h])<;>(try omega)|refine Xg ?_|omega)
