/- Part 27 of the proof of skewer.skewerlaw15.TableZero. -/
import Derived.Test.YtnaefnajkaohgaaGreatDoorF26
set_option linter.all false
namespace Go.Proofs.YtnaefnajkaohgaaGreatDoor
open Go Go.AL Classical
set_option maxRecDepth 10000
set_option maxHeartbeats 8000000
theorem EJ{os:List eW}{q:Pos}:q∈gY os↔⟨q,true⟩∈os:=by
 unfold gY
 rw[aw]
 constructor
 ·rintro⟨⟨p,t⟩,h,rfl⟩
  rw[aT]at h
  have:=h.2
  dsimp only at this
  subst this
  exact h.1
 ·intro h
  exact⟨_,aT.2 ⟨h,rfl⟩,rfl⟩
theorem TX{g:ew}{p:Pos}(he:¬ ended g p){os:List eW}(mI:∀ o,o∈os↔o∈l7 g p)(hm:g.kT=true)(h:gY os≠[]):il (gY os)=fV g p:=by
 refine Hu (uP _) fun q=>?_
 obtain⟨x,r,e⟩:=dy h
 have hx:⟨x,true⟩∈l7 g p:=(mI _).1 (EJ.1 (by rw[e];simp))
 rw[pJ,EJ,mI,mz,if_pos ⟨hm,_,hx,rfl⟩]
 exact⟨fun h=>⟨yZ he,h⟩,fun h=>h.2⟩
theorem TW{g:ew}{p:Pos}(hp:fj g p)(he:¬ ended g p){os:List eW}(mI:∀ o,o∈os↔o∈l7 g p)(hm:¬ (g.kT=true∧gY os≠[])):il (jn os++il (jJ p))=fV g p:=by
 refine Hu (uP _) fun q=>?_
 have hn:¬ (g.kT=true∧∃ o∈l7 g p,o.gL=true):=fun⟨a,o,h,t⟩=>hm ⟨a,fun e=>by
  have:o.p∈gY os:=EJ.2 ((mI _).2 (by obtain⟨x,y⟩:=o;dsimp only at t;subst t;exact h))
  rw[e]at this;cases this⟩
 rw[pJ,List.mem_append,pJ,CH hp,mz,if_neg hn]
 have:q∈jn os↔∃ o∈l7 g p,o.p=q:=by
  unfold jn
  rw[aw]
  exact⟨fun⟨o,h,e⟩=>⟨o,(mI o).1 h,e⟩,fun⟨o,h,e⟩=>⟨o,(mI o).2 h,e⟩⟩
 rw[this]
 exact⟨fun h=>⟨yZ he,h⟩,fun h=>h.2⟩
theorem f47(g:ew)(p:Pos):Wf T 47 [dG g,dP p] [] (Is (.fn (.func 83) [] [.eF p.cells,.eF g.cells])):=by
 refine Yg BC ?_
 simp[BC]
theorem f26(g:ew)(hg:eU g)(p:Pos)(hp:fj g p):Wf T 26 [dG g,dP p] [] (Is (dN 5 Pos.cells (fV g p))):=by
 refine Yz wQ (iw 41 [1040] wQ.body) ?_
 simp[wQ,gj,iw,ky,kA,kK,jy]
 refine Yq (f46 g hg p hp) fun n hn=>?_
 simp
 by_cases he:ended g p
 ·simp[he]
  rw[Ht he];rfl
 ·simp[he]
  (with_reducible repeat' first|refine Xk ?_<;>try simp|refine Xs ?_ ?_<;>intro h<;>(try intro h')<;>(try simp[h])<;>(try omega)|refine Xg ?_|omega)
  refine Yc (f47 g p) ?_
  simp
  refine u7.r (f:=83) (first:=[]) (cap:=[.eF p.cells,.eF g.cells]) rfl rfl rfl rfl ?_
  simp
  refine Wf.mono (f83 g hg p hp) ?_
  rintro _ H' ⟨os,mI,hlen,rfl⟩
  have fr:=Jm os
  have R6:=NO os
  have Dr:∀ q∈jn os,Small q:=fun q hq=>by
   obtain⟨o,ho,rfl⟩:=aw.1 hq
   exact(D3 hg hp ((mI o).1 ho)).small hg
  have eH:∀ q∈gY os,Small q:=fun q hq=>Dr q (aw.2 ⟨_,EJ.1 hq,rfl⟩)
  have gp:∀ q∈il (jJ p),Small q:=fun q hq=>by
   rw[pJ,CH hp]at hq
   exact(xE hp hq).small hg
  have aff:(il (jJ p)).length≤18:=Nat.le_trans (Ew _) (Fq hg hp)
  have vT:=TX (p:=p) he mI
  have iq:=TW hp he mI
  refine⟨[(7,.ptr 2 0 0),(8,.ptr 3 0 0)],.ready,?_,?_⟩
  ·by_cases h1:os = []
   ·subst h1;rw[vL];simp
   ·by_cases h2:gY os = []
    ·rw[q' g p h1 h2];simp
    ·rw[n9 g p h1 h2];simp
  have pW:=f49 g hg p hp
  by_cases h1:os = []
  ·subst h1
   rw[vL]
   cases mY:g.kT
   ·simp only[dG,ew.cells,mY]at pW
    simp[mY,fr]
    (with_reducible repeat' first|refine Xk ?_<;>try simp|refine Xs ?_ ?_<;>intro h<;>(try intro h')<;>(try simp[h])<;>(try omega)|refine Xg ?_|omega)
    refine Yt (pW) ?_
    simp
    (with_reducible repeat' first|refine Xk ?_<;>try simp|refine Xs ?_ ?_<;>intro h<;>(try intro h')<;>(try simp[h])<;>(try omega)|refine Xg ?_|omega)
    have hm:=iq (by simp[gY])
    by_cases hd:il (jJ p) = []
    ·rw[hd]at hm
     simp[hd]
     refine rN.c rfl rfl (f48 [] (by simp) (by simp)) rfl (by simp) ?_
     simp[jn]at hm
     simp[hm]
    ·have QY:0<(il (jJ p)).length:=aB.2 hd
     simp[jn]at hm
     have hf:=f48 (il (jJ p)) gp (by omega)
     rw[← pZ hd,hm]at hf
     simp[hd]
     (with_reducible repeat' first|refine Xk ?_<;>try simp|refine Xs ?_ ?_<;>intro h<;>(try intro h')<;>(try simp[h])<;>(try omega)|refine Xg ?_|omega)
     refine o3.z (d:=dN 5 Pos.cells (fV g p)) 5 rfl rfl hf (by simp) (by simp) (by simp[rowsOf]) (by simp) (by simp) ?_
     simp
   ·simp only[dG,ew.cells,mY]at pW
    simp[mY,fr]
    (with_reducible repeat' first|refine Xk ?_<;>try simp|refine Xs ?_ ?_<;>intro h<;>(try intro h')<;>(try simp[h])<;>(try omega)|refine Xg ?_|omega)
    refine Yt (pW) ?_
    simp
    (with_reducible repeat' first|refine Xk ?_<;>try simp|refine Xs ?_ ?_<;>intro h<;>(try intro h')<;>(try simp[h])<;>(try omega)|refine Xg ?_|omega)
    have hm:=iq (by simp[gY])
    by_cases hd:il (jJ p) = []
    ·rw[hd]at hm
     simp[hd]
     refine rN.c rfl rfl (f48 [] (by simp) (by simp)) rfl (by simp) ?_
     simp[jn]at hm
     simp[hm]
    ·have QY:0<(il (jJ p)).length:=aB.2 hd
     simp[jn]at hm
     have hf:=f48 (il (jJ p)) gp (by omega)
     rw[← pZ hd,hm]at hf
     simp[hd]
     (with_reducible repeat' first|refine Xk ?_<;>try simp|refine Xs ?_ ?_<;>intro h<;>(try intro h')<;>(try simp[h])<;>(try omega)|refine Xg ?_|omega)
     refine o3.z (d:=dN 5 Pos.cells (fV g p)) 5 rfl rfl hf (by simp) (by simp) (by simp[rowsOf]) (by simp) (by simp) ?_
     simp
  ·by_cases h2:gY os = []
   ·rw[q' g p h1 h2]
    cases mY:g.kT
    ·simp only[dG,ew.cells,mY]at pW
     simp[mY,fr]
     (with_reducible repeat' first|refine Xk ?_<;>try simp|refine Xs ?_ ?_<;>intro h<;>(try intro h')<;>(try simp[h])<;>(try omega)|refine Xg ?_|omega)
     refine Yt (pW) ?_
     simp
     (with_reducible repeat' first|refine Xk ?_<;>try simp|refine Xs ?_ ?_<;>intro h<;>(try intro h')<;>(try simp[h])<;>(try omega)|refine Xg ?_|omega)
     have hm:=iq (by simp[h2])
     have hL:jn os++il (jJ p)≠[]:=fun e=>h1 (by have:=(c9.1 e).1;simpa[jn]using this)
     have hf:=f48 (jn os++il (jJ p)) (fun q hq=>(List.mem_append.1 hq).elim (Dr q) (gp q)) (by simp;omega)
     rw[← pZ hL,hm]at hf
     refine o3.z (d:=dN 5 Pos.cells (fV g p)) 4 rfl rfl hf (by simp[fr]) (by simp[fr]) (by simp[rowsOf]) (by simp) (by simp) ?_
     simp
    ·simp only[dG,ew.cells,mY]at pW
     simp[mY,fr,h2]
     (with_reducible repeat' first|refine Xk ?_<;>try simp|refine Xs ?_ ?_<;>intro h<;>(try intro h')<;>(try simp[h])<;>(try omega)|refine Xg ?_|omega)
     refine Yt (pW) ?_
     simp
     (with_reducible repeat' first|refine Xk ?_<;>try simp|refine Xs ?_ ?_<;>intro h<;>(try intro h')<;>(try simp[h])<;>(try omega)|refine Xg ?_|omega)
     have hm:=iq (by simp[h2])
     have hL:jn os++il (jJ p)≠[]:=fun e=>h1 (by have:=(c9.1 e).1;simpa[jn]using this)
     have hf:=f48 (jn os++il (jJ p)) (fun q hq=>(List.mem_append.1 hq).elim (Dr q) (gp q)) (by simp;omega)
     rw[← pZ hL,hm]at hf
     refine o3.z (d:=dN 5 Pos.cells (fV g p)) 4 rfl rfl hf (by simp[fr]) (by simp[fr]) (by simp[rowsOf]) (by simp) (by simp) ?_
     simp
   ·rw[n9 g p h1 h2]
    cases mY:g.kT
    ·simp only[dG,ew.cells,mY]at pW
     simp[mY,fr]
     (with_reducible repeat' first|refine Xk ?_<;>try simp|refine Xs ?_ ?_<;>intro h<;>(try intro h')<;>(try simp[h])<;>(try omega)|refine Xg ?_|omega)
     refine Yt (pW) ?_
     simp
     (with_reducible repeat' first|refine Xk ?_<;>try simp|refine Xs ?_ ?_<;>intro h<;>(try intro h')<;>(try simp[h])<;>(try omega)|refine Xg ?_|omega)
     have hm:=iq (by simp[mY])
     have hL:jn os++il (jJ p)≠[]:=fun e=>h1 (by have:=(c9.1 e).1;simpa[jn]using this)
     have hf:=f48 (jn os++il (jJ p)) (fun q hq=>(List.mem_append.1 hq).elim (Dr q) (gp q)) (by simp;omega)
     rw[← pZ hL,hm]at hf
     refine o3.z (d:=dN 5 Pos.cells (fV g p)) 4 rfl rfl hf (by simp[fr]) (by simp[fr]) (by simp[rowsOf]) (by simp) (by simp) ?_
     simp
    ·have h3:0<(gY os).length:=aB.2 h2
     simp[mY,fr,h3]
     (with_reducible repeat' first|refine Xk ?_<;>try simp|refine Xs ?_ ?_<;>intro h<;>(try intro h')<;>(try simp[h])<;>(try omega)|refine Xg ?_|omega)
     refine eS.c (x:=dN 5 Pos.cells (il (gY os))) rfl rfl (by rw[pZ h2];exact f48 (gY os) eH (by omega)) (by simp) (by simp) ?_
     simp[vT mY h2]
     (with_reducible repeat' first|refine Xk ?_<;>try simp|refine Xs ?_ ?_<;>intro h<;>(try intro h')<;>(try simp[h])<;>(try omega)|refine Xg ?_|omega)
