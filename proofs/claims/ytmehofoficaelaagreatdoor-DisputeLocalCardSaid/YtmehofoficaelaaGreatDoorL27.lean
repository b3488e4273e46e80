/- Part 27 of DisputeLocal. -/
import Derived.Test.YtmehofoficaelaaGreatDoorL26
set_option linter.all false
namespace Go.Proofs.YtmehofoficaelaaGreatDoor
open Go Go.AL Classical
set_option maxRecDepth 10000
set_option maxHeartbeats 8000000
def I6{os:List fV}{q:Pos}:q∈jx os↔⟨q,true⟩∈os:=by
 unfold jx
 rw[aw]
 constructor
 ·rintro⟨⟨p,t⟩,h,rfl⟩
  rw[aP]at h
  have:=h.2
  dsimp only at this
  subst this
  exact h.1
 ·intro h
  exact⟨_,aP.2 ⟨h,rfl⟩,rfl⟩
def aan{g:eY}{p:Pos}(he:¬ ended g p){os:List fV}(pk:∀ o,o∈os↔o∈oJ g p)(hm:g.om=true)(h:jx os≠[]):jL (jx os)=ig g p:=by
 refine Mj (yE _) fun q=>?_
 obtain⟨x,r,e⟩:=dW h
 have hx:⟨x,true⟩∈oJ g p:=(pk _).1 (I6.1 (by rw[e];simp))
 rw[sB,I6,pk,pa,if_pos ⟨hm,_,hx,rfl⟩]
 exact⟨fun h=>⟨CS he,h⟩,fun h=>h.2⟩
def aam{g:eY}{p:Pos}(hp:gG g p)(he:¬ ended g p){os:List fV}(pk:∀ o,o∈os↔o∈oJ g p)(hm:¬ (g.om=true∧jx os≠[])):jL (lj os++jL (lW p))=ig g p:=by
 refine Mj (yE _) fun q=>?_
 have hn:¬ (g.om=true∧∃ o∈oJ g p,o.jb=true):=fun⟨a,o,h,t⟩=>hm ⟨a,fun e=>by
  have:o.p∈jx os:=I6.2 ((pk _).2 (by obtain⟨x,y⟩:=o;dsimp only at t;subst t;exact h))
  rw[e]at this;cases this⟩
 rw[sB,List.mem_append,sB,GY hp,pa,if_neg hn]
 have:q∈lj os↔∃ o∈oJ g p,o.p=q:=by
  unfold lj
  rw[aw]
  exact⟨fun⟨o,h,e⟩=>⟨o,(pk o).1 h,e⟩,fun⟨o,h,e⟩=>⟨o,(pk o).2 h,e⟩⟩
 rw[this]
 exact⟨fun h=>⟨CS he,h⟩,fun h=>h.2⟩
def f47(g:eY)(p:Pos):Wf T 148 [dG g,dP p] [] (Is (.fn (.func 213) [] [.fj p.cells,.fj g.cells])):=by
 refine Yg FM ?_
 simp[FM]
def f26(g:eY)(hg:gh g)(p:Pos)(hp:gG g p):Wf T 94 [dG g,dP p] [] (Is (dN 5 Pos.cells (ig g p))):=by
 refine Yz AR (jJ 41 [1040] AR.body) ?_
 simp[AR,iu,jJ,mj,mn,mG,ln]
 refine Yq (f46 g hg p hp) fun n hn=>?_
 simp
 by_cases he:ended g p
 ·simp[he]
  rw[Ih he];rfl
 ·simp[he]
  (with_reducible repeat' first|refine Xk ?_<;>try simp|refine Xs ?_ ?_<;>intro h<;>(try intro h')<;>(try simp[h])<;>try omega|refine Xg ?_|omega)
  refine Yc (f47 g p) ?_
  simp
  refine wV.r (f:=213) (first:=[]) (cap:=[.fj p.cells,.fj g.cells]) rfl rfl rfl rfl ?_
  simp
  refine Wf.mono (f83 g hg p hp) ?_
  rintro _ H' ⟨os,pk,hlen,rfl⟩
  have gu:=Oq os
  have HQ:=Ty os
  have HM:∀ q∈lj os,Small q:=fun q hq=>by
   obtain⟨o,ho,rfl⟩:=aw.1 hq
   exact(Ix hg hp ((pk o).1 ho)).small hg
  have fm:∀ q∈jx os,Small q:=fun q hq=>HM q (aw.2 ⟨_,I6.1 hq,rfl⟩)
  have iE:∀ q∈jL (lW p),Small q:=fun q hq=>by
   rw[sB,GY hp]at hq
   exact(Bs hp hq).small hg
  have al3:(jL (lW p)).length≤18:=Nat.le_trans (IW _) (JQ hg hp)
  have vV:=aan (p:=p) he pk
  have jO:=aam hp he pk
  refine⟨[(7,.ptr 2 0 0),(8,.ptr 3 0 0)],.ready,?_,?_⟩
  ·by_cases h1:os = []
   ·subst h1;rw[zM];simp
   ·by_cases h2:jx os = []
    ·rw[uq g p h1 h2];simp
    ·rw[qC g p h1 h2];simp
  have sP:=f49 g hg p hp
  by_cases h1:os = []
  ·subst h1
   rw[zM]
   cases pI:g.om
   ·simp only[dG,eY.cells,pI]at sP
    simp[pI,gu]
    (with_reducible repeat' first|refine Xk ?_<;>try simp|refine Xs ?_ ?_<;>intro h<;>(try intro h')<;>(try simp[h])<;>try omega|refine Xg ?_|omega)
    refine Yt (sP) ?_
    simp
    (with_reducible repeat' first|refine Xk ?_<;>try simp|refine Xs ?_ ?_<;>intro h<;>(try intro h')<;>(try simp[h])<;>try omega|refine Xg ?_|omega)
    have hm:=jO (by simp[jx])
    by_cases hd:jL (lW p) = []
    ·rw[hd]at hm
     simp[hd]
     refine sO.c rfl rfl (f48 [] (by simp) (by simp)) rfl (by simp) ?_
     simp[lj]at hm
     simp[hm]
    ·have XE:0<(jL (lW p)).length:=ay.2 hd
     simp[lj]at hm
     have hf:=f48 (jL (lW p)) iE (by omega)
     rw[← sU hd,hm]at hf
     simp[hd]
     (with_reducible repeat' first|refine Xk ?_<;>try simp|refine Xs ?_ ?_<;>intro h<;>(try intro h')<;>(try simp[h])<;>try omega|refine Xg ?_|omega)
     refine qX.z (d:=dN 5 Pos.cells (ig g p)) 5 rfl rfl hf (by simp) (by simp) (by simp[rowsOf]) (by simp) (by simp) ?_
     simp
   ·simp only[dG,eY.cells,pI]at sP
    simp[pI,gu]
    (with_reducible repeat' first|refine Xk ?_<;>try simp|refine Xs ?_ ?_<;>intro h<;>(try intro h')<;>(try simp[h])<;>try omega|refine Xg ?_|omega)
    refine Yt (sP) ?_
    simp
    (with_reducible repeat' first|refine Xk ?_<;>try simp|refine Xs ?_ ?_<;>intro h<;>(try intro h')<;>(try simp[h])<;>try omega|refine Xg ?_|omega)
    have hm:=jO (by simp[jx])
    by_cases hd:jL (lW p) = []
    ·rw[hd]at hm
     simp[hd]
     refine sO.c rfl rfl (f48 [] (by simp) (by simp)) rfl (by simp) ?_
     simp[lj]at hm
     simp[hm]
    ·have XE:0<(jL (lW p)).length:=ay.2 hd
     simp[lj]at hm
     have hf:=f48 (jL (lW p)) iE (by omega)
     rw[← sU hd,hm]at hf
     simp[hd]
     (with_reducible repeat' first|refine Xk ?_<;>try simp|refine Xs ?_ ?_<;>intro h<;>(try intro h')<;>(try simp[h])<;>try omega|refine Xg ?_|omega)
     refine qX.z (d:=dN 5 Pos.cells (ig g p)) 5 rfl rfl hf (by simp) (by simp) (by simp[rowsOf]) (by simp) (by simp) ?_
     simp
  ·by_cases h2:jx os = []
   ·rw[uq g p h1 h2]
    cases pI:g.om
    ·simp only[dG,eY.cells,pI]at sP
     simp[pI,gu]
     (with_reducible repeat' first|refine Xk ?_<;>try simp|refine Xs ?_ ?_<;>intro h<;>(try intro h')<;>(try simp[h])<;>try omega|refine Xg ?_|omega)
     refine Yt (sP) ?_
     simp
     (with_reducible repeat' first|refine Xk ?_<;>try simp|refine Xs ?_ ?_<;>intro h<;>(try intro h')<;>(try simp[h])<;>try omega|refine Xg ?_|omega)
     have hm:=jO (by simp[h2])
     have hL:lj os++jL (lW p)≠[]:=fun e=>h1 (by have:=(dw.1 e).1;simpa[lj]using this)
     have hf:=f48 (lj os++jL (lW p)) (fun q hq=>(List.mem_append.1 hq).elim (HM q) (iE q)) (by simp;omega)
     rw[← sU hL,hm]at hf
     refine qX.z (d:=dN 5 Pos.cells (ig g p)) 4 rfl rfl hf (by simp[gu]) (by simp[gu]) (by simp[rowsOf]) (by simp) (by simp) ?_
     simp
    ·simp only[dG,eY.cells,pI]at sP
     simp[pI,gu,h2]
     (with_reducible repeat' first|refine Xk ?_<;>try simp|refine Xs ?_ ?_<;>intro h<;>(try intro h')<;>(try simp[h])<;>try omega|refine Xg ?_|omega)
     refine Yt (sP) ?_
     simp
     (with_reducible repeat' first|refine Xk ?_<;>try simp|refine Xs ?_ ?_<;>intro h<;>(try intro h')<;>(try simp[h])<;>try omega|refine Xg ?_|omega)
     have hm:=jO (by simp[h2])
     have hL:lj os++jL (lW p)≠[]:=fun e=>h1 (by have:=(dw.1 e).1;simpa[lj]using this)
     have hf:=f48 (lj os++jL (lW p)) (fun q hq=>(List.mem_append.1 hq).elim (HM q) (iE q)) (by simp;omega)
     rw[← sU hL,hm]at hf
     refine qX.z (d:=dN 5 Pos.cells (ig g p)) 4 rfl rfl hf (by simp[gu]) (by simp[gu]) (by simp[rowsOf]) (by simp) (by simp) ?_
     simp
   ·rw[qC g p h1 h2]
    cases pI:g.om
    ·simp only[dG,eY.cells,pI]at sP
     simp[pI,gu]
     (with_reducible repeat' first|refine Xk ?_<;>try simp|refine Xs ?_ ?_<;>intro h<;>(try intro h')<;>(try simp[h])<;>try omega|refine Xg ?_|omega)
     refine Yt (sP) ?_
     simp
     (with_reducible repeat' first|refine Xk ?_<;>try simp|refine Xs ?_ ?_<;>intro h<;>(try intro h')<;>(try simp[h])<;>try omega|refine Xg ?_|omega)
     have hm:=jO (by simp[pI])
     have hL:lj os++jL (lW p)≠[]:=fun e=>h1 (by have:=(dw.1 e).1;simpa[lj]using this)
     have hf:=f48 (lj os++jL (lW p)) (fun q hq=>(List.mem_append.1 hq).elim (HM q) (iE q)) (by simp;omega)
     rw[← sU hL,hm]at hf
     refine qX.z (d:=dN 5 Pos.cells (ig g p)) 4 rfl rfl hf (by simp[gu]) (by simp[gu]) (by simp[rowsOf]) (by simp) (by simp) ?_
     simp
    ·have h3:0<(jx os).length:=ay.2 h2
     simp[pI,gu,h3]
     (with_reducible repeat' first|refine Xk ?_<;>try simp|refine Xs ?_ ?_<;>intro h<;>(try intro h')<;>(try simp[h])<;>try omega|refine Xg ?_|omega)
     refine fG.c (x:=dN 5 Pos.cells (jL (jx os))) rfl rfl (by rw[sU h2];exact f48 (jx os) fm (by omega)) (by simp) (by simp) ?_
     simp[vV pI h2]
     (with_reducible repeat' first|refine Xk ?_<;>try simp|refine Xs ?_ ?_<;>intro h<;>(try intro h')<;>(try simp[h])<;>try omega|refine Xg ?_|omega)
