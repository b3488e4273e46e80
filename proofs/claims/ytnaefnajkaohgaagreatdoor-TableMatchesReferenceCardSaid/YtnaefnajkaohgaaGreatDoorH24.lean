/- 24 -/
import Derived.Test.YtnaefnajkaohgaaGreatDoorH23
set_option linter.all false
namespace Go.Proofs.YtnaefnajkaohgaaGreatDoor
open Go Go.AL Classical
set_option maxRecDepth 10000
set_option maxHeartbeats 8000000
def Ju{os:List fD}{q:Pos}:q∈ji os↔⟨q,true⟩∈os:=by
 unfold ji
 rw[ao]
 constructor
 ·rintro⟨⟨p,t⟩,h,rfl⟩
  rw[aH]at h
  have:=h.2
  dsimp only at this
  subst this
  exact h.1
 ·intro h
  exact⟨_,aH.2 ⟨h,rfl⟩,rfl⟩
def aaI{g:eH}{p:Pos}(he:¬ ended g p){os:List fD}(pD:∀ o,o∈os↔o∈oN g p)(hm:g.lg=true)(h:ji os≠[]):jy (ji os)=gR g p:=by
 refine Mo (yz _) fun q=>?_
 obtain⟨x,r,e⟩:=dM h
 have hx:⟨x,true⟩∈oN g p:=(pD _).1 (Ju.1 (by rw[e];simp))
 rw[sO,Ju,pD,pj,if_pos ⟨hm,_,hx,rfl⟩]
 exact⟨fun h=>⟨CW he,h⟩,fun h=>h.2⟩
def aaH{g:eH}{p:Pos}(hp:fO g p)(he:¬ ended g p){os:List fD}(pD:∀ o,o∈os↔o∈oN g p)(hm:¬ (g.lg=true∧ji os≠[])):jy (k7 os++jy (lR p))=gR g p:=by
 refine Mo (yz _) fun q=>?_
 have hn:¬ (g.lg=true∧∃ o∈oN g p,o.iL=true):=fun⟨a,o,h,t⟩=>hm ⟨a,fun e=>by
  have:o.p∈ji os:=Ju.2 ((pD _).2 (by obtain⟨x,y⟩:=o;dsimp only at t;subst t;exact h))
  rw[e]at this;cases this⟩
 rw[sO,List.mem_append,sO,G7 hp,pj,if_neg hn]
 have:q∈k7 os↔∃ o∈oN g p,o.p=q:=by
  unfold k7
  rw[ao]
  exact⟨fun⟨o,h,e⟩=>⟨o,(pD o).1 h,e⟩,fun⟨o,h,e⟩=>⟨o,(pD o).2 h,e⟩⟩
 rw[this]
 exact⟨fun h=>⟨CW he,h⟩,fun h=>h.2⟩
def f47(g:eH)(p:Pos):Wf T 47 [dG g,dP p] [] (Is (.fn (.func 83) [] [.eW p.cells,.eW g.cells])):=by
 refine Yg FJ ?_
 simp[FJ]
def f26(g:eH)(hg:fe g)(p:Pos)(hp:fO g p):Wf T 26 [dG g,dP p] [] (Is (dN 5 Pos.cells (gR g p))):=by
 refine Yz AS (jg 41 [1040] AS.body) ?_
 simp[AS,gL,jg,lD,lH,lS,ku]
 refine Yq (f46 g hg p hp) fun n hn=>?_
 simp
 by_cases he:ended g p
 ·simp[he]
  rw[ID he];rfl
 ·simp[he]
  (with_reducible repeat' first|refine Xk ?_<;>try simp|refine Xs ?_ ?_<;>intro h<;>(try intro h')<;>(try simp[h])<;>try omega|refine Xg ?_|omega)
  refine Yc (f47 g p) ?_
  simp
  refine rp.r (f:=83) (first:=[]) (cap:=[.eW p.cells,.eW g.cells]) rfl rfl rfl rfl ?_
  simp
  refine Wf.mono (f83 g hg p hp) ?_
  rintro _ H' ⟨os,pD,hlen,rfl⟩
  have gg:=NZ os
  have YM:=Td os
  have H6:∀ q∈k7 os,Small q:=fun q hq=>by
   obtain⟨o,ho,rfl⟩:=ao.1 hq
   exact(IQ hg hp ((pD o).1 ho)).small hg
  have eX:∀ q∈ji os,Small q:=fun q hq=>H6 q (ao.2 ⟨_,Ju.1 hq,rfl⟩)
  have ik:∀ q∈jy (lR p),Small q:=fun q hq=>by
   rw[sO,G7 hp]at hq
   exact(BA hp hq).small hg
  have al4:(jy (lR p)).length≤18:=Nat.le_trans (Jk _) (J8 hg hp)
  have qt:=aaI (p:=p) he pD
  have iF:=aaH hp he pD
  refine⟨[(7,.ptr 2 0 0),(8,.ptr 3 0 0)],.ready,?_,?_⟩
  ·by_cases h1:os = []
   ·subst h1;rw[zM];simp
   ·by_cases h2:ji os = []
    ·rw[uQ g p h1 h2];simp
    ·rw[qP g p h1 h2];simp
  have tc:=f49 g hg p hp
  by_cases h1:os = []
  ·subst h1
   rw[zM]
   cases pT:g.lg
   ·simp only[dG,eH.cells,pT]at tc
    simp[pT,gg]
    (with_reducible repeat' first|refine Xk ?_<;>try simp|refine Xs ?_ ?_<;>intro h<;>(try intro h')<;>(try simp[h])<;>try omega|refine Xg ?_|omega)
    refine Yt (tc) ?_
    simp
    (with_reducible repeat' first|refine Xk ?_<;>try simp|refine Xs ?_ ?_<;>intro h<;>(try intro h')<;>(try simp[h])<;>try omega|refine Xg ?_|omega)
    have hm:=iF (by simp[ji])
    by_cases hd:jy (lR p) = []
    ·rw[hd]at hm
     simp[hd]
     refine vu.c rfl rfl (f48 [] (by simp) (by simp)) rfl (by simp) ?_
     simp[k7]at hm
     simp[hm]
    ·have Xh:0<(jy (lR p)).length:=az.2 hd
     simp[k7]at hm
     have hf:=f48 (jy (lR p)) ik (by omega)
     rw[← th hd,hm]at hf
     simp[hd]
     (with_reducible repeat' first|refine Xk ?_<;>try simp|refine Xs ?_ ?_<;>intro h<;>(try intro h')<;>(try simp[h])<;>try omega|refine Xg ?_|omega)
     refine r9.z (d:=dN 5 Pos.cells (gR g p)) 5 rfl rfl hf (by simp) (by simp) (by simp[rowsOf]) (by simp) (by simp) ?_
     simp
   ·simp only[dG,eH.cells,pT]at tc
    simp[pT,gg]
    (with_reducible repeat' first|refine Xk ?_<;>try simp|refine Xs ?_ ?_<;>intro h<;>(try intro h')<;>(try simp[h])<;>try omega|refine Xg ?_|omega)
    refine Yt (tc) ?_
    simp
    (with_reducible repeat' first|refine Xk ?_<;>try simp|refine Xs ?_ ?_<;>intro h<;>(try intro h')<;>(try simp[h])<;>try omega|refine Xg ?_|omega)
    have hm:=iF (by simp[ji])
    by_cases hd:jy (lR p) = []
    ·rw[hd]at hm
     simp[hd]
     refine vu.c rfl rfl (f48 [] (by simp) (by simp)) rfl (by simp) ?_
     simp[k7]at hm
     simp[hm]
    ·have Xh:0<(jy (lR p)).length:=az.2 hd
     simp[k7]at hm
     have hf:=f48 (jy (lR p)) ik (by omega)
     rw[← th hd,hm]at hf
     simp[hd]
     (with_reducible repeat' first|refine Xk ?_<;>try simp|refine Xs ?_ ?_<;>intro h<;>(try intro h')<;>(try simp[h])<;>try omega|refine Xg ?_|omega)
     refine r9.z (d:=dN 5 Pos.cells (gR g p)) 5 rfl rfl hf (by simp) (by simp) (by simp[rowsOf]) (by simp) (by simp) ?_
     simp
  ·by_cases h2:ji os = []
   ·rw[uQ g p h1 h2]
    cases pT:g.lg
    ·simp only[dG,eH.cells,pT]at tc
     simp[pT,gg]
     (with_reducible repeat' first|refine Xk ?_<;>try simp|refine Xs ?_ ?_<;>intro h<;>(try intro h')<;>(try simp[h])<;>try omega|refine Xg ?_|omega)
     refine Yt (tc) ?_
     simp
     (with_reducible repeat' first|refine Xk ?_<;>try simp|refine Xs ?_ ?_<;>intro h<;>(try intro h')<;>(try simp[h])<;>try omega|refine Xg ?_|omega)
     have hm:=iF (by simp[h2])
     have hL:k7 os++jy (lR p)≠[]:=fun e=>h1 (by have:=(du.1 e).1;simpa[k7]using this)
     have hf:=f48 (k7 os++jy (lR p)) (fun q hq=>(List.mem_append.1 hq).elim (H6 q) (ik q)) (by simp;omega)
     rw[← th hL,hm]at hf
     refine r9.z (d:=dN 5 Pos.cells (gR g p)) 4 rfl rfl hf (by simp[gg]) (by simp[gg]) (by simp[rowsOf]) (by simp) (by simp) ?_
     simp
    ·simp only[dG,eH.cells,pT]at tc
     simp[pT,gg,h2]
     (with_reducible repeat' first|refine Xk ?_<;>try simp|refine Xs ?_ ?_<;>intro h<;>(try intro h')<;>(try simp[h])<;>try omega|refine Xg ?_|omega)
     refine Yt (tc) ?_
     simp
     (with_reducible repeat' first|refine Xk ?_<;>try simp|refine Xs ?_ ?_<;>intro h<;>(try intro h')<;>(try simp[h])<;>try omega|refine Xg ?_|omega)
     have hm:=iF (by simp[h2])
     have hL:k7 os++jy (lR p)≠[]:=fun e=>h1 (by have:=(du.1 e).1;simpa[k7]using this)
     have hf:=f48 (k7 os++jy (lR p)) (fun q hq=>(List.mem_append.1 hq).elim (H6 q) (ik q)) (by simp;omega)
     rw[← th hL,hm]at hf
     refine r9.z (d:=dN 5 Pos.cells (gR g p)) 4 rfl rfl hf (by simp[gg]) (by simp[gg]) (by simp[rowsOf]) (by simp) (by simp) ?_
     simp
   ·rw[qP g p h1 h2]
    cases pT:g.lg
    ·simp only[dG,eH.cells,pT]at tc
     simp[pT,gg]
     (with_reducible repeat' first|refine Xk ?_<;>try simp|refine Xs ?_ ?_<;>intro h<;>(try intro h')<;>(try simp[h])<;>try omega|refine Xg ?_|omega)
     refine Yt (tc) ?_
     simp
     (with_reducible repeat' first|refine Xk ?_<;>try simp|refine Xs ?_ ?_<;>intro h<;>(try intro h')<;>(try simp[h])<;>try omega|refine Xg ?_|omega)
     have hm:=iF (by simp[pT])
     have hL:k7 os++jy (lR p)≠[]:=fun e=>h1 (by have:=(du.1 e).1;simpa[k7]using this)
     have hf:=f48 (k7 os++jy (lR p)) (fun q hq=>(List.mem_append.1 hq).elim (H6 q) (ik q)) (by simp;omega)
     rw[← th hL,hm]at hf
     refine r9.z (d:=dN 5 Pos.cells (gR g p)) 4 rfl rfl hf (by simp[gg]) (by simp[gg]) (by simp[rowsOf]) (by simp) (by simp) ?_
     simp
    ·have h3:0<(ji os).length:=az.2 h2
     simp[pT,gg,h3]
     (with_reducible repeat' first|refine Xk ?_<;>try simp|refine Xs ?_ ?_<;>intro h<;>(try intro h')<;>(try simp[h])<;>try omega|refine Xg ?_|omega)
     refine fg.c (x:=dN 5 Pos.cells (jy (ji os))) rfl rfl (by rw[th h2];exact f48 (ji os) eX (by omega)) (by simp) (by simp) ?_
     simp[qt pT h2]
     (with_reducible repeat' first|refine Xk ?_<;>try simp|refine Xs ?_ ?_<;>intro h<;>(try intro h')<;>(try simp[h])<;>try omega|refine Xg ?_|omega)
