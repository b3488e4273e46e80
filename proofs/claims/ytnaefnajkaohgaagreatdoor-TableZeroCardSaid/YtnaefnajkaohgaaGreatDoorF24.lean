/- Part 24 of the proof of skewer.skewerlaw15.TableZero. -/
import Derived.Test.YtnaefnajkaohgaaGreatDoorF23
set_option linter.all false
namespace Go.Proofs.YtnaefnajkaohgaaGreatDoor
open Go Go.AL Classical
set_option maxRecDepth 10000
set_option maxHeartbeats 8000000
theorem qz{k:Int}(h:0≤k):upto (k+1).toNat=upto k.toNat ++ [k]:=by
 rw[show(k+1).toNat=k.toNat+1 by omega]
 simp only[upto,List.range_succ,List.map_append,List.map_cons,List.map_nil]
 rw[bZ h]
@[simp] theorem aj2:upto 0 = []:=rfl
def jg(p:Pos)(k c:Int):List Pos:=if gt (p.hand p.side) k=0∨gt p.cs c≠0 then []else [gW p k c]
def jV(p:Pos)(k:Int):List Pos:=(upto p.cs.length).flatMap (jg p k)
def jJ(p:Pos):List Pos:=(upto (p.hand p.side).length).flatMap (jV p)
theorem CH{g:ew}{p q:Pos}(hp:fj g p):q∈jJ p↔rJ g p q:=by
 have hl:=(hp.hand p.side).len
 unfold jJ jV jg rJ
 simp only[bn,iO]
 constructor
 ·rintro⟨k,⟨k0,k1⟩,c,⟨c0,c1⟩,h⟩
  split at h
  ·cases h
  ·rename_i hn
   simp only[not_or,Decidable.not_not]at hn
   exact⟨k,c,k0,by omega,c0,c1,hn.1,hn.2,List.mem_singleton.1 h⟩
 ·rintro⟨k,c,k0,k1,c0,c1,h1,h2,rfl⟩
  refine⟨k,⟨k0,by omega⟩,c,⟨c0,c1⟩,?_⟩
  rw[if_neg (by simp[h1,h2])];simp
theorem Fq{g:ew}(hg:eU g){p:Pos}(hp:fj g p):(jJ p).length≤18:=by
 have hz:=hp.size
 have hb:=hg.gF.size
 have hk:=hg.kinds
 have hl:=(hp.hand p.side).len
 have:(jJ p).length≤(upto (p.hand p.side).length).length*9:=tE fun k _=>by
  have:(jV p k).length≤(upto p.cs.length).length*1:=tE fun c _=>by unfold jg;split<;>simp
  simp[upto]at this ⊢;omega
 simp[upto]at this
 omega
theorem PM(g:ew)(hg:eU g)(p:Pos)(hp:fj g p)(e:p.side=0):Wf T 49 [dG g,dP p] [] (Is (dN 5 Pos.cells (il (jJ p)))):=by
 have hz:=hp.size
 have hb:=hg.gF.size
 have hk:=hg.kinds
 have iv:=hp.small hg
 have l0:=hp.h0.len
 have l1:=hp.h1.len
 refine Yz rH (gj 68 [1005] (gj 62 [2039] rH.body)) ?_
 simp[rH,gj,iw,ky,kA,kK,jy,e]
 refine eE.e ((0,[]):Int×List Pos) (fun y=>[(3,.ptr 1 0 0),(5,if y.2 = []then .emp else .et 2 (y.2.length-1) 5 0 y.2.length),(15,dI p.h0),(16,.i p.h0.length),(17,.i y.1)]) (fun y=>[.row 41 0 g.cells,.row 44 0 p.cells]++(if y.2 = []then []else [.row 44 (y.2.length-1) (cl Pos.cells y.2)])) (fun y=>0≤y.1∧y.1≤p.h0.length∧y.2=(upto y.1.toNat).flatMap (jV p)∧y.2.length≤9*y.1.toNat) (fun y=>(p.h0.length-y.1).toNat) ?_ ?_
 ·simp
 rintro⟨k,out⟩ ⟨k0,k1,k2,k3⟩
 dsimp only at k0 k1 k2 k3 ⊢
 by_cases hi:k<p.h0.length
 ·by_cases ho:out = []
  ·subst ho
   rw[if_pos rfl,if_pos rfl]
   simp[hi]
   (with_reducible repeat' first|refine Xk ?_<;>try simp|refine Xs ?_ ?_<;>intro h<;>(try intro h')<;>(try simp[h])<;>(try omega)|refine Xg ?_|omega)
   refine eE.e ((0,[]):Int×List Pos) (fun y=>[(3,.ptr 1 0 0),(5,if y.2 = []then .emp else .et 2 (y.2.length-1) 5 0 y.2.length),(6,.i k),(7,.i (gt p.h0 k)),(15,dI p.h0),(16,.i p.h0.length),(17,.i k),(23,dI p.cs),(24,.i p.cs.length),(25,.i y.1)]) (fun y=>[.row 41 0 g.cells,.row 44 0 p.cells]++(if y.2 = []then []else [.row 44 (y.2.length-1) (cl Pos.cells y.2)])) (fun y=>0≤y.1∧y.1≤p.cs.length∧y.2=(upto k.toNat).flatMap (jV p)++(upto y.1.toNat).flatMap (jg p k)∧y.2.length≤9*k.toNat+y.1.toNat) (fun y=>(p.cs.length-y.1).toNat) ?_ ?_
   ·exact⟨by omega,by omega,by dsimp only;simp[← k2],by dsimp only;omega⟩
   rintro⟨c,o⟩ ⟨c0,c1,c2,c3⟩
   dsimp only at c0 c1 c2 c3 ⊢
   by_cases hc:c<p.cs.length
   ·have hd:(upto k.toNat).flatMap (jV p)++(upto (c+1).toNat).flatMap (jg p k)=o++jg p k c:=by
     rw[qz c0,bp,← bg,← c2];simp
    have jX:∀ o2,jg p k c=o2→o++o2=(upto k.toNat).flatMap (jV p)++(upto (c+1).toNat).flatMap (jg p k):=fun o2 h=>by rw[hd,h]
    have hD:jg p k c=if gt p.h0 k=0∨gt p.cs c≠0 then []else [gW p k c]:=by simp[jg,Pos.hand,e]
    by_cases fJ:o = []
    ·subst fJ
     rw[if_pos rfl,if_pos rfl]
     simp[hc]
     by_cases hn:gt p.h0 k=0
     ·simp[hn]
      (with_reducible repeat' first|refine Xk ?_<;>try simp|refine Xs ?_ ?_<;>intro h<;>(try intro h')<;>(try simp[h])<;>(try omega)|refine Xg ?_|omega)
      refine LJ.i (c+1,[]) (by first|rfl|simp[hn]) (by first|rfl|simp[hn]) rfl rfl ?_
      have:=jX [] (by rw[hD,if_pos (.inl hn)])
      rw[av]at this
      exact⟨by dsimp only;omega,by dsimp only;omega,by dsimp only;omega,this,by dsimp only at c3 ⊢;omega⟩
     ·by_cases hv:gt p.cs c=0
      ·simp[hn,hv]
       (with_reducible repeat' first|refine Xk ?_<;>try simp|refine Xs ?_ ?_<;>intro h<;>(try intro h')<;>(try simp[h])<;>(try omega)|refine Xg ?_|omega)
       refine Yn (f91 { p:=p,kind:=0,cur:=0,gL:=false } iv (by dsimp only;omega)) ?_
       simp
       (with_reducible repeat' first|refine Xk ?_<;>try simp|refine Xs ?_ ?_<;>intro h<;>(try intro h')<;>(try simp[h])<;>(try omega)|refine Xg ?_|omega)
       refine Yt (f92 (k:=k) (s:=p.side) k0 (by omega) (by omega) (by omega)) ?_
       simp
       have ha:=hp.h0.at_ k k0 hi
       have q0:=fX (l:=p.cs) (n:=c) (v:=1+2*k) c0 hc
       have q1:=fX (l:=p.h0) (n:=k) (v:=gt p.h0 k-1) k0 hi
       simp[e,q0,q1]
       (with_reducible repeat' first|refine Xk ?_<;>try simp[q0,q1]|refine Xs ?_ ?_<;>intro h<;>(try intro h')<;>(try simp[h,q0,q1])<;>(try omega)|refine Xg ?_|omega)
       refine LJ.i (c+1,[gW p k c]) (by first|rfl|simp[gV,gW,Pos.hand,Pos.jI,jq,e]) (by first|rfl|simp[gV,gW,Pos.hand,Pos.jI,jq,e]) rfl rfl ?_
       have:=jX [gW p k c] (by rw[hD,if_neg (by simp[hn,hv])])
       exact⟨by dsimp only;omega,by dsimp only;omega,by dsimp only;omega,this,by dsimp only at c3 ⊢;simp;omega⟩
      ·simp[hn,hv]
       (with_reducible repeat' first|refine Xk ?_<;>try simp|refine Xs ?_ ?_<;>intro h<;>(try intro h')<;>(try simp[h])<;>(try omega)|refine Xg ?_|omega)
       refine LJ.e (c+1,[]) ?_
       have:=jX [] (by rw[hD,if_pos (.inr hv)])
       rw[av]at this
       exact⟨by dsimp only;omega,by dsimp only;omega,by dsimp only;omega,this,by dsimp only at c3 ⊢;omega⟩
    ·have j':o.length-1+1=o.length:=by have:=aB.2 fJ;omega
     rw[if_neg fJ,if_neg fJ]
     simp[hc]
     by_cases hn:gt p.h0 k=0
     ·simp[hn]
      (with_reducible repeat' first|refine Xk ?_<;>try simp|refine Xs ?_ ?_<;>intro h<;>(try intro h')<;>(try simp[h])<;>(try omega)|refine Xg ?_|omega)
      refine LJ.i (c+1,o) (by first|rfl|simp[hn,fJ]) (by first|rfl|simp[hn,fJ]) rfl rfl ?_
      have:=jX [] (by rw[hD,if_pos (.inl hn)])
      rw[av]at this
      exact⟨by dsimp only;omega,by dsimp only;omega,by dsimp only;omega,this,by dsimp only at c3 ⊢;omega⟩
     ·by_cases hv:gt p.cs c=0
      ·simp[hn,hv]
       (with_reducible repeat' first|refine Xk ?_<;>try simp|refine Xs ?_ ?_<;>intro h<;>(try intro h')<;>(try simp[h])<;>(try omega)|refine Xg ?_|omega)
       refine Yn (f91 { p:=p,kind:=0,cur:=0,gL:=false } iv (by dsimp only;omega)) ?_
       simp
       (with_reducible repeat' first|refine Xk ?_<;>try simp|refine Xs ?_ ?_<;>intro h<;>(try intro h')<;>(try simp[h])<;>(try omega)|refine Xg ?_|omega)
       refine Yt (f92 (k:=k) (s:=p.side) k0 (by omega) (by omega) (by omega)) ?_
       simp
       have ha:=hp.h0.at_ k k0 hi
       have q0:=fX (l:=p.cs) (n:=c) (v:=1+2*k) c0 hc
       have q1:=fX (l:=p.h0) (n:=k) (v:=gt p.h0 k-1) k0 hi
       simp[e,q0,q1]
       (with_reducible repeat' first|refine Xk ?_<;>try simp[q0,q1]|refine Xs ?_ ?_<;>intro h<;>(try intro h')<;>(try simp[h,q0,q1])<;>(try omega)|refine Xg ?_|omega)
       skip
       refine LJ.i (c+1,o ++ [gW p k c]) (by first|rfl|simp[fJ,j',gW,Pos.hand,Pos.jI,jq,e]) (by first|rfl|simp[fJ,j',gW,Pos.hand,Pos.jI,jq,e]) rfl rfl ?_
       have:=jX [gW p k c] (by rw[hD,if_neg (by simp[hn,hv])])
       exact⟨by dsimp only;omega,by dsimp only;omega,by dsimp only;omega,this,by dsimp only at c3 ⊢;simp;omega⟩
      ·simp[hn,hv]
       (with_reducible repeat' first|refine Xk ?_<;>try simp|refine Xs ?_ ?_<;>intro h<;>(try intro h')<;>(try simp[h])<;>(try omega)|refine Xg ?_|omega)
       refine LJ.i (c+1,o) (by first|rfl|simp[fJ]) (by first|rfl|simp[fJ]) rfl rfl ?_
       have:=jX [] (by rw[hD,if_pos (.inr hv)])
       rw[av]at this
       exact⟨by dsimp only;omega,by dsimp only;omega,by dsimp only;omega,this,by dsimp only at c3 ⊢;omega⟩
   ·have jK:(upto (k+1).toNat).flatMap (jV p)=o:=by
     rw[c2,qz k0,bp,show c.toNat=p.cs.length by omega];simp[jV]
    by_cases fJ:o = []
    ·rw[if_pos fJ,if_pos fJ]
     simp[hc]
     (with_reducible repeat' first|refine Xk ?_<;>try simp|refine Xs ?_ ?_<;>intro h<;>(try intro h')<;>(try simp[h])<;>(try omega)|refine Xg ?_|omega)
     refine LJ.i (k+1,o) (by first|rfl|simp[fJ]) (by first|rfl|simp[fJ]) rfl rfl ?_
     exact⟨by dsimp only;omega,by dsimp only;omega,by dsimp only;omega,jK.symm,by dsimp only at c3 ⊢;omega⟩
    ·rw[if_neg fJ,if_neg fJ]
     simp[hc]
     (with_reducible repeat' first|refine Xk ?_<;>try simp|refine Xs ?_ ?_<;>intro h<;>(try intro h')<;>(try simp[h])<;>(try omega)|refine Xg ?_|omega)
     refine LJ.i (k+1,o) (by first|rfl|simp[fJ]) (by first|rfl|simp[fJ]) rfl rfl ?_
     exact⟨by dsimp only;omega,by dsimp only;omega,by dsimp only;omega,jK.symm,by dsimp only at c3 ⊢;omega⟩
  ·rw[if_neg ho,if_neg ho]
   simp[hi]
   (with_reducible repeat' first|refine Xk ?_<;>try simp|refine Xs ?_ ?_<;>intro h<;>(try intro h')<;>(try simp[h])<;>(try omega)|refine Xg ?_|omega)
   refine eE.e ((0,out):Int×List Pos) (fun y=>[(3,.ptr 1 0 0),(5,.et 2 (y.2.length-1) 5 0 y.2.length),(6,.i k),(7,.i (gt p.h0 k)),(15,dI p.h0),(16,.i p.h0.length),(17,.i k),(23,dI p.cs),(24,.i p.cs.length),(25,.i y.1)]) (fun y=>[.row 41 0 g.cells,.row 44 0 p.cells,.row 44 (y.2.length-1) (cl Pos.cells y.2)]) (fun y=>0≤y.1∧y.1≤p.cs.length∧y.2=(upto k.toNat).flatMap (jV p)++(upto y.1.toNat).flatMap (jg p k)∧y.2≠[]∧y.2.length≤9*k.toNat+y.1.toNat) (fun y=>(p.cs.length-y.1).toNat) ?_ ?_
   ·exact⟨by omega,by omega,by dsimp only;rw[k2];simp,ho,by dsimp only;omega⟩
   rintro⟨c,o⟩ ⟨c0,c1,c2,c4,c3⟩
   dsimp only at c0 c1 c2 c3 ⊢
   by_cases hc:c<p.cs.length
   ·have hd:(upto k.toNat).flatMap (jV p)++(upto (c+1).toNat).flatMap (jg p k)=o++jg p k c:=by
     rw[qz c0,bp,← bg,← c2];simp
    have jX:∀ o2,jg p k c=o2→o++o2=(upto k.toNat).flatMap (jV p)++(upto (c+1).toNat).flatMap (jg p k):=fun o2 h=>by rw[hd,h]
    have hD:jg p k c=if gt p.h0 k=0∨gt p.cs c≠0 then []else [gW p k c]:=by simp[jg,Pos.hand,e]
    have fJ:o≠[]:=c4
    have j':o.length-1+1=o.length:=by have:=aB.2 fJ;omega
    simp[hc]
    by_cases hn:gt p.h0 k=0
    ·simp[hn]
     (with_reducible repeat' first|refine Xk ?_<;>try simp|refine Xs ?_ ?_<;>intro h<;>(try intro h')<;>(try simp[h])<;>(try omega)|refine Xg ?_|omega)
     refine LJ.i (c+1,o) (by first|rfl|simp[hn,fJ]) (by first|rfl|simp[hn,fJ]) rfl rfl ?_
     have:=jX [] (by rw[hD,if_pos (.inl hn)])
     rw[av]at this
     exact⟨by dsimp only;omega,by dsimp only;omega,by dsimp only;omega,this,c4,by dsimp only at c3 ⊢;omega⟩
    ·by_cases hv:gt p.cs c=0
     ·simp[hn,hv]
      (with_reducible repeat' first|refine Xk ?_<;>try simp|refine Xs ?_ ?_<;>intro h<;>(try intro h')<;>(try simp[h])<;>(try omega)|refine Xg ?_|omega)
      refine Yn (f91 { p:=p,kind:=0,cur:=0,gL:=false } iv (by dsimp only;omega)) ?_
      simp
      (with_reducible repeat' first|refine Xk ?_<;>try simp|refine Xs ?_ ?_<;>intro h<;>(try intro h')<;>(try simp[h])<;>(try omega)|refine Xg ?_|omega)
      refine Yt (f92 (k:=k) (s:=p.side) k0 (by omega) (by omega) (by omega)) ?_
      simp
      have ha:=hp.h0.at_ k k0 hi
      have q0:=fX (l:=p.cs) (n:=c) (v:=1+2*k) c0 hc
      have q1:=fX (l:=p.h0) (n:=k) (v:=gt p.h0 k-1) k0 hi
      simp[e,q0,q1]
      (with_reducible repeat' first|refine Xk ?_<;>try simp[q0,q1]|refine Xs ?_ ?_<;>intro h<;>(try intro h')<;>(try simp[h,q0,q1])<;>(try omega)|refine Xg ?_|omega)
      skip
      refine LJ.i (c+1,o ++ [gW p k c]) (by first|rfl|simp[fJ,j',gW,Pos.hand,Pos.jI,jq,e]) (by first|rfl|simp[fJ,j',gW,Pos.hand,Pos.jI,jq,e]) rfl rfl ?_
      have:=jX [gW p k c] (by rw[hD,if_neg (by simp[hn,hv])])
      exact⟨by dsimp only;omega,by dsimp only;omega,by dsimp only;omega,this,by simp,by dsimp only at c3 ⊢;simp;omega⟩
     ·simp[hn,hv]
      (with_reducible repeat' first|refine Xk ?_<;>try simp|refine Xs ?_ ?_<;>intro h<;>(try intro h')<;>(try simp[h])<;>(try omega)|refine Xg ?_|omega)
      refine LJ.i (c+1,o) (by first|rfl|simp[fJ]) (by first|rfl|simp[fJ]) rfl rfl ?_
      have:=jX [] (by rw[hD,if_pos (.inr hv)])
      rw[av]at this
      exact⟨by dsimp only;omega,by dsimp only;omega,by dsimp only;omega,this,c4,by dsimp only at c3 ⊢;omega⟩
   ·have jK:(upto (k+1).toNat).flatMap (jV p)=o:=by
     rw[c2,qz k0,bp,show c.toNat=p.cs.length by omega];simp[jV]
    have fJ:o≠[]:=c4
    simp[hc]
    (with_reducible repeat' first|refine Xk ?_<;>try simp|refine Xs ?_ ?_<;>intro h<;>(try intro h')<;>(try simp[h])<;>(try omega)|refine Xg ?_|omega)
    refine LJ.i (k+1,o) (by first|rfl|simp[fJ]) (by first|rfl|simp[fJ]) rfl rfl ?_
    exact⟨by dsimp only;omega,by dsimp only;omega,by dsimp only;omega,jK.symm,by dsimp only at c3 ⊢;omega⟩
 ·have jK:out=jJ p:=by rw[k2,jJ,show k.toNat=(p.hand p.side).length by simp[Pos.hand,e];omega]
  have GG:∀ q∈out,Small q:=fun q hq=>by
   rw[jK,CH hp]at hq
   exact(xE hp hq).small hg
  have Gk:=Fq hg hp
  rw[← jK]at Gk ⊢
  by_cases ho:out = []
  ·rw[if_pos ho,if_pos ho]
   simp[hi]
   refine eS.c rfl rfl (f48 [] (by simp) (by simp)) rfl (by simp) ?_
   simp[ho]
  ·rw[if_neg ho,if_neg ho]
   simp[hi]
   refine eS.c (x:=dN 5 Pos.cells (il out)) rfl rfl (by rw[pZ ho];exact f48 out GG (by omega)) (by simp) (by simp) ?_
   simp
theorem PN(g:ew)(hg:eU g)(p:Pos)(hp:fj g p)(e:p.side=1):Wf T 49 [dG g,dP p] [] (Is (dN 5 Pos.cells (il (jJ p)))):=by
 have hz:=hp.size
 have hb:=hg.gF.size
 have hk:=hg.kinds
 have iv:=hp.small hg
 have l0:=hp.h0.len
 have l1:=hp.h1.len
 refine Yz rH (gj 68 [1005] (gj 62 [2039] rH.body)) ?_
 simp[rH,gj,iw,ky,kA,kK,jy,e]
 refine eE.e ((0,[]):Int×List Pos) (fun y=>[(3,.ptr 1 0 0),(5,if y.2 = []then .emp else .et 2 (y.2.length-1) 5 0 y.2.length),(15,dI p.h1),(16,.i p.h1.length),(17,.i y.1)]) (fun y=>[.row 41 0 g.cells,.row 44 0 p.cells]++(if y.2 = []then []else [.row 44 (y.2.length-1) (cl Pos.cells y.2)])) (fun y=>0≤y.1∧y.1≤p.h1.length∧y.2=(upto y.1.toNat).flatMap (jV p)∧y.2.length≤9*y.1.toNat) (fun y=>(p.h1.length-y.1).toNat) ?_ ?_
 ·simp
 rintro⟨k,out⟩ ⟨k0,k1,k2,k3⟩
 dsimp only at k0 k1 k2 k3 ⊢
 by_cases hi:k<p.h1.length
 ·by_cases ho:out = []
  ·subst ho
   rw[if_pos rfl,if_pos rfl]
   simp[hi]
   (with_reducible repeat' first|refine Xk ?_<;>try simp|refine Xs ?_ ?_<;>intro h<;>(try intro h')<;>(try simp[h])<;>(try omega)|refine Xg ?_|omega)
   refine eE.e ((0,[]):Int×List Pos) (fun y=>[(3,.ptr 1 0 0),(5,if y.2 = []then .emp else .et 2 (y.2.length-1) 5 0 y.2.length),(6,.i k),(7,.i (gt p.h1 k)),(15,dI p.h1),(16,.i p.h1.length),(17,.i k),(23,dI p.cs),(24,.i p.cs.length),(25,.i y.1)]) (fun y=>[.row 41 0 g.cells,.row 44 0 p.cells]++(if y.2 = []then []else [.row 44 (y.2.length-1) (cl Pos.cells y.2)])) (fun y=>0≤y.1∧y.1≤p.cs.length∧y.2=(upto k.toNat).flatMap (jV p)++(upto y.1.toNat).flatMap (jg p k)∧y.2.length≤9*k.toNat+y.1.toNat) (fun y=>(p.cs.length-y.1).toNat) ?_ ?_
   ·exact⟨by omega,by omega,by dsimp only;simp[← k2],by dsimp only;omega⟩
   rintro⟨c,o⟩ ⟨c0,c1,c2,c3⟩
   dsimp only at c0 c1 c2 c3 ⊢
   by_cases hc:c<p.cs.length
   ·have hd:(upto k.toNat).flatMap (jV p)++(upto (c+1).toNat).flatMap (jg p k)=o++jg p k c:=by
     rw[qz c0,bp,← bg,← c2];simp
    have jX:∀ o2,jg p k c=o2→o++o2=(upto k.toNat).flatMap (jV p)++(upto (c+1).toNat).flatMap (jg p k):=fun o2 h=>by rw[hd,h]
    have hD:jg p k c=if gt p.h1 k=0∨gt p.cs c≠0 then []else [gW p k c]:=by simp[jg,Pos.hand,e]
    by_cases fJ:o = []
    ·subst fJ
     rw[if_pos rfl,if_pos rfl]
     simp[hc]
     by_cases hn:gt p.h1 k=0
     ·simp[hn]
      (with_reducible repeat' first|refine Xk ?_<;>try simp|refine Xs ?_ ?_<;>intro h<;>(try intro h')<;>(try simp[h])<;>(try omega)|refine Xg ?_|omega)
      refine LJ.i (c+1,[]) (by first|rfl|simp[hn]) (by first|rfl|simp[hn]) rfl rfl ?_
      have:=jX [] (by rw[hD,if_pos (.inl hn)])
      rw[av]at this
      exact⟨by dsimp only;omega,by dsimp only;omega,by dsimp only;omega,this,by dsimp only at c3 ⊢;omega⟩
     ·by_cases hv:gt p.cs c=0
      ·simp[hn,hv]
       (with_reducible repeat' first|refine Xk ?_<;>try simp|refine Xs ?_ ?_<;>intro h<;>(try intro h')<;>(try simp[h])<;>(try omega)|refine Xg ?_|omega)
       refine Yn (f91 { p:=p,kind:=0,cur:=0,gL:=false } iv (by dsimp only;omega)) ?_
       simp
       (with_reducible repeat' first|refine Xk ?_<;>try simp|refine Xs ?_ ?_<;>intro h<;>(try intro h')<;>(try simp[h])<;>(try omega)|refine Xg ?_|omega)
       refine Yt (f92 (k:=k) (s:=p.side) k0 (by omega) (by omega) (by omega)) ?_
       simp
       have ha:=hp.h1.at_ k k0 hi
       have q0:=fX (l:=p.cs) (n:=c) (v:=1+2*k+1) c0 hc
       have q1:=fX (l:=p.h1) (n:=k) (v:=gt p.h1 k-1) k0 hi
       simp[e,q0,q1]
       (with_reducible repeat' first|refine Xk ?_<;>try simp[q0,q1]|refine Xs ?_ ?_<;>intro h<;>(try intro h')<;>(try simp[h,q0,q1])<;>(try omega)|refine Xg ?_|omega)
       refine LJ.i (c+1,[gW p k c]) (by first|rfl|simp[gV,gW,Pos.hand,Pos.jI,jq,e]) (by first|rfl|simp[gV,gW,Pos.hand,Pos.jI,jq,e]) rfl rfl ?_
       have:=jX [gW p k c] (by rw[hD,if_neg (by simp[hn,hv])])
       exact⟨by dsimp only;omega,by dsimp only;omega,by dsimp only;omega,this,by dsimp only at c3 ⊢;simp;omega⟩
      ·simp[hn,hv]
       (with_reducible repeat' first|refine Xk ?_<;>try simp|refine Xs ?_ ?_<;>intro h<;>(try intro h')<;>(try simp[h])<;>(try omega)|refine Xg ?_|omega)
       refine LJ.e (c+1,[]) ?_
       have:=jX [] (by rw[hD,if_pos (.inr hv)])
       rw[av]at this
       exact⟨by dsimp only;omega,by dsimp only;omega,by dsimp only;omega,this,by dsimp only at c3 ⊢;omega⟩
    ·have j':o.length-1+1=o.length:=by have:=aB.2 fJ;omega
     rw[if_neg fJ,if_neg fJ]
     simp[hc]
     by_cases hn:gt p.h1 k=0
     ·simp[hn]
      (with_reducible repeat' first|refine Xk ?_<;>try simp|refine Xs ?_ ?_<;>intro h<;>(try intro h')<;>(try simp[h])<;>(try omega)|refine Xg ?_|omega)
      refine LJ.i (c+1,o) (by first|rfl|simp[hn,fJ]) (by first|rfl|simp[hn,fJ]) rfl rfl ?_
      have:=jX [] (by rw[hD,if_pos (.inl hn)])
      rw[av]at this
      exact⟨by dsimp only;omega,by dsimp only;omega,by dsimp only;omega,this,by dsimp only at c3 ⊢;omega⟩
     ·by_cases hv:gt p.cs c=0
      ·simp[hn,hv]
       (with_reducible repeat' first|refine Xk ?_<;>try simp|refine Xs ?_ ?_<;>intro h<;>(try intro h')<;>(try simp[h])<;>(try omega)|refine Xg ?_|omega)
       refine Yn (f91 { p:=p,kind:=0,cur:=0,gL:=false } iv (by dsimp only;omega)) ?_
       simp
       (with_reducible repeat' first|refine Xk ?_<;>try simp|refine Xs ?_ ?_<;>intro h<;>(try intro h')<;>(try simp[h])<;>(try omega)|refine Xg ?_|omega)
       refine Yt (f92 (k:=k) (s:=p.side) k0 (by omega) (by omega) (by omega)) ?_
       simp
       have ha:=hp.h1.at_ k k0 hi
       have q0:=fX (l:=p.cs) (n:=c) (v:=1+2*k+1) c0 hc
       have q1:=fX (l:=p.h1) (n:=k) (v:=gt p.h1 k-1) k0 hi
       simp[e,q0,q1]
       (with_reducible repeat' first|refine Xk ?_<;>try simp[q0,q1]|refine Xs ?_ ?_<;>intro h<;>(try intro h')<;>(try simp[h,q0,q1])<;>(try omega)|refine Xg ?_|omega)
       skip
       refine LJ.i (c+1,o ++ [gW p k c]) (by first|rfl|simp[fJ,j',gW,Pos.hand,Pos.jI,jq,e]) (by first|rfl|simp[fJ,j',gW,Pos.hand,Pos.jI,jq,e]) rfl rfl ?_
       have:=jX [gW p k c] (by rw[hD,if_neg (by simp[hn,hv])])
       exact⟨by dsimp only;omega,by dsimp only;omega,by dsimp only;omega,this,by dsimp only at c3 ⊢;simp;omega⟩
      ·simp[hn,hv]
       (with_reducible repeat' first|refine Xk ?_<;>try simp|refine Xs ?_ ?_<;>intro h<;>(try intro h')<;>(try simp[h])<;>(try omega)|refine Xg ?_|omega)
       refine LJ.i (c+1,o) (by first|rfl|simp[fJ]) (by first|rfl|simp[fJ]) rfl rfl ?_
       have:=jX [] (by rw[hD,if_pos (.inr hv)])
       rw[av]at this
       exact⟨by dsimp only;omega,by dsimp only;omega,by dsimp only;omega,this,by dsimp only at c3 ⊢;omega⟩
   ·have jK:(upto (k+1).toNat).flatMap (jV p)=o:=by
     rw[c2,qz k0,bp,show c.toNat=p.cs.length by omega];simp[jV]
    by_cases fJ:o = []
    ·rw[if_pos fJ,if_pos fJ]
     simp[hc]
     (with_reducible repeat' first|refine Xk ?_<;>try simp|refine Xs ?_ ?_<;>intro h<;>(try intro h')<;>(try simp[h])<;>(try omega)|refine Xg ?_|omega)
     refine LJ.i (k+1,o) (by first|rfl|simp[fJ]) (by first|rfl|simp[fJ]) rfl rfl ?_
     exact⟨by dsimp only;omega,by dsimp only;omega,by dsimp only;omega,jK.symm,by dsimp only at c3 ⊢;omega⟩
    ·rw[if_neg fJ,if_neg fJ]
     simp[hc]
     (with_reducible repeat' first|refine Xk ?_<;>try simp|refine Xs ?_ ?_<;>intro h<;>(try intro h')<;>(try simp[h])<;>(try omega)|refine Xg ?_|omega)
     refine LJ.i (k+1,o) (by first|rfl|simp[fJ]) (by first|rfl|simp[fJ]) rfl rfl ?_
     exact⟨by dsimp only;omega,by dsimp only;omega,by dsimp only;omega,jK.symm,by dsimp only at c3 ⊢;omega⟩
  ·rw[if_neg ho,if_neg ho]
   simp[hi]
   (with_reducible repeat' first|refine Xk ?_<;>try simp|refine Xs ?_ ?_<;>intro h<;>(try intro h')<;>(try simp[h])<;>(try omega)|refine Xg ?_|omega)
   refine eE.e ((0,out):Int×List Pos) (fun y=>[(3,.ptr 1 0 0),(5,.et 2 (y.2.length-1) 5 0 y.2.length),(6,.i k),(7,.i (gt p.h1 k)),(15,dI p.h1),(16,.i p.h1.length),(17,.i k),(23,dI p.cs),(24,.i p.cs.length),(25,.i y.1)]) (fun y=>[.row 41 0 g.cells,.row 44 0 p.cells,.row 44 (y.2.length-1) (cl Pos.cells y.2)]) (fun y=>0≤y.1∧y.1≤p.cs.length∧y.2=(upto k.toNat).flatMap (jV p)++(upto y.1.toNat).flatMap (jg p k)∧y.2≠[]∧y.2.length≤9*k.toNat+y.1.toNat) (fun y=>(p.cs.length-y.1).toNat) ?_ ?_
   ·exact⟨by omega,by omega,by dsimp only;rw[k2];simp,ho,by dsimp only;omega⟩
   rintro⟨c,o⟩ ⟨c0,c1,c2,c4,c3⟩
   dsimp only at c0 c1 c2 c3 ⊢
   by_cases hc:c<p.cs.length
   ·have hd:(upto k.toNat).flatMap (jV p)++(upto (c+1).toNat).flatMap (jg p k)=o++jg p k c:=by
     rw[qz c0,bp,← bg,← c2];simp
    have jX:∀ o2,jg p k c=o2→o++o2=(upto k.toNat).flatMap (jV p)++(upto (c+1).toNat).flatMap (jg p k):=fun o2 h=>by rw[hd,h]
    have hD:jg p k c=if gt p.h1 k=0∨gt p.cs c≠0 then []else [gW p k c]:=by simp[jg,Pos.hand,e]
    have fJ:o≠[]:=c4
    have j':o.length-1+1=o.length:=by have:=aB.2 fJ;omega
    simp[hc]
    by_cases hn:gt p.h1 k=0
    ·simp[hn]
     (with_reducible repeat' first|refine Xk ?_<;>try simp|refine Xs ?_ ?_<;>intro h<;>(try intro h')<;>(try simp[h])<;>(try omega)|refine Xg ?_|omega)
     refine LJ.i (c+1,o) (by first|rfl|simp[hn,fJ]) (by first|rfl|simp[hn,fJ]) rfl rfl ?_
     have:=jX [] (by rw[hD,if_pos (.inl hn)])
     rw[av]at this
     exact⟨by dsimp only;omega,by dsimp only;omega,by dsimp only;omega,this,c4,by dsimp only at c3 ⊢;omega⟩
    ·by_cases hv:gt p.cs c=0
     ·simp[hn,hv]
      (with_reducible repeat' first|refine Xk ?_<;>try simp|refine Xs ?_ ?_<;>intro h<;>(try intro h')<;>(try simp[h])<;>(try omega)|refine Xg ?_|omega)
      refine Yn (f91 { p:=p,kind:=0,cur:=0,gL:=false } iv (by dsimp only;omega)) ?_
      simp
      (with_reducible repeat' first|refine Xk ?_<;>try simp|refine Xs ?_ ?_<;>intro h<;>(try intro h')<;>(try simp[h])<;>(try omega)|refine Xg ?_|omega)
      refine Yt (f92 (k:=k) (s:=p.side) k0 (by omega) (by omega) (by omega)) ?_
      simp
      have ha:=hp.h1.at_ k k0 hi
      have q0:=fX (l:=p.cs) (n:=c) (v:=1+2*k+1) c0 hc
      have q1:=fX (l:=p.h1) (n:=k) (v:=gt p.h1 k-1) k0 hi
      simp[e,q0,q1]
      (with_reducible repeat' first|refine Xk ?_<;>try simp[q0,q1]|refine Xs ?_ ?_<;>intro h<;>(try intro h')<;>(try simp[h,q0,q1])<;>(try omega)|refine Xg ?_|omega)
      skip
      refine LJ.i (c+1,o ++ [gW p k c]) (by first|rfl|simp[fJ,j',gW,Pos.hand,Pos.jI,jq,e]) (by first|rfl|simp[fJ,j',gW,Pos.hand,Pos.jI,jq,e]) rfl rfl ?_
      have:=jX [gW p k c] (by rw[hD,if_neg (by simp[hn,hv])])
      exact⟨by dsimp only;omega,by dsimp only;omega,by dsimp only;omega,this,by simp,by dsimp only at c3 ⊢;simp;omega⟩
     ·simp[hn,hv]
      (with_reducible repeat' first|refine Xk ?_<;>try simp|refine Xs ?_ ?_<;>intro h<;>(try intro h')<;>(try simp[h])<;>(try omega)|refine Xg ?_|omega)
      refine LJ.i (c+1,o) (by first|rfl|simp[fJ]) (by first|rfl|simp[fJ]) rfl rfl ?_
      have:=jX [] (by rw[hD,if_pos (.inr hv)])
      rw[av]at this
      exact⟨by dsimp only;omega,by dsimp only;omega,by dsimp only;omega,this,c4,by dsimp only at c3 ⊢;omega⟩
   ·have jK:(upto (k+1).toNat).flatMap (jV p)=o:=by
     rw[c2,qz k0,bp,show c.toNat=p.cs.length by omega];simp[jV]
    have fJ:o≠[]:=c4
    simp[hc]
    (with_reducible repeat' first|refine Xk ?_<;>try simp|refine Xs ?_ ?_<;>intro h<;>(try intro h')<;>(try simp[h])<;>(try omega)|refine Xg ?_|omega)
    refine LJ.i (k+1,o) (by first|rfl|simp[fJ]) (by first|rfl|simp[fJ]) rfl rfl ?_
    exact⟨by dsimp only;omega,by dsimp only;omega,by dsimp only;omega,jK.symm,by dsimp only at c3 ⊢;omega⟩
 ·have jK:out=jJ p:=by rw[k2,jJ,show k.toNat=(p.hand p.side).length by simp[Pos.hand,e];omega]
  have GG:∀ q∈out,Small q:=fun q hq=>by
   rw[jK,CH hp]at hq
   exact(xE hp hq).small hg
  have Gk:=Fq hg hp
  rw[← jK]at Gk ⊢
  by_cases ho:out = []
  ·rw[if_pos ho,if_pos ho]
   simp[hi]
   refine eS.c rfl rfl (f48 [] (by simp) (by simp)) rfl (by simp) ?_
   simp[ho]
  ·rw[if_neg ho,if_neg ho]
   simp[hi]
   refine eS.c (x:=dN 5 Pos.cells (il out)) rfl rfl (by rw[pZ ho];exact f48 out GG (by omega)) (by simp) (by simp) ?_
   simp
theorem f49(g:ew)(hg:eU g)(p:Pos)(hp:fj g p):Wf T 49 [dG g,dP p] [] (Is (dN 5 Pos.cells (il (jJ p)))):=by
 have:=hp.side
 rcases(show p.side=0∨p.side=1 by omega)with e|e
 ·exact PM g hg p hp e
 ·exact PN g hg p hp e
