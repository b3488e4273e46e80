/- Part 24 of TableHurry. -/
import Derived.Test.YtnaefnajkaohgaaGreatDoorG23
set_option linter.all false
namespace Go.Proofs.YtnaefnajkaohgaaGreatDoor
open Go Go.AL Classical
set_option maxRecDepth 10000
set_option maxHeartbeats 8000000
theorem qJ{k:Int}(h:0≤k):upto (k+1).toNat=upto k.toNat ++ [k]:=by
 rw[show(k+1).toNat=k.toNat+1 by omega]
 simp only[upto,List.range_succ,List.map_append,List.map_cons,List.map_nil]
 rw[b7 h]
@[simp] theorem aki:upto 0 = []:=rfl
def jj(p:Pos)(k c:Int):List Pos:=if gt (p.hand p.side) k=0∨gt p.cs c≠0 then []else [hJ p k c]
def kd(p:Pos)(k:Int):List Pos:=(upto p.cs.length).flatMap (jj p k)
def jQ(p:Pos):List Pos:=(upto (p.hand p.side).length).flatMap (kd p)
theorem CT{g:ey}{p q:Pos}(hp:fo g p):q∈jQ p↔rW g p q:=by
 have hl:=(hp.hand p.side).len
 unfold jQ kd jj rW
 simp only[bn,iR]
 constructor
 ·rintro⟨k,⟨k0,k1⟩,c,⟨c0,c1⟩,h⟩
  split at h
  ·cases h
  ·rename_i hn
   simp only[not_or,Decidable.not_not]at hn
   exact⟨k,c,k0,by omega,c0,c1,hn.1,hn.2,List.mem_singleton.1 h⟩
 ·rintro⟨k,c,k0,k1,c0,c1,h1,h2,rfl⟩
  refine⟨k,⟨k0,by omega⟩,c,⟨c0,c1⟩,?_⟩
  rw[if_neg (by simp[h1,h2])];simp
theorem FC{g:ey}(hg:eW g){p:Pos}(hp:fo g p):(jQ p).length≤18:=by
 have hz:=hp.size
 have hb:=hg.gH.size
 have hk:=hg.kinds
 have hl:=(hp.hand p.side).len
 have:(jQ p).length≤(upto (p.hand p.side).length).length*9:=tR fun k _=>by
  have:(kd p k).length≤(upto p.cs.length).length*1:=tR fun c _=>by unfold jj;split<;>simp
  simp[upto]at this ⊢;omega
 simp[upto]at this
 omega
theorem P'(g:ey)(hg:eW g)(p:Pos)(hp:fo g p)(e:p.side=0):Wf T 49 [dG g,dP p] [] (Is (dN 5 Pos.cells (iv (jQ p)))):=by
 have hz:=hp.size
 have hb:=hg.gH.size
 have hk:=hg.kinds
 have iz:=hp.small hg
 have l0:=hp.h0.len
 have l1:=hp.h1.len
 refine Yz rT (gu 68 [1005] (gu 62 [2039] rT.body)) ?_
 simp[rT,gu,iA,kG,kI,kR,jE,e]
 refine eF.e ((0,[]):Int×List Pos) (fun y=>[(3,.ptr 1 0 0),(5,if y.2 = []then .U else .eu 2 (y.2.length-1) 5 0 y.2.length),(15,dI p.h0),(16,.i p.h0.length),(17,.i y.1)]) (fun y=>[.row 41 0 g.cells,.row 44 0 p.cells]++(if y.2 = []then []else [.row 44 (y.2.length-1) (cl Pos.cells y.2)])) (fun y=>0≤y.1∧y.1≤p.h0.length∧y.2=(upto y.1.toNat).flatMap (kd p)∧y.2.length≤9*y.1.toNat) (fun y=>(p.h0.length-y.1).toNat) ?_ ?_
 ·simp
 rintro⟨k,out⟩ ⟨k0,k1,k2,k3⟩
 dsimp only at k0 k1 k2 k3 ⊢
 by_cases hi:k<p.h0.length
 ·by_cases ho:out = []
  ·subst ho
   rw[if_pos rfl,if_pos rfl]
   simp[hi]
   (with_reducible repeat' first|refine Xk ?_<;>try simp|refine Xs ?_ ?_<;>intro h<;>(try intro h')<;>(try simp[h])<;>(try omega)|refine Xg ?_|omega)
   refine eF.e ((0,[]):Int×List Pos) (fun y=>[(3,.ptr 1 0 0),(5,if y.2 = []then .U else .eu 2 (y.2.length-1) 5 0 y.2.length),(6,.i k),(7,.i (gt p.h0 k)),(15,dI p.h0),(16,.i p.h0.length),(17,.i k),(23,dI p.cs),(24,.i p.cs.length),(25,.i y.1)]) (fun y=>[.row 41 0 g.cells,.row 44 0 p.cells]++(if y.2 = []then []else [.row 44 (y.2.length-1) (cl Pos.cells y.2)])) (fun y=>0≤y.1∧y.1≤p.cs.length∧y.2=(upto k.toNat).flatMap (kd p)++(upto y.1.toNat).flatMap (jj p k)∧y.2.length≤9*k.toNat+y.1.toNat) (fun y=>(p.cs.length-y.1).toNat) ?_ ?_
   ·exact⟨by omega,by omega,by dsimp only;simp[← k2],by dsimp only;omega⟩
   rintro⟨c,o⟩ ⟨c0,c1,c2,c3⟩
   dsimp only at c0 c1 c2 c3 ⊢
   by_cases hc:c<p.cs.length
   ·have hd:(upto k.toNat).flatMap (kd p)++(upto (c+1).toNat).flatMap (jj p k)=o++jj p k c:=by
     rw[qJ c0,bp,← bg,← c2];simp
    have kf:∀ o2,jj p k c=o2→o++o2=(upto k.toNat).flatMap (kd p)++(upto (c+1).toNat).flatMap (jj p k):=fun o2 h=>by rw[hd,h]
    have hD:jj p k c=if gt p.h0 k=0∨gt p.cs c≠0 then []else [hJ p k c]:=by simp[jj,Pos.hand,e]
    by_cases fR:o = []
    ·subst fR
     rw[if_pos rfl,if_pos rfl]
     simp[hc]
     by_cases hn:gt p.h0 k=0
     ·simp[hn]
      (with_reducible repeat' first|refine Xk ?_<;>try simp|refine Xs ?_ ?_<;>intro h<;>(try intro h')<;>(try simp[h])<;>(try omega)|refine Xg ?_|omega)
      refine LJ.i (c+1,[]) (by first|rfl|simp[hn]) (by first|rfl|simp[hn]) rfl rfl ?_
      have:=kf [] (by rw[hD,if_pos (.inl hn)])
      rw[av]at this
      exact⟨by dsimp only;omega,by dsimp only;omega,by dsimp only;omega,this,by dsimp only at c3 ⊢;omega⟩
     ·by_cases hv:gt p.cs c=0
      ·simp[hn,hv]
       (with_reducible repeat' first|refine Xk ?_<;>try simp|refine Xs ?_ ?_<;>intro h<;>(try intro h')<;>(try simp[h])<;>(try omega)|refine Xg ?_|omega)
       refine Yn (f91 { p:=p,kind:=0,cur:=0,gO:=false } iz (by dsimp only;omega)) ?_
       simp
       (with_reducible repeat' first|refine Xk ?_<;>try simp|refine Xs ?_ ?_<;>intro h<;>(try intro h')<;>(try simp[h])<;>(try omega)|refine Xg ?_|omega)
       refine Yt (f92 (k:=k) (s:=p.side) k0 (by omega) (by omega) (by omega)) ?_
       simp
       have ha:=hp.h0.at_ k k0 hi
       have q0:=ga (l:=p.cs) (n:=c) (v:=1+2*k) c0 hc
       have q1:=ga (l:=p.h0) (n:=k) (v:=gt p.h0 k-1) k0 hi
       simp[e,q0,q1]
       (with_reducible repeat' first|refine Xk ?_<;>try simp[q0,q1]|refine Xs ?_ ?_<;>intro h<;>(try intro h')<;>(try simp[h,q0,q1])<;>(try omega)|refine Xg ?_|omega)
       refine LJ.i (c+1,[hJ p k c]) (by first|rfl|simp[gZ,hJ,Pos.hand,Pos.jP,ju,e]) (by first|rfl|simp[gZ,hJ,Pos.hand,Pos.jP,ju,e]) rfl rfl ?_
       have:=kf [hJ p k c] (by rw[hD,if_neg (by simp[hn,hv])])
       exact⟨by dsimp only;omega,by dsimp only;omega,by dsimp only;omega,this,by dsimp only at c3 ⊢;simp;omega⟩
      ·simp[hn,hv]
       (with_reducible repeat' first|refine Xk ?_<;>try simp|refine Xs ?_ ?_<;>intro h<;>(try intro h')<;>(try simp[h])<;>(try omega)|refine Xg ?_|omega)
       refine LJ.e (c+1,[]) ?_
       have:=kf [] (by rw[hD,if_pos (.inr hv)])
       rw[av]at this
       exact⟨by dsimp only;omega,by dsimp only;omega,by dsimp only;omega,this,by dsimp only at c3 ⊢;omega⟩
    ·have kz:o.length-1+1=o.length:=by have:=aB.2 fR;omega
     rw[if_neg fR,if_neg fR]
     simp[hc]
     by_cases hn:gt p.h0 k=0
     ·simp[hn]
      (with_reducible repeat' first|refine Xk ?_<;>try simp|refine Xs ?_ ?_<;>intro h<;>(try intro h')<;>(try simp[h])<;>(try omega)|refine Xg ?_|omega)
      refine LJ.i (c+1,o) (by first|rfl|simp[hn,fR]) (by first|rfl|simp[hn,fR]) rfl rfl ?_
      have:=kf [] (by rw[hD,if_pos (.inl hn)])
      rw[av]at this
      exact⟨by dsimp only;omega,by dsimp only;omega,by dsimp only;omega,this,by dsimp only at c3 ⊢;omega⟩
     ·by_cases hv:gt p.cs c=0
      ·simp[hn,hv]
       (with_reducible repeat' first|refine Xk ?_<;>try simp|refine Xs ?_ ?_<;>intro h<;>(try intro h')<;>(try simp[h])<;>(try omega)|refine Xg ?_|omega)
       refine Yn (f91 { p:=p,kind:=0,cur:=0,gO:=false } iz (by dsimp only;omega)) ?_
       simp
       (with_reducible repeat' first|refine Xk ?_<;>try simp|refine Xs ?_ ?_<;>intro h<;>(try intro h')<;>(try simp[h])<;>(try omega)|refine Xg ?_|omega)
       refine Yt (f92 (k:=k) (s:=p.side) k0 (by omega) (by omega) (by omega)) ?_
       simp
       have ha:=hp.h0.at_ k k0 hi
       have q0:=ga (l:=p.cs) (n:=c) (v:=1+2*k) c0 hc
       have q1:=ga (l:=p.h0) (n:=k) (v:=gt p.h0 k-1) k0 hi
       simp[e,q0,q1]
       (with_reducible repeat' first|refine Xk ?_<;>try simp[q0,q1]|refine Xs ?_ ?_<;>intro h<;>(try intro h')<;>(try simp[h,q0,q1])<;>(try omega)|refine Xg ?_|omega)
       skip
       refine LJ.i (c+1,o ++ [hJ p k c]) (by first|rfl|simp[fR,kz,hJ,Pos.hand,Pos.jP,ju,e]) (by first|rfl|simp[fR,kz,hJ,Pos.hand,Pos.jP,ju,e]) rfl rfl ?_
       have:=kf [hJ p k c] (by rw[hD,if_neg (by simp[hn,hv])])
       exact⟨by dsimp only;omega,by dsimp only;omega,by dsimp only;omega,this,by dsimp only at c3 ⊢;simp;omega⟩
      ·simp[hn,hv]
       (with_reducible repeat' first|refine Xk ?_<;>try simp|refine Xs ?_ ?_<;>intro h<;>(try intro h')<;>(try simp[h])<;>(try omega)|refine Xg ?_|omega)
       refine LJ.i (c+1,o) (by first|rfl|simp[fR]) (by first|rfl|simp[fR]) rfl rfl ?_
       have:=kf [] (by rw[hD,if_pos (.inr hv)])
       rw[av]at this
       exact⟨by dsimp only;omega,by dsimp only;omega,by dsimp only;omega,this,by dsimp only at c3 ⊢;omega⟩
   ·have jR:(upto (k+1).toNat).flatMap (kd p)=o:=by
     rw[c2,qJ k0,bp,show c.toNat=p.cs.length by omega];simp[kd]
    by_cases fR:o = []
    ·rw[if_pos fR,if_pos fR]
     simp[hc]
     (with_reducible repeat' first|refine Xk ?_<;>try simp|refine Xs ?_ ?_<;>intro h<;>(try intro h')<;>(try simp[h])<;>(try omega)|refine Xg ?_|omega)
     refine LJ.i (k+1,o) (by first|rfl|simp[fR]) (by first|rfl|simp[fR]) rfl rfl ?_
     exact⟨by dsimp only;omega,by dsimp only;omega,by dsimp only;omega,jR.symm,by dsimp only at c3 ⊢;omega⟩
    ·rw[if_neg fR,if_neg fR]
     simp[hc]
     (with_reducible repeat' first|refine Xk ?_<;>try simp|refine Xs ?_ ?_<;>intro h<;>(try intro h')<;>(try simp[h])<;>(try omega)|refine Xg ?_|omega)
     refine LJ.i (k+1,o) (by first|rfl|simp[fR]) (by first|rfl|simp[fR]) rfl rfl ?_
     exact⟨by dsimp only;omega,by dsimp only;omega,by dsimp only;omega,jR.symm,by dsimp only at c3 ⊢;omega⟩
  ·rw[if_neg ho,if_neg ho]
   simp[hi]
   (with_reducible repeat' first|refine Xk ?_<;>try simp|refine Xs ?_ ?_<;>intro h<;>(try intro h')<;>(try simp[h])<;>(try omega)|refine Xg ?_|omega)
   refine eF.e ((0,out):Int×List Pos) (fun y=>[(3,.ptr 1 0 0),(5,.eu 2 (y.2.length-1) 5 0 y.2.length),(6,.i k),(7,.i (gt p.h0 k)),(15,dI p.h0),(16,.i p.h0.length),(17,.i k),(23,dI p.cs),(24,.i p.cs.length),(25,.i y.1)]) (fun y=>[.row 41 0 g.cells,.row 44 0 p.cells,.row 44 (y.2.length-1) (cl Pos.cells y.2)]) (fun y=>0≤y.1∧y.1≤p.cs.length∧y.2=(upto k.toNat).flatMap (kd p)++(upto y.1.toNat).flatMap (jj p k)∧y.2≠[]∧y.2.length≤9*k.toNat+y.1.toNat) (fun y=>(p.cs.length-y.1).toNat) ?_ ?_
   ·exact⟨by omega,by omega,by dsimp only;rw[k2];simp,ho,by dsimp only;omega⟩
   rintro⟨c,o⟩ ⟨c0,c1,c2,c4,c3⟩
   dsimp only at c0 c1 c2 c3 ⊢
   by_cases hc:c<p.cs.length
   ·have hd:(upto k.toNat).flatMap (kd p)++(upto (c+1).toNat).flatMap (jj p k)=o++jj p k c:=by
     rw[qJ c0,bp,← bg,← c2];simp
    have kf:∀ o2,jj p k c=o2→o++o2=(upto k.toNat).flatMap (kd p)++(upto (c+1).toNat).flatMap (jj p k):=fun o2 h=>by rw[hd,h]
    have hD:jj p k c=if gt p.h0 k=0∨gt p.cs c≠0 then []else [hJ p k c]:=by simp[jj,Pos.hand,e]
    have fR:o≠[]:=c4
    have kz:o.length-1+1=o.length:=by have:=aB.2 fR;omega
    simp[hc]
    by_cases hn:gt p.h0 k=0
    ·simp[hn]
     (with_reducible repeat' first|refine Xk ?_<;>try simp|refine Xs ?_ ?_<;>intro h<;>(try intro h')<;>(try simp[h])<;>(try omega)|refine Xg ?_|omega)
     refine LJ.i (c+1,o) (by first|rfl|simp[hn,fR]) (by first|rfl|simp[hn,fR]) rfl rfl ?_
     have:=kf [] (by rw[hD,if_pos (.inl hn)])
     rw[av]at this
     exact⟨by dsimp only;omega,by dsimp only;omega,by dsimp only;omega,this,c4,by dsimp only at c3 ⊢;omega⟩
    ·by_cases hv:gt p.cs c=0
     ·simp[hn,hv]
      (with_reducible repeat' first|refine Xk ?_<;>try simp|refine Xs ?_ ?_<;>intro h<;>(try intro h')<;>(try simp[h])<;>(try omega)|refine Xg ?_|omega)
      refine Yn (f91 { p:=p,kind:=0,cur:=0,gO:=false } iz (by dsimp only;omega)) ?_
      simp
      (with_reducible repeat' first|refine Xk ?_<;>try simp|refine Xs ?_ ?_<;>intro h<;>(try intro h')<;>(try simp[h])<;>(try omega)|refine Xg ?_|omega)
      refine Yt (f92 (k:=k) (s:=p.side) k0 (by omega) (by omega) (by omega)) ?_
      simp
      have ha:=hp.h0.at_ k k0 hi
      have q0:=ga (l:=p.cs) (n:=c) (v:=1+2*k) c0 hc
      have q1:=ga (l:=p.h0) (n:=k) (v:=gt p.h0 k-1) k0 hi
      simp[e,q0,q1]
      (with_reducible repeat' first|refine Xk ?_<;>try simp[q0,q1]|refine Xs ?_ ?_<;>intro h<;>(try intro h')<;>(try simp[h,q0,q1])<;>(try omega)|refine Xg ?_|omega)
      skip
      refine LJ.i (c+1,o ++ [hJ p k c]) (by first|rfl|simp[fR,kz,hJ,Pos.hand,Pos.jP,ju,e]) (by first|rfl|simp[fR,kz,hJ,Pos.hand,Pos.jP,ju,e]) rfl rfl ?_
      have:=kf [hJ p k c] (by rw[hD,if_neg (by simp[hn,hv])])
      exact⟨by dsimp only;omega,by dsimp only;omega,by dsimp only;omega,this,by simp,by dsimp only at c3 ⊢;simp;omega⟩
     ·simp[hn,hv]
      (with_reducible repeat' first|refine Xk ?_<;>try simp|refine Xs ?_ ?_<;>intro h<;>(try intro h')<;>(try simp[h])<;>(try omega)|refine Xg ?_|omega)
      refine LJ.i (c+1,o) (by first|rfl|simp[fR]) (by first|rfl|simp[fR]) rfl rfl ?_
      have:=kf [] (by rw[hD,if_pos (.inr hv)])
      rw[av]at this
      exact⟨by dsimp only;omega,by dsimp only;omega,by dsimp only;omega,this,c4,by dsimp only at c3 ⊢;omega⟩
   ·have jR:(upto (k+1).toNat).flatMap (kd p)=o:=by
     rw[c2,qJ k0,bp,show c.toNat=p.cs.length by omega];simp[kd]
    have fR:o≠[]:=c4
    simp[hc]
    (with_reducible repeat' first|refine Xk ?_<;>try simp|refine Xs ?_ ?_<;>intro h<;>(try intro h')<;>(try simp[h])<;>(try omega)|refine Xg ?_|omega)
    refine LJ.i (k+1,o) (by first|rfl|simp[fR]) (by first|rfl|simp[fR]) rfl rfl ?_
    exact⟨by dsimp only;omega,by dsimp only;omega,by dsimp only;omega,jR.symm,by dsimp only at c3 ⊢;omega⟩
 ·have jR:out=jQ p:=by rw[k2,jQ,show k.toNat=(p.hand p.side).length by simp[Pos.hand,e];omega]
  have GZ:∀ q∈out,Small q:=fun q hq=>by
   rw[jR,CT hp]at hq
   exact(xQ hp hq).small hg
  have Gx:=FC hg hp
  rw[← jR]at Gx ⊢
  by_cases ho:out = []
  ·rw[if_pos ho,if_pos ho]
   simp[hi]
   refine eU.c rfl rfl (f48 [] (by simp) (by simp)) rfl (by simp) ?_
   simp[ho]
  ·rw[if_neg ho,if_neg ho]
   simp[hi]
   refine eU.c (x:=dN 5 Pos.cells (iv out)) rfl rfl (by rw[qd ho];exact f48 out GZ (by omega)) (by simp) (by simp) ?_
   simp
theorem Qa(g:ey)(hg:eW g)(p:Pos)(hp:fo g p)(e:p.side=1):Wf T 49 [dG g,dP p] [] (Is (dN 5 Pos.cells (iv (jQ p)))):=by
 have hz:=hp.size
 have hb:=hg.gH.size
 have hk:=hg.kinds
 have iz:=hp.small hg
 have l0:=hp.h0.len
 have l1:=hp.h1.len
 refine Yz rT (gu 68 [1005] (gu 62 [2039] rT.body)) ?_
 simp[rT,gu,iA,kG,kI,kR,jE,e]
 refine eF.e ((0,[]):Int×List Pos) (fun y=>[(3,.ptr 1 0 0),(5,if y.2 = []then .U else .eu 2 (y.2.length-1) 5 0 y.2.length),(15,dI p.h1),(16,.i p.h1.length),(17,.i y.1)]) (fun y=>[.row 41 0 g.cells,.row 44 0 p.cells]++(if y.2 = []then []else [.row 44 (y.2.length-1) (cl Pos.cells y.2)])) (fun y=>0≤y.1∧y.1≤p.h1.length∧y.2=(upto y.1.toNat).flatMap (kd p)∧y.2.length≤9*y.1.toNat) (fun y=>(p.h1.length-y.1).toNat) ?_ ?_
 ·simp
 rintro⟨k,out⟩ ⟨k0,k1,k2,k3⟩
 dsimp only at k0 k1 k2 k3 ⊢
 by_cases hi:k<p.h1.length
 ·by_cases ho:out = []
  ·subst ho
   rw[if_pos rfl,if_pos rfl]
   simp[hi]
   (with_reducible repeat' first|refine Xk ?_<;>try simp|refine Xs ?_ ?_<;>intro h<;>(try intro h')<;>(try simp[h])<;>(try omega)|refine Xg ?_|omega)
   refine eF.e ((0,[]):Int×List Pos) (fun y=>[(3,.ptr 1 0 0),(5,if y.2 = []then .U else .eu 2 (y.2.length-1) 5 0 y.2.length),(6,.i k),(7,.i (gt p.h1 k)),(15,dI p.h1),(16,.i p.h1.length),(17,.i k),(23,dI p.cs),(24,.i p.cs.length),(25,.i y.1)]) (fun y=>[.row 41 0 g.cells,.row 44 0 p.cells]++(if y.2 = []then []else [.row 44 (y.2.length-1) (cl Pos.cells y.2)])) (fun y=>0≤y.1∧y.1≤p.cs.length∧y.2=(upto k.toNat).flatMap (kd p)++(upto y.1.toNat).flatMap (jj p k)∧y.2.length≤9*k.toNat+y.1.toNat) (fun y=>(p.cs.length-y.1).toNat) ?_ ?_
   ·exact⟨by omega,by omega,by dsimp only;simp[← k2],by dsimp only;omega⟩
   rintro⟨c,o⟩ ⟨c0,c1,c2,c3⟩
   dsimp only at c0 c1 c2 c3 ⊢
   by_cases hc:c<p.cs.length
   ·have hd:(upto k.toNat).flatMap (kd p)++(upto (c+1).toNat).flatMap (jj p k)=o++jj p k c:=by
     rw[qJ c0,bp,← bg,← c2];simp
    have kf:∀ o2,jj p k c=o2→o++o2=(upto k.toNat).flatMap (kd p)++(upto (c+1).toNat).flatMap (jj p k):=fun o2 h=>by rw[hd,h]
    have hD:jj p k c=if gt p.h1 k=0∨gt p.cs c≠0 then []else [hJ p k c]:=by simp[jj,Pos.hand,e]
    by_cases fR:o = []
    ·subst fR
     rw[if_pos rfl,if_pos rfl]
     simp[hc]
     by_cases hn:gt p.h1 k=0
     ·simp[hn]
      (with_reducible repeat' first|refine Xk ?_<;>try simp|refine Xs ?_ ?_<;>intro h<;>(try intro h')<;>(try simp[h])<;>(try omega)|refine Xg ?_|omega)
      refine LJ.i (c+1,[]) (by first|rfl|simp[hn]) (by first|rfl|simp[hn]) rfl rfl ?_
      have:=kf [] (by rw[hD,if_pos (.inl hn)])
      rw[av]at this
      exact⟨by dsimp only;omega,by dsimp only;omega,by dsimp only;omega,this,by dsimp only at c3 ⊢;omega⟩
     ·by_cases hv:gt p.cs c=0
      ·simp[hn,hv]
       (with_reducible repeat' first|refine Xk ?_<;>try simp|refine Xs ?_ ?_<;>intro h<;>(try intro h')<;>(try simp[h])<;>(try omega)|refine Xg ?_|omega)
       refine Yn (f91 { p:=p,kind:=0,cur:=0,gO:=false } iz (by dsimp only;omega)) ?_
       simp
       (with_reducible repeat' first|refine Xk ?_<;>try simp|refine Xs ?_ ?_<;>intro h<;>(try intro h')<;>(try simp[h])<;>(try omega)|refine Xg ?_|omega)
       refine Yt (f92 (k:=k) (s:=p.side) k0 (by omega) (by omega) (by omega)) ?_
       simp
       have ha:=hp.h1.at_ k k0 hi
       have q0:=ga (l:=p.cs) (n:=c) (v:=1+2*k+1) c0 hc
       have q1:=ga (l:=p.h1) (n:=k) (v:=gt p.h1 k-1) k0 hi
       simp[e,q0,q1]
       (with_reducible repeat' first|refine Xk ?_<;>try simp[q0,q1]|refine Xs ?_ ?_<;>intro h<;>(try intro h')<;>(try simp[h,q0,q1])<;>(try omega)|refine Xg ?_|omega)
       refine LJ.i (c+1,[hJ p k c]) (by first|rfl|simp[gZ,hJ,Pos.hand,Pos.jP,ju,e]) (by first|rfl|simp[gZ,hJ,Pos.hand,Pos.jP,ju,e]) rfl rfl ?_
       have:=kf [hJ p k c] (by rw[hD,if_neg (by simp[hn,hv])])
       exact⟨by dsimp only;omega,by dsimp only;omega,by dsimp only;omega,this,by dsimp only at c3 ⊢;simp;omega⟩
      ·simp[hn,hv]
       (with_reducible repeat' first|refine Xk ?_<;>try simp|refine Xs ?_ ?_<;>intro h<;>(try intro h')<;>(try simp[h])<;>(try omega)|refine Xg ?_|omega)
       refine LJ.e (c+1,[]) ?_
       have:=kf [] (by rw[hD,if_pos (.inr hv)])
       rw[av]at this
       exact⟨by dsimp only;omega,by dsimp only;omega,by dsimp only;omega,this,by dsimp only at c3 ⊢;omega⟩
    ·have kz:o.length-1+1=o.length:=by have:=aB.2 fR;omega
     rw[if_neg fR,if_neg fR]
     simp[hc]
     by_cases hn:gt p.h1 k=0
     ·simp[hn]
      (with_reducible repeat' first|refine Xk ?_<;>try simp|refine Xs ?_ ?_<;>intro h<;>(try intro h')<;>(try simp[h])<;>(try omega)|refine Xg ?_|omega)
      refine LJ.i (c+1,o) (by first|rfl|simp[hn,fR]) (by first|rfl|simp[hn,fR]) rfl rfl ?_
      have:=kf [] (by rw[hD,if_pos (.inl hn)])
      rw[av]at this
      exact⟨by dsimp only;omega,by dsimp only;omega,by dsimp only;omega,this,by dsimp only at c3 ⊢;omega⟩
     ·by_cases hv:gt p.cs c=0
      ·simp[hn,hv]
       (with_reducible repeat' first|refine Xk ?_<;>try simp|refine Xs ?_ ?_<;>intro h<;>(try intro h')<;>(try simp[h])<;>(try omega)|refine Xg ?_|omega)
       refine Yn (f91 { p:=p,kind:=0,cur:=0,gO:=false } iz (by dsimp only;omega)) ?_
       simp
       (with_reducible repeat' first|refine Xk ?_<;>try simp|refine Xs ?_ ?_<;>intro h<;>(try intro h')<;>(try simp[h])<;>(try omega)|refine Xg ?_|omega)
       refine Yt (f92 (k:=k) (s:=p.side) k0 (by omega) (by omega) (by omega)) ?_
       simp
       have ha:=hp.h1.at_ k k0 hi
       have q0:=ga (l:=p.cs) (n:=c) (v:=1+2*k+1) c0 hc
       have q1:=ga (l:=p.h1) (n:=k) (v:=gt p.h1 k-1) k0 hi
       simp[e,q0,q1]
       (with_reducible repeat' first|refine Xk ?_<;>try simp[q0,q1]|refine Xs ?_ ?_<;>intro h<;>(try intro h')<;>(try simp[h,q0,q1])<;>(try omega)|refine Xg ?_|omega)
       skip
       refine LJ.i (c+1,o ++ [hJ p k c]) (by first|rfl|simp[fR,kz,hJ,Pos.hand,Pos.jP,ju,e]) (by first|rfl|simp[fR,kz,hJ,Pos.hand,Pos.jP,ju,e]) rfl rfl ?_
       have:=kf [hJ p k c] (by rw[hD,if_neg (by simp[hn,hv])])
       exact⟨by dsimp only;omega,by dsimp only;omega,by dsimp only;omega,this,by dsimp only at c3 ⊢;simp;omega⟩
      ·simp[hn,hv]
       (with_reducible repeat' first|refine Xk ?_<;>try simp|refine Xs ?_ ?_<;>intro h<;>(try intro h')<;>(try simp[h])<;>(try omega)|refine Xg ?_|omega)
       refine LJ.i (c+1,o) (by first|rfl|simp[fR]) (by first|rfl|simp[fR]) rfl rfl ?_
       have:=kf [] (by rw[hD,if_pos (.inr hv)])
       rw[av]at this
       exact⟨by dsimp only;omega,by dsimp only;omega,by dsimp only;omega,this,by dsimp only at c3 ⊢;omega⟩
   ·have jR:(upto (k+1).toNat).flatMap (kd p)=o:=by
     rw[c2,qJ k0,bp,show c.toNat=p.cs.length by omega];simp[kd]
    by_cases fR:o = []
    ·rw[if_pos fR,if_pos fR]
     simp[hc]
     (with_reducible repeat' first|refine Xk ?_<;>try simp|refine Xs ?_ ?_<;>intro h<;>(try intro h')<;>(try simp[h])<;>(try omega)|refine Xg ?_|omega)
     refine LJ.i (k+1,o) (by first|rfl|simp[fR]) (by first|rfl|simp[fR]) rfl rfl ?_
     exact⟨by dsimp only;omega,by dsimp only;omega,by dsimp only;omega,jR.symm,by dsimp only at c3 ⊢;omega⟩
    ·rw[if_neg fR,if_neg fR]
     simp[hc]
     (with_reducible repeat' first|refine Xk ?_<;>try simp|refine Xs ?_ ?_<;>intro h<;>(try intro h')<;>(try simp[h])<;>(try omega)|refine Xg ?_|omega)
     refine LJ.i (k+1,o) (by first|rfl|simp[fR]) (by first|rfl|simp[fR]) rfl rfl ?_
     exact⟨by dsimp only;omega,by dsimp only;omega,by dsimp only;omega,jR.symm,by dsimp only at c3 ⊢;omega⟩
  ·rw[if_neg ho,if_neg ho]
   simp[hi]
   (with_reducible repeat' first|refine Xk ?_<;>try simp|refine Xs ?_ ?_<;>intro h<;>(try intro h')<;>(try simp[h])<;>(try omega)|refine Xg ?_|omega)
   refine eF.e ((0,out):Int×List Pos) (fun y=>[(3,.ptr 1 0 0),(5,.eu 2 (y.2.length-1) 5 0 y.2.length),(6,.i k),(7,.i (gt p.h1 k)),(15,dI p.h1),(16,.i p.h1.length),(17,.i k),(23,dI p.cs),(24,.i p.cs.length),(25,.i y.1)]) (fun y=>[.row 41 0 g.cells,.row 44 0 p.cells,.row 44 (y.2.length-1) (cl Pos.cells y.2)]) (fun y=>0≤y.1∧y.1≤p.cs.length∧y.2=(upto k.toNat).flatMap (kd p)++(upto y.1.toNat).flatMap (jj p k)∧y.2≠[]∧y.2.length≤9*k.toNat+y.1.toNat) (fun y=>(p.cs.length-y.1).toNat) ?_ ?_
   ·exact⟨by omega,by omega,by dsimp only;rw[k2];simp,ho,by dsimp only;omega⟩
   rintro⟨c,o⟩ ⟨c0,c1,c2,c4,c3⟩
   dsimp only at c0 c1 c2 c3 ⊢
   by_cases hc:c<p.cs.length
   ·have hd:(upto k.toNat).flatMap (kd p)++(upto (c+1).toNat).flatMap (jj p k)=o++jj p k c:=by
     rw[qJ c0,bp,← bg,← c2];simp
    have kf:∀ o2,jj p k c=o2→o++o2=(upto k.toNat).flatMap (kd p)++(upto (c+1).toNat).flatMap (jj p k):=fun o2 h=>by rw[hd,h]
    have hD:jj p k c=if gt p.h1 k=0∨gt p.cs c≠0 then []else [hJ p k c]:=by simp[jj,Pos.hand,e]
    have fR:o≠[]:=c4
    have kz:o.length-1+1=o.length:=by have:=aB.2 fR;omega
    simp[hc]
    by_cases hn:gt p.h1 k=0
    ·simp[hn]
     (with_reducible repeat' first|refine Xk ?_<;>try simp|refine Xs ?_ ?_<;>intro h<;>(try intro h')<;>(try simp[h])<;>(try omega)|refine Xg ?_|omega)
     refine LJ.i (c+1,o) (by first|rfl|simp[hn,fR]) (by first|rfl|simp[hn,fR]) rfl rfl ?_
     have:=kf [] (by rw[hD,if_pos (.inl hn)])
     rw[av]at this
     exact⟨by dsimp only;omega,by dsimp only;omega,by dsimp only;omega,this,c4,by dsimp only at c3 ⊢;omega⟩
    ·by_cases hv:gt p.cs c=0
     ·simp[hn,hv]
      (with_reducible repeat' first|refine Xk ?_<;>try simp|refine Xs ?_ ?_<;>intro h<;>(try intro h')<;>(try simp[h])<;>(try omega)|refine Xg ?_|omega)
      refine Yn (f91 { p:=p,kind:=0,cur:=0,gO:=false } iz (by dsimp only;omega)) ?_
      simp
      (with_reducible repeat' first|refine Xk ?_<;>try simp|refine Xs ?_ ?_<;>intro h<;>(try intro h')<;>(try simp[h])<;>(try omega)|refine Xg ?_|omega)
      refine Yt (f92 (k:=k) (s:=p.side) k0 (by omega) (by omega) (by omega)) ?_
      simp
      have ha:=hp.h1.at_ k k0 hi
      have q0:=ga (l:=p.cs) (n:=c) (v:=1+2*k+1) c0 hc
      have q1:=ga (l:=p.h1) (n:=k) (v:=gt p.h1 k-1) k0 hi
      simp[e,q0,q1]
      (with_reducible repeat' first|refine Xk ?_<;>try simp[q0,q1]|refine Xs ?_ ?_<;>intro h<;>(try intro h')<;>(try simp[h,q0,q1])<;>(try omega)|refine Xg ?_|omega)
      skip
      refine LJ.i (c+1,o ++ [hJ p k c]) (by first|rfl|simp[fR,kz,hJ,Pos.hand,Pos.jP,ju,e]) (by first|rfl|simp[fR,kz,hJ,Pos.hand,Pos.jP,ju,e]) rfl rfl ?_
      have:=kf [hJ p k c] (by rw[hD,if_neg (by simp[hn,hv])])
      exact⟨by dsimp only;omega,by dsimp only;omega,by dsimp only;omega,this,by simp,by dsimp only at c3 ⊢;simp;omega⟩
     ·simp[hn,hv]
      (with_reducible repeat' first|refine Xk ?_<;>try simp|refine Xs ?_ ?_<;>intro h<;>(try intro h')<;>(try simp[h])<;>(try omega)|refine Xg ?_|omega)
      refine LJ.i (c+1,o) (by first|rfl|simp[fR]) (by first|rfl|simp[fR]) rfl rfl ?_
      have:=kf [] (by rw[hD,if_pos (.inr hv)])
      rw[av]at this
      exact⟨by dsimp only;omega,by dsimp only;omega,by dsimp only;omega,this,c4,by dsimp only at c3 ⊢;omega⟩
   ·have jR:(upto (k+1).toNat).flatMap (kd p)=o:=by
     rw[c2,qJ k0,bp,show c.toNat=p.cs.length by omega];simp[kd]
    have fR:o≠[]:=c4
    simp[hc]
    (with_reducible repeat' first|refine Xk ?_<;>try simp|refine Xs ?_ ?_<;>intro h<;>(try intro h')<;>(try simp[h])<;>(try omega)|refine Xg ?_|omega)
    refine LJ.i (k+1,o) (by first|rfl|simp[fR]) (by first|rfl|simp[fR]) rfl rfl ?_
    exact⟨by dsimp only;omega,by dsimp only;omega,by dsimp only;omega,jR.symm,by dsimp only at c3 ⊢;omega⟩
 ·have jR:out=jQ p:=by rw[k2,jQ,show k.toNat=(p.hand p.side).length by simp[Pos.hand,e];omega]
  have GZ:∀ q∈out,Small q:=fun q hq=>by
   rw[jR,CT hp]at hq
   exact(xQ hp hq).small hg
  have Gx:=FC hg hp
  rw[← jR]at Gx ⊢
  by_cases ho:out = []
  ·rw[if_pos ho,if_pos ho]
   simp[hi]
   refine eU.c rfl rfl (f48 [] (by simp) (by simp)) rfl (by simp) ?_
   simp[ho]
  ·rw[if_neg ho,if_neg ho]
   simp[hi]
   refine eU.c (x:=dN 5 Pos.cells (iv out)) rfl rfl (by rw[qd ho];exact f48 out GZ (by omega)) (by simp) (by simp) ?_
   simp
theorem f49(g:ey)(hg:eW g)(p:Pos)(hp:fo g p):Wf T 49 [dG g,dP p] [] (Is (dN 5 Pos.cells (iv (jQ p)))):=by
 have:=hp.side
 rcases(show p.side=0∨p.side=1 by omega)with e|e
 ·exact P' g hg p hp e
 ·exact Qa g hg p hp e
