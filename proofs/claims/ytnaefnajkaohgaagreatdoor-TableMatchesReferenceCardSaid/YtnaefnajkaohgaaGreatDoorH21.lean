/- 21 -/
import Derived.Test.YtnaefnajkaohgaaGreatDoorH20
set_option linter.all false
namespace Go.Proofs.YtnaefnajkaohgaaGreatDoor
open Go Go.AL Classical
set_option maxRecDepth 10000
set_option maxHeartbeats 8000000
def sQ{k:Int}(h:0≤k):upto (k+1).toNat=upto k.toNat ++ [k]:=by
 rw[show(k+1).toNat=k.toNat+1 by omega]
 simp only[upto,List.range_succ,List.map_append,List.map_cons,List.map_nil]
 rw[cr h]
@[simp] theorem aqT:upto 0 = []:=rfl
def kQ(p:Pos)(k c:Int):List Pos:=if gt (p.hand p.side) k=0∨gt p.cs c≠0 then []else [jd p k c]
def me(p:Pos)(k:Int):List Pos:=(upto p.cs.length).flatMap (kQ p k)
def lR(p:Pos):List Pos:=(upto (p.hand p.side).length).flatMap (me p)
def G7{g:eH}{p q:Pos}(hp:fO g p):q∈lR p↔vp g p q:=by
 have hl:=(hp.hand p.side).len
 unfold lR me kQ vp
 simp only[bz,jI]
 constructor
 ·rintro⟨k,⟨k0,k1⟩,c,⟨c0,c1⟩,h⟩
  split at h
  ·cases h
  ·rename_i hn
   simp only[not_or,Decidable.not_not]at hn
   exact⟨k,c,k0,by omega,c0,c1,hn.1,hn.2,List.mem_singleton.1 h⟩
 ·rintro⟨k,c,k0,k1,c0,c1,h1,h2,rfl⟩
  refine⟨k,⟨k0,by omega⟩,c,⟨c0,c1⟩,?_⟩
  rw[if_neg (by simp[h1,h2])];simp
def J8{g:eH}(hg:fe g){p:Pos}(hp:fO g p):(lR p).length≤18:=by
 have hz:=hp.size
 have hb:=hg.iw.size
 have hk:=hg.kinds
 have hl:=(hp.hand p.side).len
 have:(lR p).length≤(upto (p.hand p.side).length).length*9:=xp fun k _=>by
  have:(me p k).length≤(upto p.cs.length).length*1:=xp fun c _=>by unfold kQ;split<;>simp
  simp[upto]at this ⊢;omega
 simp[upto]at this
 omega
def VP(g:eH)(hg:fe g)(p:Pos)(hp:fO g p)(e:p.side=0):Wf T 49 [dG g,dP p] [] (Is (dN 5 Pos.cells (jy (lR p)))):=by
 have hz:=hp.size
 have hb:=hg.iw.size
 have hk:=hg.kinds
 have jB:=hp.small hg
 have l0:=hp.h0.len
 have l1:=hp.h1.len
 refine Yz vm (gL 68 [1005] (gL 62 [2039] vm.body)) ?_
 simp[vm,gL,jg,lD,lH,lS,ku,e]
 refine eN.e ((0,[]):Int×List Pos) (fun y=>[(3,.ptr 1 0 0),(5,if y.2 = []then .eG else .eF 2 (y.2.length-1) 5 0 y.2.length),(15,dI p.h0),(16,.i p.h0.length),(17,.i y.1)]) (fun y=>[.row 41 0 g.cells,.row 44 0 p.cells]++(if y.2 = []then []else [.row 44 (y.2.length-1) (cl Pos.cells y.2)])) (fun y=>0≤y.1∧y.1≤p.h0.length∧y.2=(upto y.1.toNat).flatMap (me p)∧y.2.length≤9*y.1.toNat) (fun y=>(p.h0.length-y.1).toNat) ?_ ?_
 ·simp
 rintro⟨k,out⟩ ⟨k0,k1,k2,k3⟩
 dsimp only at k0 k1 k2 k3 ⊢
 by_cases hi:k<p.h0.length
 ·by_cases ho:out = []
  ·subst ho
   rw[if_pos rfl,if_pos rfl]
   simp[hi]
   (with_reducible repeat' first|refine Xk ?_<;>try simp|refine Xs ?_ ?_<;>intro h<;>(try intro h')<;>(try simp[h])<;>try omega|refine Xg ?_|omega)
   refine eN.e ((0,[]):Int×List Pos) (fun y=>[(3,.ptr 1 0 0),(5,if y.2 = []then .eG else .eF 2 (y.2.length-1) 5 0 y.2.length),(6,.i k),(7,.i (gt p.h0 k)),(15,dI p.h0),(16,.i p.h0.length),(17,.i k),(23,dI p.cs),(24,.i p.cs.length),(25,.i y.1)]) (fun y=>[.row 41 0 g.cells,.row 44 0 p.cells]++(if y.2 = []then []else [.row 44 (y.2.length-1) (cl Pos.cells y.2)])) (fun y=>0≤y.1∧y.1≤p.cs.length∧y.2=(upto k.toNat).flatMap (me p)++(upto y.1.toNat).flatMap (kQ p k)∧y.2.length≤9*k.toNat+y.1.toNat) (fun y=>(p.cs.length-y.1).toNat) ?_ ?_
   ·exact⟨by omega,by omega,by dsimp only;simp[← k2],by dsimp only;omega⟩
   rintro⟨c,o⟩ ⟨c0,c1,c2,c3⟩
   dsimp only at c0 c1 c2 c3 ⊢
   by_cases hc:c<p.cs.length
   ·have hd:(upto k.toNat).flatMap (me p)++(upto (c+1).toNat).flatMap (kQ p k)=o++kQ p k c:=by
     rw[sQ c0,bA,← bj,← c2];simp
    have lI:∀ o2,kQ p k c=o2→o++o2=(upto k.toNat).flatMap (me p)++(upto (c+1).toNat).flatMap (kQ p k):=fun o2 h=>by rw[hd,h]
    have hD:kQ p k c=if gt p.h0 k=0∨gt p.cs c≠0 then []else [jd p k c]:=by simp[kQ,Pos.hand,e]
    by_cases gJ:o = []
    ·subst gJ
     rw[if_pos rfl,if_pos rfl]
     simp[hc]
     by_cases hn:gt p.h0 k=0
     ·simp[hn]
      (with_reducible repeat' first|refine Xk ?_<;>try simp|refine Xs ?_ ?_<;>intro h<;>(try intro h')<;>(try simp[h])<;>try omega|refine Xg ?_|omega)
      refine LJ.i (c+1,[]) (by first|rfl|simp[hn]) (by first|rfl|simp[hn]) rfl rfl ?_
      have:=lI [] (by rw[hD,if_pos (.inl hn)])
      rw[aw]at this
      exact eY ⟨this,by dsimp only at c3 ⊢;omega⟩
     ·by_cases hv:gt p.cs c=0
      ·simp[hn,hv]
       (with_reducible repeat' first|refine Xk ?_<;>try simp|refine Xs ?_ ?_<;>intro h<;>(try intro h')<;>(try simp[h])<;>try omega|refine Xg ?_|omega)
       refine Yn (f91 { p:=p,kind:=0,cur:=0,iL:=false } jB (by dsimp only;omega)) ?_
       simp
       (with_reducible repeat' first|refine Xk ?_<;>try simp|refine Xs ?_ ?_<;>intro h<;>(try intro h')<;>(try simp[h])<;>try omega|refine Xg ?_|omega)
       refine Yt (f92 (k:=k) (s:=p.side) k0 (by omega) (by omega) (by omega)) ?_
       simp
       have ha:=hp.h0.at_ k k0 hi
       have q0:=gN (l:=p.cs) (n:=c) (v:=1+2*k) c0 hc
       have q1:=gN (l:=p.h0) (n:=k) (v:=gt p.h0 k-1) k0 hi
       simp[e,q0,q1]
       (with_reducible repeat' first|refine Xk ?_<;>try simp[q0,q1]|refine Xs ?_ ?_<;>intro h<;>(try intro h')<;>(try simp[h,q0,q1])<;>try omega|refine Xg ?_|omega)
       refine LJ.i (c+1,[jd p k c]) (by first|rfl|simp[ix,jd,Pos.hand,Pos.lN,kF,e]) (by first|rfl|simp[ix,jd,Pos.hand,Pos.lN,kF,e]) rfl rfl ?_
       have:=lI [jd p k c] (by rw[hD,if_neg (by simp[hn,hv])])
       exact eY ⟨this,by dsimp only at c3 ⊢;simp;omega⟩
      ·simp[hn,hv]
       (with_reducible repeat' first|refine Xk ?_<;>try simp|refine Xs ?_ ?_<;>intro h<;>(try intro h')<;>(try simp[h])<;>try omega|refine Xg ?_|omega)
       refine LJ.e (c+1,[]) ?_
       have:=lI [] (by rw[hD,if_pos (.inr hv)])
       rw[aw]at this
       exact eY ⟨this,by dsimp only at c3 ⊢;omega⟩
    ·have lq:o.length-1+1=o.length:=by have:=az.2 gJ;omega
     rw[if_neg gJ,if_neg gJ]
     simp[hc]
     by_cases hn:gt p.h0 k=0
     ·simp[hn]
      (with_reducible repeat' first|refine Xk ?_<;>try simp|refine Xs ?_ ?_<;>intro h<;>(try intro h')<;>(try simp[h])<;>try omega|refine Xg ?_|omega)
      refine LJ.i (c+1,o) (by first|rfl|simp[hn,gJ]) (by first|rfl|simp[hn,gJ]) rfl rfl ?_
      have:=lI [] (by rw[hD,if_pos (.inl hn)])
      rw[aw]at this
      exact eY ⟨this,by dsimp only at c3 ⊢;omega⟩
     ·by_cases hv:gt p.cs c=0
      ·simp[hn,hv]
       (with_reducible repeat' first|refine Xk ?_<;>try simp|refine Xs ?_ ?_<;>intro h<;>(try intro h')<;>(try simp[h])<;>try omega|refine Xg ?_|omega)
       refine Yn (f91 { p:=p,kind:=0,cur:=0,iL:=false } jB (by dsimp only;omega)) ?_
       simp
       (with_reducible repeat' first|refine Xk ?_<;>try simp|refine Xs ?_ ?_<;>intro h<;>(try intro h')<;>(try simp[h])<;>try omega|refine Xg ?_|omega)
       refine Yt (f92 (k:=k) (s:=p.side) k0 (by omega) (by omega) (by omega)) ?_
       simp
       have ha:=hp.h0.at_ k k0 hi
       have q0:=gN (l:=p.cs) (n:=c) (v:=1+2*k) c0 hc
       have q1:=gN (l:=p.h0) (n:=k) (v:=gt p.h0 k-1) k0 hi
       simp[e,q0,q1]
       (with_reducible repeat' first|refine Xk ?_<;>try simp[q0,q1]|refine Xs ?_ ?_<;>intro h<;>(try intro h')<;>(try simp[h,q0,q1])<;>try omega|refine Xg ?_|omega)
       skip
       refine LJ.i (c+1,o ++ [jd p k c]) (by first|rfl|simp[gJ,lq,jd,Pos.hand,Pos.lN,kF,e]) (by first|rfl|simp[gJ,lq,jd,Pos.hand,Pos.lN,kF,e]) rfl rfl ?_
       have:=lI [jd p k c] (by rw[hD,if_neg (by simp[hn,hv])])
       exact eY ⟨this,by dsimp only at c3 ⊢;simp;omega⟩
      ·simp[hn,hv]
       (with_reducible repeat' first|refine Xk ?_<;>try simp|refine Xs ?_ ?_<;>intro h<;>(try intro h')<;>(try simp[h])<;>try omega|refine Xg ?_|omega)
       refine LJ.i (c+1,o) (by first|rfl|simp[gJ]) (by first|rfl|simp[gJ]) rfl rfl ?_
       have:=lI [] (by rw[hD,if_pos (.inr hv)])
       rw[aw]at this
       exact eY ⟨this,by dsimp only at c3 ⊢;omega⟩
   ·have lU:(upto (k+1).toNat).flatMap (me p)=o:=by
     rw[c2,sQ k0,bA,show c.toNat=p.cs.length by omega];simp[me]
    by_cases gJ:o = []
    ·rw[if_pos gJ,if_pos gJ]
     simp[hc]
     (with_reducible repeat' first|refine Xk ?_<;>try simp|refine Xs ?_ ?_<;>intro h<;>(try intro h')<;>(try simp[h])<;>try omega|refine Xg ?_|omega)
     refine LJ.i (k+1,o) (by first|rfl|simp[gJ]) (by first|rfl|simp[gJ]) rfl rfl ?_
     exact eY ⟨lU.symm,by dsimp only at c3 ⊢;omega⟩
    ·rw[if_neg gJ,if_neg gJ]
     simp[hc]
     (with_reducible repeat' first|refine Xk ?_<;>try simp|refine Xs ?_ ?_<;>intro h<;>(try intro h')<;>(try simp[h])<;>try omega|refine Xg ?_|omega)
     refine LJ.i (k+1,o) (by first|rfl|simp[gJ]) (by first|rfl|simp[gJ]) rfl rfl ?_
     exact eY ⟨lU.symm,by dsimp only at c3 ⊢;omega⟩
  ·rw[if_neg ho,if_neg ho]
   simp[hi]
   (with_reducible repeat' first|refine Xk ?_<;>try simp|refine Xs ?_ ?_<;>intro h<;>(try intro h')<;>(try simp[h])<;>try omega|refine Xg ?_|omega)
   refine eN.e ((0,out):Int×List Pos) (fun y=>[(3,.ptr 1 0 0),(5,.eF 2 (y.2.length-1) 5 0 y.2.length),(6,.i k),(7,.i (gt p.h0 k)),(15,dI p.h0),(16,.i p.h0.length),(17,.i k),(23,dI p.cs),(24,.i p.cs.length),(25,.i y.1)]) (fun y=>[.row 41 0 g.cells,.row 44 0 p.cells,.row 44 (y.2.length-1) (cl Pos.cells y.2)]) (fun y=>0≤y.1∧y.1≤p.cs.length∧y.2=(upto k.toNat).flatMap (me p)++(upto y.1.toNat).flatMap (kQ p k)∧y.2≠[]∧y.2.length≤9*k.toNat+y.1.toNat) (fun y=>(p.cs.length-y.1).toNat) ?_ ?_
   ·exact⟨by omega,by omega,by dsimp only;rw[k2];simp,ho,by dsimp only;omega⟩
   rintro⟨c,o⟩ ⟨c0,c1,c2,c4,c3⟩
   dsimp only at c0 c1 c2 c3 ⊢
   by_cases hc:c<p.cs.length
   ·have hd:(upto k.toNat).flatMap (me p)++(upto (c+1).toNat).flatMap (kQ p k)=o++kQ p k c:=by
     rw[sQ c0,bA,← bj,← c2];simp
    have lI:∀ o2,kQ p k c=o2→o++o2=(upto k.toNat).flatMap (me p)++(upto (c+1).toNat).flatMap (kQ p k):=fun o2 h=>by rw[hd,h]
    have hD:kQ p k c=if gt p.h0 k=0∨gt p.cs c≠0 then []else [jd p k c]:=by simp[kQ,Pos.hand,e]
    have gJ:o≠[]:=c4
    have lq:o.length-1+1=o.length:=by have:=az.2 gJ;omega
    simp[hc]
    by_cases hn:gt p.h0 k=0
    ·simp[hn]
     (with_reducible repeat' first|refine Xk ?_<;>try simp|refine Xs ?_ ?_<;>intro h<;>(try intro h')<;>(try simp[h])<;>try omega|refine Xg ?_|omega)
     refine LJ.i (c+1,o) (by first|rfl|simp[hn,gJ]) (by first|rfl|simp[hn,gJ]) rfl rfl ?_
     have:=lI [] (by rw[hD,if_pos (.inl hn)])
     rw[aw]at this
     exact eY ⟨this,c4,by dsimp only at c3 ⊢;omega⟩
    ·by_cases hv:gt p.cs c=0
     ·simp[hn,hv]
      (with_reducible repeat' first|refine Xk ?_<;>try simp|refine Xs ?_ ?_<;>intro h<;>(try intro h')<;>(try simp[h])<;>try omega|refine Xg ?_|omega)
      refine Yn (f91 { p:=p,kind:=0,cur:=0,iL:=false } jB (by dsimp only;omega)) ?_
      simp
      (with_reducible repeat' first|refine Xk ?_<;>try simp|refine Xs ?_ ?_<;>intro h<;>(try intro h')<;>(try simp[h])<;>try omega|refine Xg ?_|omega)
      refine Yt (f92 (k:=k) (s:=p.side) k0 (by omega) (by omega) (by omega)) ?_
      simp
      have ha:=hp.h0.at_ k k0 hi
      have q0:=gN (l:=p.cs) (n:=c) (v:=1+2*k) c0 hc
      have q1:=gN (l:=p.h0) (n:=k) (v:=gt p.h0 k-1) k0 hi
      simp[e,q0,q1]
      (with_reducible repeat' first|refine Xk ?_<;>try simp[q0,q1]|refine Xs ?_ ?_<;>intro h<;>(try intro h')<;>(try simp[h,q0,q1])<;>try omega|refine Xg ?_|omega)
      skip
      refine LJ.i (c+1,o ++ [jd p k c]) (by first|rfl|simp[gJ,lq,jd,Pos.hand,Pos.lN,kF,e]) (by first|rfl|simp[gJ,lq,jd,Pos.hand,Pos.lN,kF,e]) rfl rfl ?_
      have:=lI [jd p k c] (by rw[hD,if_neg (by simp[hn,hv])])
      exact⟨by dsimp only;omega,by dsimp only;omega,by dsimp only;omega,this,by simp,by dsimp only at c3 ⊢;simp;omega⟩
     ·simp[hn,hv]
      (with_reducible repeat' first|refine Xk ?_<;>try simp|refine Xs ?_ ?_<;>intro h<;>(try intro h')<;>(try simp[h])<;>try omega|refine Xg ?_|omega)
      refine LJ.i (c+1,o) (by first|rfl|simp[gJ]) (by first|rfl|simp[gJ]) rfl rfl ?_
      have:=lI [] (by rw[hD,if_pos (.inr hv)])
      rw[aw]at this
      exact eY ⟨this,c4,by dsimp only at c3 ⊢;omega⟩
   ·have lU:(upto (k+1).toNat).flatMap (me p)=o:=by
     rw[c2,sQ k0,bA,show c.toNat=p.cs.length by omega];simp[me]
    have gJ:o≠[]:=c4
    simp[hc]
    (with_reducible repeat' first|refine Xk ?_<;>try simp|refine Xs ?_ ?_<;>intro h<;>(try intro h')<;>(try simp[h])<;>try omega|refine Xg ?_|omega)
    refine LJ.i (k+1,o) (by first|rfl|simp[gJ]) (by first|rfl|simp[gJ]) rfl rfl ?_
    exact eY ⟨lU.symm,by dsimp only at c3 ⊢;omega⟩
 ·have lU:out=lR p:=by rw[k2,lR,show k.toNat=(p.hand p.side).length by simp[Pos.hand,e];omega]
  have Lz:∀ q∈out,Small q:=fun q hq=>by
   rw[lU,G7 hp]at hq
   exact(BA hp hq).small hg
  have Le:=J8 hg hp
  rw[← lU]at Le ⊢
  by_cases ho:out = []
  ·rw[if_pos ho,if_pos ho]
   simp[hi]
   refine fg.c rfl rfl (f48 [] (by simp) (by simp)) rfl (by simp) ?_
   simp[ho]
  ·rw[if_neg ho,if_neg ho]
   simp[hi]
   refine fg.c (x:=dN 5 Pos.cells (jy out)) rfl rfl (by rw[th ho];exact f48 out Lz (by omega)) (by simp) (by simp) ?_
   simp
def VQ(g:eH)(hg:fe g)(p:Pos)(hp:fO g p)(e:p.side=1):Wf T 49 [dG g,dP p] [] (Is (dN 5 Pos.cells (jy (lR p)))):=by
 have hz:=hp.size
 have hb:=hg.iw.size
 have hk:=hg.kinds
 have jB:=hp.small hg
 have l0:=hp.h0.len
 have l1:=hp.h1.len
 refine Yz vm (gL 68 [1005] (gL 62 [2039] vm.body)) ?_
 simp[vm,gL,jg,lD,lH,lS,ku,e]
 refine eN.e ((0,[]):Int×List Pos) (fun y=>[(3,.ptr 1 0 0),(5,if y.2 = []then .eG else .eF 2 (y.2.length-1) 5 0 y.2.length),(15,dI p.h1),(16,.i p.h1.length),(17,.i y.1)]) (fun y=>[.row 41 0 g.cells,.row 44 0 p.cells]++(if y.2 = []then []else [.row 44 (y.2.length-1) (cl Pos.cells y.2)])) (fun y=>0≤y.1∧y.1≤p.h1.length∧y.2=(upto y.1.toNat).flatMap (me p)∧y.2.length≤9*y.1.toNat) (fun y=>(p.h1.length-y.1).toNat) ?_ ?_
 ·simp
 rintro⟨k,out⟩ ⟨k0,k1,k2,k3⟩
 dsimp only at k0 k1 k2 k3 ⊢
 by_cases hi:k<p.h1.length
 ·by_cases ho:out = []
  ·subst ho
   rw[if_pos rfl,if_pos rfl]
   simp[hi]
   (with_reducible repeat' first|refine Xk ?_<;>try simp|refine Xs ?_ ?_<;>intro h<;>(try intro h')<;>(try simp[h])<;>try omega|refine Xg ?_|omega)
   refine eN.e ((0,[]):Int×List Pos) (fun y=>[(3,.ptr 1 0 0),(5,if y.2 = []then .eG else .eF 2 (y.2.length-1) 5 0 y.2.length),(6,.i k),(7,.i (gt p.h1 k)),(15,dI p.h1),(16,.i p.h1.length),(17,.i k),(23,dI p.cs),(24,.i p.cs.length),(25,.i y.1)]) (fun y=>[.row 41 0 g.cells,.row 44 0 p.cells]++(if y.2 = []then []else [.row 44 (y.2.length-1) (cl Pos.cells y.2)])) (fun y=>0≤y.1∧y.1≤p.cs.length∧y.2=(upto k.toNat).flatMap (me p)++(upto y.1.toNat).flatMap (kQ p k)∧y.2.length≤9*k.toNat+y.1.toNat) (fun y=>(p.cs.length-y.1).toNat) ?_ ?_
   ·exact⟨by omega,by omega,by dsimp only;simp[← k2],by dsimp only;omega⟩
   rintro⟨c,o⟩ ⟨c0,c1,c2,c3⟩
   dsimp only at c0 c1 c2 c3 ⊢
   by_cases hc:c<p.cs.length
   ·have hd:(upto k.toNat).flatMap (me p)++(upto (c+1).toNat).flatMap (kQ p k)=o++kQ p k c:=by
     rw[sQ c0,bA,← bj,← c2];simp
    have lI:∀ o2,kQ p k c=o2→o++o2=(upto k.toNat).flatMap (me p)++(upto (c+1).toNat).flatMap (kQ p k):=fun o2 h=>by rw[hd,h]
    have hD:kQ p k c=if gt p.h1 k=0∨gt p.cs c≠0 then []else [jd p k c]:=by simp[kQ,Pos.hand,e]
    by_cases gJ:o = []
    ·subst gJ
     rw[if_pos rfl,if_pos rfl]
     simp[hc]
     by_cases hn:gt p.h1 k=0
     ·simp[hn]
      (with_reducible repeat' first|refine Xk ?_<;>try simp|refine Xs ?_ ?_<;>intro h<;>(try intro h')<;>(try simp[h])<;>try omega|refine Xg ?_|omega)
      refine LJ.i (c+1,[]) (by first|rfl|simp[hn]) (by first|rfl|simp[hn]) rfl rfl ?_
      have:=lI [] (by rw[hD,if_pos (.inl hn)])
      rw[aw]at this
      exact eY ⟨this,by dsimp only at c3 ⊢;omega⟩
     ·by_cases hv:gt p.cs c=0
      ·simp[hn,hv]
       (with_reducible repeat' first|refine Xk ?_<;>try simp|refine Xs ?_ ?_<;>intro h<;>(try intro h')<;>(try simp[h])<;>try omega|refine Xg ?_|omega)
       refine Yn (f91 { p:=p,kind:=0,cur:=0,iL:=false } jB (by dsimp only;omega)) ?_
       simp
       (with_reducible repeat' first|refine Xk ?_<;>try simp|refine Xs ?_ ?_<;>intro h<;>(try intro h')<;>(try simp[h])<;>try omega|refine Xg ?_|omega)
       refine Yt (f92 (k:=k) (s:=p.side) k0 (by omega) (by omega) (by omega)) ?_
       simp
       have ha:=hp.h1.at_ k k0 hi
       have q0:=gN (l:=p.cs) (n:=c) (v:=1+2*k+1) c0 hc
       have q1:=gN (l:=p.h1) (n:=k) (v:=gt p.h1 k-1) k0 hi
       simp[e,q0,q1]
       (with_reducible repeat' first|refine Xk ?_<;>try simp[q0,q1]|refine Xs ?_ ?_<;>intro h<;>(try intro h')<;>(try simp[h,q0,q1])<;>try omega|refine Xg ?_|omega)
       refine LJ.i (c+1,[jd p k c]) (by first|rfl|simp[ix,jd,Pos.hand,Pos.lN,kF,e]) (by first|rfl|simp[ix,jd,Pos.hand,Pos.lN,kF,e]) rfl rfl ?_
       have:=lI [jd p k c] (by rw[hD,if_neg (by simp[hn,hv])])
       exact eY ⟨this,by dsimp only at c3 ⊢;simp;omega⟩
      ·simp[hn,hv]
       (with_reducible repeat' first|refine Xk ?_<;>try simp|refine Xs ?_ ?_<;>intro h<;>(try intro h')<;>(try simp[h])<;>try omega|refine Xg ?_|omega)
       refine LJ.e (c+1,[]) ?_
       have:=lI [] (by rw[hD,if_pos (.inr hv)])
       rw[aw]at this
       exact eY ⟨this,by dsimp only at c3 ⊢;omega⟩
    ·have lq:o.length-1+1=o.length:=by have:=az.2 gJ;omega
     rw[if_neg gJ,if_neg gJ]
     simp[hc]
     by_cases hn:gt p.h1 k=0
     ·simp[hn]
      (with_reducible repeat' first|refine Xk ?_<;>try simp|refine Xs ?_ ?_<;>intro h<;>(try intro h')<;>(try simp[h])<;>try omega|refine Xg ?_|omega)
      refine LJ.i (c+1,o) (by first|rfl|simp[hn,gJ]) (by first|rfl|simp[hn,gJ]) rfl rfl ?_
      have:=lI [] (by rw[hD,if_pos (.inl hn)])
      rw[aw]at this
      exact eY ⟨this,by dsimp only at c3 ⊢;omega⟩
     ·by_cases hv:gt p.cs c=0
      ·simp[hn,hv]
       (with_reducible repeat' first|refine Xk ?_<;>try simp|refine Xs ?_ ?_<;>intro h<;>(try intro h')<;>(try simp[h])<;>try omega|refine Xg ?_|omega)
       refine Yn (f91 { p:=p,kind:=0,cur:=0,iL:=false } jB (by dsimp only;omega)) ?_
       simp
       (with_reducible repeat' first|refine Xk ?_<;>try simp|refine Xs ?_ ?_<;>intro h<;>(try intro h')<;>(try simp[h])<;>try omega|refine Xg ?_|omega)
       refine Yt (f92 (k:=k) (s:=p.side) k0 (by omega) (by omega) (by omega)) ?_
       simp
       have ha:=hp.h1.at_ k k0 hi
       have q0:=gN (l:=p.cs) (n:=c) (v:=1+2*k+1) c0 hc
       have q1:=gN (l:=p.h1) (n:=k) (v:=gt p.h1 k-1) k0 hi
       simp[e,q0,q1]
       (with_reducible repeat' first|refine Xk ?_<;>try simp[q0,q1]|refine Xs ?_ ?_<;>intro h<;>(try intro h')<;>(try simp[h,q0,q1])<;>try omega|refine Xg ?_|omega)
       skip
       refine LJ.i (c+1,o ++ [jd p k c]) (by first|rfl|simp[gJ,lq,jd,Pos.hand,Pos.lN,kF,e]) (by first|rfl|simp[gJ,lq,jd,Pos.hand,Pos.lN,kF,e]) rfl rfl ?_
       have:=lI [jd p k c] (by rw[hD,if_neg (by simp[hn,hv])])
       exact eY ⟨this,by dsimp only at c3 ⊢;simp;omega⟩
      ·simp[hn,hv]
       (with_reducible repeat' first|refine Xk ?_<;>try simp|refine Xs ?_ ?_<;>intro h<;>(try intro h')<;>(try simp[h])<;>try omega|refine Xg ?_|omega)
       refine LJ.i (c+1,o) (by first|rfl|simp[gJ]) (by first|rfl|simp[gJ]) rfl rfl ?_
       have:=lI [] (by rw[hD,if_pos (.inr hv)])
       rw[aw]at this
       exact eY ⟨this,by dsimp only at c3 ⊢;omega⟩
   ·have lU:(upto (k+1).toNat).flatMap (me p)=o:=by
     rw[c2,sQ k0,bA,show c.toNat=p.cs.length by omega];simp[me]
    by_cases gJ:o = []
    ·rw[if_pos gJ,if_pos gJ]
     simp[hc]
     (with_reducible repeat' first|refine Xk ?_<;>try simp|refine Xs ?_ ?_<;>intro h<;>(try intro h')<;>(try simp[h])<;>try omega|refine Xg ?_|omega)
     refine LJ.i (k+1,o) (by first|rfl|simp[gJ]) (by first|rfl|simp[gJ]) rfl rfl ?_
     exact eY ⟨lU.symm,by dsimp only at c3 ⊢;omega⟩
    ·rw[if_neg gJ,if_neg gJ]
     simp[hc]
     (with_reducible repeat' first|refine Xk ?_<;>try simp|refine Xs ?_ ?_<;>intro h<;>(try intro h')<;>(try simp[h])<;>try omega|refine Xg ?_|omega)
     refine LJ.i (k+1,o) (by first|rfl|simp[gJ]) (by first|rfl|simp[gJ]) rfl rfl ?_
     exact eY ⟨lU.symm,by dsimp only at c3 ⊢;omega⟩
  ·rw[if_neg ho,if_neg ho]
   simp[hi]
   (with_reducible repeat' first|refine Xk ?_<;>try simp|refine Xs ?_ ?_<;>intro h<;>(try intro h')<;>(try simp[h])<;>try omega|refine Xg ?_|omega)
   refine eN.e ((0,out):Int×List Pos) (fun y=>[(3,.ptr 1 0 0),(5,.eF 2 (y.2.length-1) 5 0 y.2.length),(6,.i k),(7,.i (gt p.h1 k)),(15,dI p.h1),(16,.i p.h1.length),(17,.i k),(23,dI p.cs),(24,.i p.cs.length),(25,.i y.1)]) (fun y=>[.row 41 0 g.cells,.row 44 0 p.cells,.row 44 (y.2.length-1) (cl Pos.cells y.2)]) (fun y=>0≤y.1∧y.1≤p.cs.length∧y.2=(upto k.toNat).flatMap (me p)++(upto y.1.toNat).flatMap (kQ p k)∧y.2≠[]∧y.2.length≤9*k.toNat+y.1.toNat) (fun y=>(p.cs.length-y.1).toNat) ?_ ?_
   ·exact⟨by omega,by omega,by dsimp only;rw[k2];simp,ho,by dsimp only;omega⟩
   rintro⟨c,o⟩ ⟨c0,c1,c2,c4,c3⟩
   dsimp only at c0 c1 c2 c3 ⊢
   by_cases hc:c<p.cs.length
   ·have hd:(upto k.toNat).flatMap (me p)++(upto (c+1).toNat).flatMap (kQ p k)=o++kQ p k c:=by
     rw[sQ c0,bA,← bj,← c2];simp
    have lI:∀ o2,kQ p k c=o2→o++o2=(upto k.toNat).flatMap (me p)++(upto (c+1).toNat).flatMap (kQ p k):=fun o2 h=>by rw[hd,h]
    have hD:kQ p k c=if gt p.h1 k=0∨gt p.cs c≠0 then []else [jd p k c]:=by simp[kQ,Pos.hand,e]
    have gJ:o≠[]:=c4
    have lq:o.length-1+1=o.length:=by have:=az.2 gJ;omega
    simp[hc]
    by_cases hn:gt p.h1 k=0
    ·simp[hn]
     (with_reducible repeat' first|refine Xk ?_<;>try simp|refine Xs ?_ ?_<;>intro h<;>(try intro h')<;>(try simp[h])<;>try omega|refine Xg ?_|omega)
     refine LJ.i (c+1,o) (by first|rfl|simp[hn,gJ]) (by first|rfl|simp[hn,gJ]) rfl rfl ?_
     have:=lI [] (by rw[hD,if_pos (.inl hn)])
     rw[aw]at this
     exact eY ⟨this,c4,by dsimp only at c3 ⊢;omega⟩
    ·by_cases hv:gt p.cs c=0
     ·simp[hn,hv]
      (with_reducible repeat' first|refine Xk ?_<;>try simp|refine Xs ?_ ?_<;>intro h<;>(try intro h')<;>(try simp[h])<;>try omega|refine Xg ?_|omega)
      refine Yn (f91 { p:=p,kind:=0,cur:=0,iL:=false } jB (by dsimp only;omega)) ?_
      simp
      (with_reducible repeat' first|refine Xk ?_<;>try simp|refine Xs ?_ ?_<;>intro h<;>(try intro h')<;>(try simp[h])<;>try omega|refine Xg ?_|omega)
      refine Yt (f92 (k:=k) (s:=p.side) k0 (by omega) (by omega) (by omega)) ?_
      simp
      have ha:=hp.h1.at_ k k0 hi
      have q0:=gN (l:=p.cs) (n:=c) (v:=1+2*k+1) c0 hc
      have q1:=gN (l:=p.h1) (n:=k) (v:=gt p.h1 k-1) k0 hi
      simp[e,q0,q1]
      (with_reducible repeat' first|refine Xk ?_<;>try simp[q0,q1]|refine Xs ?_ ?_<;>intro h<;>(try intro h')<;>(try simp[h,q0,q1])<;>try omega|refine Xg ?_|omega)
      skip
      refine LJ.i (c+1,o ++ [jd p k c]) (by first|rfl|simp[gJ,lq,jd,Pos.hand,Pos.lN,kF,e]) (by first|rfl|simp[gJ,lq,jd,Pos.hand,Pos.lN,kF,e]) rfl rfl ?_
      have:=lI [jd p k c] (by rw[hD,if_neg (by simp[hn,hv])])
      exact⟨by dsimp only;omega,by dsimp only;omega,by dsimp only;omega,this,by simp,by dsimp only at c3 ⊢;simp;omega⟩
     ·simp[hn,hv]
      (with_reducible repeat' first|refine Xk ?_<;>try simp|refine Xs ?_ ?_<;>intro h<;>(try intro h')<;>(try simp[h])<;>try omega|refine Xg ?_|omega)
      refine LJ.i (c+1,o) (by first|rfl|simp[gJ]) (by first|rfl|simp[gJ]) rfl rfl ?_
      have:=lI [] (by rw[hD,if_pos (.inr hv)])
      rw[aw]at this
      exact eY ⟨this,c4,by dsimp only at c3 ⊢;omega⟩
   ·have lU:(upto (k+1).toNat).flatMap (me p)=o:=by
     rw[c2,sQ k0,bA,show c.toNat=p.cs.length by omega];simp[me]
    have gJ:o≠[]:=c4
    simp[hc]
    (with_reducible repeat' first|refine Xk ?_<;>try simp|refine Xs ?_ ?_<;>intro h<;>(try intro h')<;>(try simp[h])<;>try omega|refine Xg ?_|omega)
    refine LJ.i (k+1,o) (by first|rfl|simp[gJ]) (by first|rfl|simp[gJ]) rfl rfl ?_
    exact eY ⟨lU.symm,by dsimp only at c3 ⊢;omega⟩
 ·have lU:out=lR p:=by rw[k2,lR,show k.toNat=(p.hand p.side).length by simp[Pos.hand,e];omega]
  have Lz:∀ q∈out,Small q:=fun q hq=>by
   rw[lU,G7 hp]at hq
   exact(BA hp hq).small hg
  have Le:=J8 hg hp
  rw[← lU]at Le ⊢
  by_cases ho:out = []
  ·rw[if_pos ho,if_pos ho]
   simp[hi]
   refine fg.c rfl rfl (f48 [] (by simp) (by simp)) rfl (by simp) ?_
   simp[ho]
  ·rw[if_neg ho,if_neg ho]
   simp[hi]
   refine fg.c (x:=dN 5 Pos.cells (jy out)) rfl rfl (by rw[th ho];exact f48 out Lz (by omega)) (by simp) (by simp) ?_
   simp
def f49(g:eH)(hg:fe g)(p:Pos)(hp:fO g p):Wf T 49 [dG g,dP p] [] (Is (dN 5 Pos.cells (jy (lR p)))):=by
 have:=hp.side
 rcases(show p.side=0∨p.side=1 by omega)with e|e
 ·exact VP g hg p hp e
 ·exact VQ g hg p hp e
