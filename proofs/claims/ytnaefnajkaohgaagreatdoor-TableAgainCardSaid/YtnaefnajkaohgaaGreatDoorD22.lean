/- Part 22 of the proof of skewer.skewerlaw15.TableAgain. -/
import Derived.Test.YtnaefnajkaohgaaGreatDoorD21
set_option linter.all false
namespace Go.Proofs.YtnaefnajkaohgaaGreatDoor
open Go Go.AL Classical
set_option maxRecDepth 10000
set_option maxHeartbeats 8000000
theorem qF{k:Int}(h:0≤k):upto (k+1).toNat=upto k.toNat ++ [k]:=by
 rw[show(k+1).toNat=k.toNat+1 by omega]
 simp only[upto,List.range_succ,List.map_append,List.map_cons,List.map_nil]
 rw[ct h]
@[simp] theorem amS:upto 0 = []:=rfl
def jE(p:Pos)(k c:Int):List Pos:=if gt (p.hand p.side) k=0∨gt p.cs c≠0 then []else [iz p k c]
def kL(p:Pos)(k:Int):List Pos:=(upto p.cs.length).flatMap (jE p k)
def ku(p:Pos):List Pos:=(upto (p.hand p.side).length).flatMap (kL p)
theorem D6{g:eO}{p q:Pos}(hp:fF g p):q∈ku p↔rI g p q:=by
 have hl:=(hp.hand p.side).len
 unfold ku kL jE rI
 simp only[aZ,pS]
 constructor
 ·rintro⟨k,⟨k0,k1⟩,c,⟨c0,c1⟩,h⟩
  split at h
  ·cases h
  ·rename_i hn
   simp only[not_or,dq]at hn
   exact⟨k,c,k0,by omega,c0,c1,hn.1,hn.2,List.mem_singleton.1 h⟩
 ·rintro⟨k,c,k0,k1,c0,c1,h1,h2,rfl⟩
  refine⟨k,⟨k0,by omega⟩,c,⟨c0,c1⟩,?_⟩
  rw[if_neg (by simp[h1,h2])];simp
theorem Hm{g:eO}(hg:fi g){p:Pos}(hp:fF g p):(ku p).length≤18:=by
 have hz:=hp.size
 have hb:=hg.gV.size
 have hk:=hg.kinds
 have hl:=(hp.hand p.side).len
 have:(ku p).length≤(upto (p.hand p.side).length).length*9:=u7 fun k _=>by
  have:(kL p k).length≤(upto p.cs.length).length*1:=u7 fun c _=>by unfold jE;split<;>simp
  simp[upto]at this ⊢;omega
 simp[upto]at this
 omega
theorem SF(g:eO)(hg:fi g)(p:Pos)(hp:fF g p)(e:p.side=0):Wf T 49 [dG g,dP p] [] (Is (dN 5 Pos.cells (iL (ku p)))):=by
 have hz:=hp.size
 have hb:=hg.gV.size
 have hk:=hg.kinds
 have jl:=hp.small hg
 have l0:=hp.h0.len
 have l1:=hp.h1.len
 refine Yz sY (gH 68 [1005] (gH 62 [2039] sY.body)) ?_
 simp[sY,gH,iJ,kU,kX,lr,jN,e]
 refine eW.e ((0,[]):Int×List Pos) (fun y=>[(3,.ptr 1 0 0),(5,if y.2 = []then .emp else .eN 2 (y.2.length-1) 5 0 y.2.length),(15,dI p.h0),(16,.i p.h0.length),(17,.i y.1)]) (fun y=>[.row 41 0 g.cells,.row 44 0 p.cells]++(if y.2 = []then []else [.row 44 (y.2.length-1) (cl Pos.cells y.2)])) (fun y=>0≤y.1∧y.1≤p.h0.length∧y.2=(upto y.1.toNat).flatMap (kL p)∧y.2.length≤9*y.1.toNat) (fun y=>(p.h0.length-y.1).toNat) ?_ ?_
 ·simp
 rintro⟨k,out⟩ ⟨k0,k1,k2,k3⟩
 dsimp only at k0 k1 k2 k3 ⊢
 by_cases hi:k<p.h0.length
 ·by_cases ho:out = []
  ·subst ho
   rw[if_pos rfl,if_pos rfl]
   simp[hi]
   (with_reducible repeat' first|refine Xk ?_<;>try simp|refine Xs ?_ ?_<;>intro h<;>(try intro h')<;>(try simp[h])<;>(try omega)|refine Xg ?_|omega)
   refine eW.e ((0,[]):Int×List Pos) (fun y=>[(3,.ptr 1 0 0),(5,if y.2 = []then .emp else .eN 2 (y.2.length-1) 5 0 y.2.length),(6,.i k),(7,.i (gt p.h0 k)),(15,dI p.h0),(16,.i p.h0.length),(17,.i k),(23,dI p.cs),(24,.i p.cs.length),(25,.i y.1)]) (fun y=>[.row 41 0 g.cells,.row 44 0 p.cells]++(if y.2 = []then []else [.row 44 (y.2.length-1) (cl Pos.cells y.2)])) (fun y=>0≤y.1∧y.1≤p.cs.length∧y.2=(upto k.toNat).flatMap (kL p)++(upto y.1.toNat).flatMap (jE p k)∧y.2.length≤9*k.toNat+y.1.toNat) (fun y=>(p.cs.length-y.1).toNat) ?_ ?_
   ·exact⟨by omega,by omega,by dsimp only;simp[← k2],by dsimp only;omega⟩
   rintro⟨c,o⟩ ⟨c0,c1,c2,c3⟩
   dsimp only at c0 c1 c2 c3 ⊢
   by_cases hc:c<p.cs.length
   ·have hd:(upto k.toNat).flatMap (kL p)++(upto (c+1).toNat).flatMap (jE p k)=o++jE p k c:=by
     rw[qF c0,bA,← bt,← c2];simp
    have kN:∀ o2,jE p k c=o2→o++o2=(upto k.toNat).flatMap (kL p)++(upto (c+1).toNat).flatMap (jE p k):=fun o2 h=>by rw[hd,h]
    have hD:jE p k c=if gt p.h0 k=0∨gt p.cs c≠0 then []else [iz p k c]:=by simp[jE,Pos.hand,e]
    by_cases gi:o = []
    ·subst gi
     rw[if_pos rfl,if_pos rfl]
     simp[hc]
     by_cases hn:gt p.h0 k=0
     ·simp[hn]
      (with_reducible repeat' first|refine Xk ?_<;>try simp|refine Xs ?_ ?_<;>intro h<;>(try intro h')<;>(try simp[h])<;>(try omega)|refine Xg ?_|omega)
      refine LJ.i (c+1,[]) (by first|rfl|simp[hn]) (by first|rfl|simp[hn]) rfl rfl ?_
      have:=kN [] (by rw[hD,if_pos (.inl hn)])
      rw[aw]at this
      exact⟨by dsimp only;omega,by dsimp only;omega,by dsimp only;omega,this,by dsimp only at c3 ⊢;omega⟩
     ·by_cases hv:gt p.cs c=0
      ·simp[hn,hv]
       (with_reducible repeat' first|refine Xk ?_<;>try simp|refine Xs ?_ ?_<;>intro h<;>(try intro h')<;>(try simp[h])<;>(try omega)|refine Xg ?_|omega)
       refine Yn (f91 { p:=p,kind:=0,cur:=0,ig:=false } jl (by dsimp only;omega)) ?_
       simp
       (with_reducible repeat' first|refine Xk ?_<;>try simp|refine Xs ?_ ?_<;>intro h<;>(try intro h')<;>(try simp[h])<;>(try omega)|refine Xg ?_|omega)
       refine Yt (f92 (k:=k) (s:=p.side) k0 (by omega) (by omega) (by omega)) ?_
       simp
       have ha:=hp.h0.at_ k k0 hi
       have q0:=gC (l:=p.cs) (n:=c) (v:=1+2*k) c0 hc
       have q1:=gC (l:=p.h0) (n:=k) (v:=gt p.h0 k-1) k0 hi
       simp[e,q0,q1]
       (with_reducible repeat' first|refine Xk ?_<;>try simp[q0,q1]|refine Xs ?_ ?_<;>intro h<;>(try intro h')<;>(try simp[h,q0,q1])<;>(try omega)|refine Xg ?_|omega)
       refine LJ.i (c+1,[iz p k c]) (by first|rfl|simp[gW,iz,Pos.hand,Pos.jv,iG,e]) (by first|rfl|simp[gW,iz,Pos.hand,Pos.jv,iG,e]) rfl rfl ?_
       have:=kN [iz p k c] (by rw[hD,if_neg (by simp[hn,hv])])
       exact⟨by dsimp only;omega,by dsimp only;omega,by dsimp only;omega,this,by dsimp only at c3 ⊢;simp;omega⟩
      ·simp[hn,hv]
       (with_reducible repeat' first|refine Xk ?_<;>try simp|refine Xs ?_ ?_<;>intro h<;>(try intro h')<;>(try simp[h])<;>(try omega)|refine Xg ?_|omega)
       refine LJ.e (c+1,[]) ?_
       have:=kN [] (by rw[hD,if_pos (.inr hv)])
       rw[aw]at this
       exact⟨by dsimp only;omega,by dsimp only;omega,by dsimp only;omega,this,by dsimp only at c3 ⊢;omega⟩
    ·have nc:o.length-1+1=o.length:=by have:=aA.2 gi;omega
     rw[if_neg gi,if_neg gi]
     simp[hc]
     by_cases hn:gt p.h0 k=0
     ·simp[hn]
      (with_reducible repeat' first|refine Xk ?_<;>try simp|refine Xs ?_ ?_<;>intro h<;>(try intro h')<;>(try simp[h])<;>(try omega)|refine Xg ?_|omega)
      refine LJ.i (c+1,o) (by first|rfl|simp[hn,gi]) (by first|rfl|simp[hn,gi]) rfl rfl ?_
      have:=kN [] (by rw[hD,if_pos (.inl hn)])
      rw[aw]at this
      exact⟨by dsimp only;omega,by dsimp only;omega,by dsimp only;omega,this,by dsimp only at c3 ⊢;omega⟩
     ·by_cases hv:gt p.cs c=0
      ·simp[hn,hv]
       (with_reducible repeat' first|refine Xk ?_<;>try simp|refine Xs ?_ ?_<;>intro h<;>(try intro h')<;>(try simp[h])<;>(try omega)|refine Xg ?_|omega)
       refine Yn (f91 { p:=p,kind:=0,cur:=0,ig:=false } jl (by dsimp only;omega)) ?_
       simp
       (with_reducible repeat' first|refine Xk ?_<;>try simp|refine Xs ?_ ?_<;>intro h<;>(try intro h')<;>(try simp[h])<;>(try omega)|refine Xg ?_|omega)
       refine Yt (f92 (k:=k) (s:=p.side) k0 (by omega) (by omega) (by omega)) ?_
       simp
       have ha:=hp.h0.at_ k k0 hi
       have q0:=gC (l:=p.cs) (n:=c) (v:=1+2*k) c0 hc
       have q1:=gC (l:=p.h0) (n:=k) (v:=gt p.h0 k-1) k0 hi
       simp[e,q0,q1]
       (with_reducible repeat' first|refine Xk ?_<;>try simp[q0,q1]|refine Xs ?_ ?_<;>intro h<;>(try intro h')<;>(try simp[h,q0,q1])<;>(try omega)|refine Xg ?_|omega)
       skip
       refine LJ.i (c+1,o ++ [iz p k c]) (by first|rfl|simp[gi,nc,iz,Pos.hand,Pos.jv,iG,e]) (by first|rfl|simp[gi,nc,iz,Pos.hand,Pos.jv,iG,e]) rfl rfl ?_
       have:=kN [iz p k c] (by rw[hD,if_neg (by simp[hn,hv])])
       exact⟨by dsimp only;omega,by dsimp only;omega,by dsimp only;omega,this,by dsimp only at c3 ⊢;simp;omega⟩
      ·simp[hn,hv]
       (with_reducible repeat' first|refine Xk ?_<;>try simp|refine Xs ?_ ?_<;>intro h<;>(try intro h')<;>(try simp[h])<;>(try omega)|refine Xg ?_|omega)
       refine LJ.i (c+1,o) (by first|rfl|simp[gi]) (by first|rfl|simp[gi]) rfl rfl ?_
       have:=kN [] (by rw[hD,if_pos (.inr hv)])
       rw[aw]at this
       exact⟨by dsimp only;omega,by dsimp only;omega,by dsimp only;omega,this,by dsimp only at c3 ⊢;omega⟩
   ·have kA:(upto (k+1).toNat).flatMap (kL p)=o:=by
     rw[c2,qF k0,bA,show c.toNat=p.cs.length by omega];simp[kL]
    by_cases gi:o = []
    ·rw[if_pos gi,if_pos gi]
     simp[hc]
     (with_reducible repeat' first|refine Xk ?_<;>try simp|refine Xs ?_ ?_<;>intro h<;>(try intro h')<;>(try simp[h])<;>(try omega)|refine Xg ?_|omega)
     refine LJ.i (k+1,o) (by first|rfl|simp[gi]) (by first|rfl|simp[gi]) rfl rfl ?_
     exact⟨by dsimp only;omega,by dsimp only;omega,by dsimp only;omega,kA.symm,by dsimp only at c3 ⊢;omega⟩
    ·rw[if_neg gi,if_neg gi]
     simp[hc]
     (with_reducible repeat' first|refine Xk ?_<;>try simp|refine Xs ?_ ?_<;>intro h<;>(try intro h')<;>(try simp[h])<;>(try omega)|refine Xg ?_|omega)
     refine LJ.i (k+1,o) (by first|rfl|simp[gi]) (by first|rfl|simp[gi]) rfl rfl ?_
     exact⟨by dsimp only;omega,by dsimp only;omega,by dsimp only;omega,kA.symm,by dsimp only at c3 ⊢;omega⟩
  ·rw[if_neg ho,if_neg ho]
   simp[hi]
   (with_reducible repeat' first|refine Xk ?_<;>try simp|refine Xs ?_ ?_<;>intro h<;>(try intro h')<;>(try simp[h])<;>(try omega)|refine Xg ?_|omega)
   refine eW.e ((0,out):Int×List Pos) (fun y=>[(3,.ptr 1 0 0),(5,.eN 2 (y.2.length-1) 5 0 y.2.length),(6,.i k),(7,.i (gt p.h0 k)),(15,dI p.h0),(16,.i p.h0.length),(17,.i k),(23,dI p.cs),(24,.i p.cs.length),(25,.i y.1)]) (fun y=>[.row 41 0 g.cells,.row 44 0 p.cells,.row 44 (y.2.length-1) (cl Pos.cells y.2)]) (fun y=>0≤y.1∧y.1≤p.cs.length∧y.2=(upto k.toNat).flatMap (kL p)++(upto y.1.toNat).flatMap (jE p k)∧y.2≠[]∧y.2.length≤9*k.toNat+y.1.toNat) (fun y=>(p.cs.length-y.1).toNat) ?_ ?_
   ·exact⟨by omega,by omega,by dsimp only;rw[k2];simp,ho,by dsimp only;omega⟩
   rintro⟨c,o⟩ ⟨c0,c1,c2,c4,c3⟩
   dsimp only at c0 c1 c2 c3 ⊢
   by_cases hc:c<p.cs.length
   ·have hd:(upto k.toNat).flatMap (kL p)++(upto (c+1).toNat).flatMap (jE p k)=o++jE p k c:=by
     rw[qF c0,bA,← bt,← c2];simp
    have kN:∀ o2,jE p k c=o2→o++o2=(upto k.toNat).flatMap (kL p)++(upto (c+1).toNat).flatMap (jE p k):=fun o2 h=>by rw[hd,h]
    have hD:jE p k c=if gt p.h0 k=0∨gt p.cs c≠0 then []else [iz p k c]:=by simp[jE,Pos.hand,e]
    have gi:o≠[]:=c4
    have nc:o.length-1+1=o.length:=by have:=aA.2 gi;omega
    simp[hc]
    by_cases hn:gt p.h0 k=0
    ·simp[hn]
     (with_reducible repeat' first|refine Xk ?_<;>try simp|refine Xs ?_ ?_<;>intro h<;>(try intro h')<;>(try simp[h])<;>(try omega)|refine Xg ?_|omega)
     refine LJ.i (c+1,o) (by first|rfl|simp[hn,gi]) (by first|rfl|simp[hn,gi]) rfl rfl ?_
     have:=kN [] (by rw[hD,if_pos (.inl hn)])
     rw[aw]at this
     exact⟨by dsimp only;omega,by dsimp only;omega,by dsimp only;omega,this,c4,by dsimp only at c3 ⊢;omega⟩
    ·by_cases hv:gt p.cs c=0
     ·simp[hn,hv]
      (with_reducible repeat' first|refine Xk ?_<;>try simp|refine Xs ?_ ?_<;>intro h<;>(try intro h')<;>(try simp[h])<;>(try omega)|refine Xg ?_|omega)
      refine Yn (f91 { p:=p,kind:=0,cur:=0,ig:=false } jl (by dsimp only;omega)) ?_
      simp
      (with_reducible repeat' first|refine Xk ?_<;>try simp|refine Xs ?_ ?_<;>intro h<;>(try intro h')<;>(try simp[h])<;>(try omega)|refine Xg ?_|omega)
      refine Yt (f92 (k:=k) (s:=p.side) k0 (by omega) (by omega) (by omega)) ?_
      simp
      have ha:=hp.h0.at_ k k0 hi
      have q0:=gC (l:=p.cs) (n:=c) (v:=1+2*k) c0 hc
      have q1:=gC (l:=p.h0) (n:=k) (v:=gt p.h0 k-1) k0 hi
      simp[e,q0,q1]
      (with_reducible repeat' first|refine Xk ?_<;>try simp[q0,q1]|refine Xs ?_ ?_<;>intro h<;>(try intro h')<;>(try simp[h,q0,q1])<;>(try omega)|refine Xg ?_|omega)
      skip
      refine LJ.i (c+1,o ++ [iz p k c]) (by first|rfl|simp[gi,nc,iz,Pos.hand,Pos.jv,iG,e]) (by first|rfl|simp[gi,nc,iz,Pos.hand,Pos.jv,iG,e]) rfl rfl ?_
      have:=kN [iz p k c] (by rw[hD,if_neg (by simp[hn,hv])])
      exact⟨by dsimp only;omega,by dsimp only;omega,by dsimp only;omega,this,by simp,by dsimp only at c3 ⊢;simp;omega⟩
     ·simp[hn,hv]
      (with_reducible repeat' first|refine Xk ?_<;>try simp|refine Xs ?_ ?_<;>intro h<;>(try intro h')<;>(try simp[h])<;>(try omega)|refine Xg ?_|omega)
      refine LJ.i (c+1,o) (by first|rfl|simp[gi]) (by first|rfl|simp[gi]) rfl rfl ?_
      have:=kN [] (by rw[hD,if_pos (.inr hv)])
      rw[aw]at this
      exact⟨by dsimp only;omega,by dsimp only;omega,by dsimp only;omega,this,c4,by dsimp only at c3 ⊢;omega⟩
   ·have kA:(upto (k+1).toNat).flatMap (kL p)=o:=by
     rw[c2,qF k0,bA,show c.toNat=p.cs.length by omega];simp[kL]
    have gi:o≠[]:=c4
    simp[hc]
    (with_reducible repeat' first|refine Xk ?_<;>try simp|refine Xs ?_ ?_<;>intro h<;>(try intro h')<;>(try simp[h])<;>(try omega)|refine Xg ?_|omega)
    refine LJ.i (k+1,o) (by first|rfl|simp[gi]) (by first|rfl|simp[gi]) rfl rfl ?_
    exact⟨by dsimp only;omega,by dsimp only;omega,by dsimp only;omega,kA.symm,by dsimp only at c3 ⊢;omega⟩
 ·have kA:out=ku p:=by rw[k2,ku,show k.toNat=(p.hand p.side).length by simp[Pos.hand,e];omega]
  have IY:∀ q∈out,Small q:=fun q hq=>by
   rw[kA,D6 hp]at hq
   exact(ze hp hq).small hg
  have Ix:=Hm hg hp
  rw[← kA]at Ix ⊢
  by_cases ho:out = []
  ·rw[if_pos ho,if_pos ho]
   simp[hi]
   refine fr.c rfl rfl (f48 [] (by simp) (by simp)) rfl (by simp) ?_
   simp[ho]
  ·rw[if_neg ho,if_neg ho]
   simp[hi]
   refine fr.c (x:=dN 5 Pos.cells (iL out)) rfl rfl (by rw[qU ho];exact f48 out IY (by omega)) (by simp) (by simp) ?_
   simp
theorem SG(g:eO)(hg:fi g)(p:Pos)(hp:fF g p)(e:p.side=1):Wf T 49 [dG g,dP p] [] (Is (dN 5 Pos.cells (iL (ku p)))):=by
 have hz:=hp.size
 have hb:=hg.gV.size
 have hk:=hg.kinds
 have jl:=hp.small hg
 have l0:=hp.h0.len
 have l1:=hp.h1.len
 refine Yz sY (gH 68 [1005] (gH 62 [2039] sY.body)) ?_
 simp[sY,gH,iJ,kU,kX,lr,jN,e]
 refine eW.e ((0,[]):Int×List Pos) (fun y=>[(3,.ptr 1 0 0),(5,if y.2 = []then .emp else .eN 2 (y.2.length-1) 5 0 y.2.length),(15,dI p.h1),(16,.i p.h1.length),(17,.i y.1)]) (fun y=>[.row 41 0 g.cells,.row 44 0 p.cells]++(if y.2 = []then []else [.row 44 (y.2.length-1) (cl Pos.cells y.2)])) (fun y=>0≤y.1∧y.1≤p.h1.length∧y.2=(upto y.1.toNat).flatMap (kL p)∧y.2.length≤9*y.1.toNat) (fun y=>(p.h1.length-y.1).toNat) ?_ ?_
 ·simp
 rintro⟨k,out⟩ ⟨k0,k1,k2,k3⟩
 dsimp only at k0 k1 k2 k3 ⊢
 by_cases hi:k<p.h1.length
 ·by_cases ho:out = []
  ·subst ho
   rw[if_pos rfl,if_pos rfl]
   simp[hi]
   (with_reducible repeat' first|refine Xk ?_<;>try simp|refine Xs ?_ ?_<;>intro h<;>(try intro h')<;>(try simp[h])<;>(try omega)|refine Xg ?_|omega)
   refine eW.e ((0,[]):Int×List Pos) (fun y=>[(3,.ptr 1 0 0),(5,if y.2 = []then .emp else .eN 2 (y.2.length-1) 5 0 y.2.length),(6,.i k),(7,.i (gt p.h1 k)),(15,dI p.h1),(16,.i p.h1.length),(17,.i k),(23,dI p.cs),(24,.i p.cs.length),(25,.i y.1)]) (fun y=>[.row 41 0 g.cells,.row 44 0 p.cells]++(if y.2 = []then []else [.row 44 (y.2.length-1) (cl Pos.cells y.2)])) (fun y=>0≤y.1∧y.1≤p.cs.length∧y.2=(upto k.toNat).flatMap (kL p)++(upto y.1.toNat).flatMap (jE p k)∧y.2.length≤9*k.toNat+y.1.toNat) (fun y=>(p.cs.length-y.1).toNat) ?_ ?_
   ·exact⟨by omega,by omega,by dsimp only;simp[← k2],by dsimp only;omega⟩
   rintro⟨c,o⟩ ⟨c0,c1,c2,c3⟩
   dsimp only at c0 c1 c2 c3 ⊢
   by_cases hc:c<p.cs.length
   ·have hd:(upto k.toNat).flatMap (kL p)++(upto (c+1).toNat).flatMap (jE p k)=o++jE p k c:=by
     rw[qF c0,bA,← bt,← c2];simp
    have kN:∀ o2,jE p k c=o2→o++o2=(upto k.toNat).flatMap (kL p)++(upto (c+1).toNat).flatMap (jE p k):=fun o2 h=>by rw[hd,h]
    have hD:jE p k c=if gt p.h1 k=0∨gt p.cs c≠0 then []else [iz p k c]:=by simp[jE,Pos.hand,e]
    by_cases gi:o = []
    ·subst gi
     rw[if_pos rfl,if_pos rfl]
     simp[hc]
     by_cases hn:gt p.h1 k=0
     ·simp[hn]
      (with_reducible repeat' first|refine Xk ?_<;>try simp|refine Xs ?_ ?_<;>intro h<;>(try intro h')<;>(try simp[h])<;>(try omega)|refine Xg ?_|omega)
      refine LJ.i (c+1,[]) (by first|rfl|simp[hn]) (by first|rfl|simp[hn]) rfl rfl ?_
      have:=kN [] (by rw[hD,if_pos (.inl hn)])
      rw[aw]at this
      exact⟨by dsimp only;omega,by dsimp only;omega,by dsimp only;omega,this,by dsimp only at c3 ⊢;omega⟩
     ·by_cases hv:gt p.cs c=0
      ·simp[hn,hv]
       (with_reducible repeat' first|refine Xk ?_<;>try simp|refine Xs ?_ ?_<;>intro h<;>(try intro h')<;>(try simp[h])<;>(try omega)|refine Xg ?_|omega)
       refine Yn (f91 { p:=p,kind:=0,cur:=0,ig:=false } jl (by dsimp only;omega)) ?_
       simp
       (with_reducible repeat' first|refine Xk ?_<;>try simp|refine Xs ?_ ?_<;>intro h<;>(try intro h')<;>(try simp[h])<;>(try omega)|refine Xg ?_|omega)
       refine Yt (f92 (k:=k) (s:=p.side) k0 (by omega) (by omega) (by omega)) ?_
       simp
       have ha:=hp.h1.at_ k k0 hi
       have q0:=gC (l:=p.cs) (n:=c) (v:=1+2*k+1) c0 hc
       have q1:=gC (l:=p.h1) (n:=k) (v:=gt p.h1 k-1) k0 hi
       simp[e,q0,q1]
       (with_reducible repeat' first|refine Xk ?_<;>try simp[q0,q1]|refine Xs ?_ ?_<;>intro h<;>(try intro h')<;>(try simp[h,q0,q1])<;>(try omega)|refine Xg ?_|omega)
       refine LJ.i (c+1,[iz p k c]) (by first|rfl|simp[gW,iz,Pos.hand,Pos.jv,iG,e]) (by first|rfl|simp[gW,iz,Pos.hand,Pos.jv,iG,e]) rfl rfl ?_
       have:=kN [iz p k c] (by rw[hD,if_neg (by simp[hn,hv])])
       exact⟨by dsimp only;omega,by dsimp only;omega,by dsimp only;omega,this,by dsimp only at c3 ⊢;simp;omega⟩
      ·simp[hn,hv]
       (with_reducible repeat' first|refine Xk ?_<;>try simp|refine Xs ?_ ?_<;>intro h<;>(try intro h')<;>(try simp[h])<;>(try omega)|refine Xg ?_|omega)
       refine LJ.e (c+1,[]) ?_
       have:=kN [] (by rw[hD,if_pos (.inr hv)])
       rw[aw]at this
       exact⟨by dsimp only;omega,by dsimp only;omega,by dsimp only;omega,this,by dsimp only at c3 ⊢;omega⟩
    ·have nc:o.length-1+1=o.length:=by have:=aA.2 gi;omega
     rw[if_neg gi,if_neg gi]
     simp[hc]
     by_cases hn:gt p.h1 k=0
     ·simp[hn]
      (with_reducible repeat' first|refine Xk ?_<;>try simp|refine Xs ?_ ?_<;>intro h<;>(try intro h')<;>(try simp[h])<;>(try omega)|refine Xg ?_|omega)
      refine LJ.i (c+1,o) (by first|rfl|simp[hn,gi]) (by first|rfl|simp[hn,gi]) rfl rfl ?_
      have:=kN [] (by rw[hD,if_pos (.inl hn)])
      rw[aw]at this
      exact⟨by dsimp only;omega,by dsimp only;omega,by dsimp only;omega,this,by dsimp only at c3 ⊢;omega⟩
     ·by_cases hv:gt p.cs c=0
      ·simp[hn,hv]
       (with_reducible repeat' first|refine Xk ?_<;>try simp|refine Xs ?_ ?_<;>intro h<;>(try intro h')<;>(try simp[h])<;>(try omega)|refine Xg ?_|omega)
       refine Yn (f91 { p:=p,kind:=0,cur:=0,ig:=false } jl (by dsimp only;omega)) ?_
       simp
       (with_reducible repeat' first|refine Xk ?_<;>try simp|refine Xs ?_ ?_<;>intro h<;>(try intro h')<;>(try simp[h])<;>(try omega)|refine Xg ?_|omega)
       refine Yt (f92 (k:=k) (s:=p.side) k0 (by omega) (by omega) (by omega)) ?_
       simp
       have ha:=hp.h1.at_ k k0 hi
       have q0:=gC (l:=p.cs) (n:=c) (v:=1+2*k+1) c0 hc
       have q1:=gC (l:=p.h1) (n:=k) (v:=gt p.h1 k-1) k0 hi
       simp[e,q0,q1]
       (with_reducible repeat' first|refine Xk ?_<;>try simp[q0,q1]|refine Xs ?_ ?_<;>intro h<;>(try intro h')<;>(try simp[h,q0,q1])<;>(try omega)|refine Xg ?_|omega)
       skip
       refine LJ.i (c+1,o ++ [iz p k c]) (by first|rfl|simp[gi,nc,iz,Pos.hand,Pos.jv,iG,e]) (by first|rfl|simp[gi,nc,iz,Pos.hand,Pos.jv,iG,e]) rfl rfl ?_
       have:=kN [iz p k c] (by rw[hD,if_neg (by simp[hn,hv])])
       exact⟨by dsimp only;omega,by dsimp only;omega,by dsimp only;omega,this,by dsimp only at c3 ⊢;simp;omega⟩
      ·simp[hn,hv]
       (with_reducible repeat' first|refine Xk ?_<;>try simp|refine Xs ?_ ?_<;>intro h<;>(try intro h')<;>(try simp[h])<;>(try omega)|refine Xg ?_|omega)
       refine LJ.i (c+1,o) (by first|rfl|simp[gi]) (by first|rfl|simp[gi]) rfl rfl ?_
       have:=kN [] (by rw[hD,if_pos (.inr hv)])
       rw[aw]at this
       exact⟨by dsimp only;omega,by dsimp only;omega,by dsimp only;omega,this,by dsimp only at c3 ⊢;omega⟩
   ·have kA:(upto (k+1).toNat).flatMap (kL p)=o:=by
     rw[c2,qF k0,bA,show c.toNat=p.cs.length by omega];simp[kL]
    by_cases gi:o = []
    ·rw[if_pos gi,if_pos gi]
     simp[hc]
     (with_reducible repeat' first|refine Xk ?_<;>try simp|refine Xs ?_ ?_<;>intro h<;>(try intro h')<;>(try simp[h])<;>(try omega)|refine Xg ?_|omega)
     refine LJ.i (k+1,o) (by first|rfl|simp[gi]) (by first|rfl|simp[gi]) rfl rfl ?_
     exact⟨by dsimp only;omega,by dsimp only;omega,by dsimp only;omega,kA.symm,by dsimp only at c3 ⊢;omega⟩
    ·rw[if_neg gi,if_neg gi]
     simp[hc]
     (with_reducible repeat' first|refine Xk ?_<;>try simp|refine Xs ?_ ?_<;>intro h<;>(try intro h')<;>(try simp[h])<;>(try omega)|refine Xg ?_|omega)
     refine LJ.i (k+1,o) (by first|rfl|simp[gi]) (by first|rfl|simp[gi]) rfl rfl ?_
     exact⟨by dsimp only;omega,by dsimp only;omega,by dsimp only;omega,kA.symm,by dsimp only at c3 ⊢;omega⟩
  ·rw[if_neg ho,if_neg ho]
   simp[hi]
   (with_reducible repeat' first|refine Xk ?_<;>try simp|refine Xs ?_ ?_<;>intro h<;>(try intro h')<;>(try simp[h])<;>(try omega)|refine Xg ?_|omega)
   refine eW.e ((0,out):Int×List Pos) (fun y=>[(3,.ptr 1 0 0),(5,.eN 2 (y.2.length-1) 5 0 y.2.length),(6,.i k),(7,.i (gt p.h1 k)),(15,dI p.h1),(16,.i p.h1.length),(17,.i k),(23,dI p.cs),(24,.i p.cs.length),(25,.i y.1)]) (fun y=>[.row 41 0 g.cells,.row 44 0 p.cells,.row 44 (y.2.length-1) (cl Pos.cells y.2)]) (fun y=>0≤y.1∧y.1≤p.cs.length∧y.2=(upto k.toNat).flatMap (kL p)++(upto y.1.toNat).flatMap (jE p k)∧y.2≠[]∧y.2.length≤9*k.toNat+y.1.toNat) (fun y=>(p.cs.length-y.1).toNat) ?_ ?_
   ·exact⟨by omega,by omega,by dsimp only;rw[k2];simp,ho,by dsimp only;omega⟩
   rintro⟨c,o⟩ ⟨c0,c1,c2,c4,c3⟩
   dsimp only at c0 c1 c2 c3 ⊢
   by_cases hc:c<p.cs.length
   ·have hd:(upto k.toNat).flatMap (kL p)++(upto (c+1).toNat).flatMap (jE p k)=o++jE p k c:=by
     rw[qF c0,bA,← bt,← c2];simp
    have kN:∀ o2,jE p k c=o2→o++o2=(upto k.toNat).flatMap (kL p)++(upto (c+1).toNat).flatMap (jE p k):=fun o2 h=>by rw[hd,h]
    have hD:jE p k c=if gt p.h1 k=0∨gt p.cs c≠0 then []else [iz p k c]:=by simp[jE,Pos.hand,e]
    have gi:o≠[]:=c4
    have nc:o.length-1+1=o.length:=by have:=aA.2 gi;omega
    simp[hc]
    by_cases hn:gt p.h1 k=0
    ·simp[hn]
     (with_reducible repeat' first|refine Xk ?_<;>try simp|refine Xs ?_ ?_<;>intro h<;>(try intro h')<;>(try simp[h])<;>(try omega)|refine Xg ?_|omega)
     refine LJ.i (c+1,o) (by first|rfl|simp[hn,gi]) (by first|rfl|simp[hn,gi]) rfl rfl ?_
     have:=kN [] (by rw[hD,if_pos (.inl hn)])
     rw[aw]at this
     exact⟨by dsimp only;omega,by dsimp only;omega,by dsimp only;omega,this,c4,by dsimp only at c3 ⊢;omega⟩
    ·by_cases hv:gt p.cs c=0
     ·simp[hn,hv]
      (with_reducible repeat' first|refine Xk ?_<;>try simp|refine Xs ?_ ?_<;>intro h<;>(try intro h')<;>(try simp[h])<;>(try omega)|refine Xg ?_|omega)
      refine Yn (f91 { p:=p,kind:=0,cur:=0,ig:=false } jl (by dsimp only;omega)) ?_
      simp
      (with_reducible repeat' first|refine Xk ?_<;>try simp|refine Xs ?_ ?_<;>intro h<;>(try intro h')<;>(try simp[h])<;>(try omega)|refine Xg ?_|omega)
      refine Yt (f92 (k:=k) (s:=p.side) k0 (by omega) (by omega) (by omega)) ?_
      simp
      have ha:=hp.h1.at_ k k0 hi
      have q0:=gC (l:=p.cs) (n:=c) (v:=1+2*k+1) c0 hc
      have q1:=gC (l:=p.h1) (n:=k) (v:=gt p.h1 k-1) k0 hi
      simp[e,q0,q1]
      (with_reducible repeat' first|refine Xk ?_<;>try simp[q0,q1]|refine Xs ?_ ?_<;>intro h<;>(try intro h')<;>(try simp[h,q0,q1])<;>(try omega)|refine Xg ?_|omega)
      skip
      refine LJ.i (c+1,o ++ [iz p k c]) (by first|rfl|simp[gi,nc,iz,Pos.hand,Pos.jv,iG,e]) (by first|rfl|simp[gi,nc,iz,Pos.hand,Pos.jv,iG,e]) rfl rfl ?_
      have:=kN [iz p k c] (by rw[hD,if_neg (by simp[hn,hv])])
      exact⟨by dsimp only;omega,by dsimp only;omega,by dsimp only;omega,this,by simp,by dsimp only at c3 ⊢;simp;omega⟩
     ·simp[hn,hv]
      (with_reducible repeat' first|refine Xk ?_<;>try simp|refine Xs ?_ ?_<;>intro h<;>(try intro h')<;>(try simp[h])<;>(try omega)|refine Xg ?_|omega)
      refine LJ.i (c+1,o) (by first|rfl|simp[gi]) (by first|rfl|simp[gi]) rfl rfl ?_
      have:=kN [] (by rw[hD,if_pos (.inr hv)])
      rw[aw]at this
      exact⟨by dsimp only;omega,by dsimp only;omega,by dsimp only;omega,this,c4,by dsimp only at c3 ⊢;omega⟩
   ·have kA:(upto (k+1).toNat).flatMap (kL p)=o:=by
     rw[c2,qF k0,bA,show c.toNat=p.cs.length by omega];simp[kL]
    have gi:o≠[]:=c4
    simp[hc]
    (with_reducible repeat' first|refine Xk ?_<;>try simp|refine Xs ?_ ?_<;>intro h<;>(try intro h')<;>(try simp[h])<;>(try omega)|refine Xg ?_|omega)
    refine LJ.i (k+1,o) (by first|rfl|simp[gi]) (by first|rfl|simp[gi]) rfl rfl ?_
    exact⟨by dsimp only;omega,by dsimp only;omega,by dsimp only;omega,kA.symm,by dsimp only at c3 ⊢;omega⟩
 ·have kA:out=ku p:=by rw[k2,ku,show k.toNat=(p.hand p.side).length by simp[Pos.hand,e];omega]
  have IY:∀ q∈out,Small q:=fun q hq=>by
   rw[kA,D6 hp]at hq
   exact(ze hp hq).small hg
  have Ix:=Hm hg hp
  rw[← kA]at Ix ⊢
  by_cases ho:out = []
  ·rw[if_pos ho,if_pos ho]
   simp[hi]
   refine fr.c rfl rfl (f48 [] (by simp) (by simp)) rfl (by simp) ?_
   simp[ho]
  ·rw[if_neg ho,if_neg ho]
   simp[hi]
   refine fr.c (x:=dN 5 Pos.cells (iL out)) rfl rfl (by rw[qU ho];exact f48 out IY (by omega)) (by simp) (by simp) ?_
   simp
theorem f49(g:eO)(hg:fi g)(p:Pos)(hp:fF g p):Wf T 49 [dG g,dP p] [] (Is (dN 5 Pos.cells (iL (ku p)))):=by
 have:=hp.side
 rcases(show p.side=0∨p.side=1 by omega)with e|e
 ·exact SF g hg p hp e
 ·exact SG g hg p hp e
