/- Part 24 of DisputeLocal. -/
import Derived.Test.YtmehofoficaelaaGreatDoorL23
set_option linter.all false
namespace Go.Proofs.YtmehofoficaelaaGreatDoor
open Go Go.AL Classical
set_option maxRecDepth 10000
set_option maxHeartbeats 8000000
def tA{k:Int}(h:0≤k):upto (k+1).toNat=upto k.toNat ++ [k]:=by
 rw[show(k+1).toNat=k.toNat+1 by omega]
 simp only[upto,List.range_succ,List.map_append,List.map_cons,List.map_nil]
 rw[bN h]
@[simp] theorem aq9:upto 0 = []:=rfl
def kW(p:Pos)(k c:Int):List Pos:=if gt (p.hand p.side) k=0∨gt p.cs c≠0 then []else [jv p k c]
def l9(p:Pos)(k:Int):List Pos:=(upto p.cs.length).flatMap (kW p k)
def lW(p:Pos):List Pos:=(upto (p.hand p.side).length).flatMap (l9 p)
def GY{g:eY}{p q:Pos}(hp:gG g p):q∈lW p↔u9 g p q:=by
 have hl:=(hp.hand p.side).len
 unfold lW l9 kW u9
 simp only[bt,ku]
 constructor
 ·rintro⟨k,⟨k0,k1⟩,c,⟨c0,c1⟩,h⟩
  split at h
  ·cases h
  ·rename_i hn
   simp only[not_or,Decidable.not_not]at hn
   exact⟨k,c,k0,by omega,c0,c1,hn.1,hn.2,List.mem_singleton.1 h⟩
 ·rintro⟨k,c,k0,k1,c0,c1,h1,h2,rfl⟩
  refine⟨k,⟨k0,by omega⟩,c,⟨c0,c1⟩,?_⟩
  rw[if_neg (by simp[h1,h2])];simp
def JQ{g:eY}(hg:gh g){p:Pos}(hp:gG g p):(lW p).length≤18:=by
 have hz:=hp.size
 have hb:=hg.iY.size
 have hk:=hg.kinds
 have hl:=(hp.hand p.side).len
 have:(lW p).length≤(upto (p.hand p.side).length).length*9:=xm fun k _=>by
  have:(l9 p k).length≤(upto p.cs.length).length*1:=xm fun c _=>by unfold kW;split<;>simp
  simp[upto]at this ⊢;omega
 simp[upto]at this
 omega
def Wq(g:eY)(hg:gh g)(p:Pos)(hp:gG g p)(e:p.side=0):Wf T 149 [dG g,dP p] [] (Is (dN 5 Pos.cells (jL (lW p)))):=by
 have hz:=hp.size
 have hb:=hg.iY.size
 have hk:=hg.kinds
 have jR:=hp.small hg
 have l0:=hp.h0.len
 have l1:=hp.h1.len
 refine Yz u6 (iu 68 [1005] (iu 62 [2039] u6.body)) ?_
 simp[u6,iu,jJ,mj,mn,mG,ln,e]
 refine fh.e ((0,[]):Int×List Pos) (fun y=>[(3,.ptr 1 0 0),(5,if y.2 = []then .eU else .eX 2 (y.2.length-1) 5 0 y.2.length),(15,dI p.h0),(16,.i p.h0.length),(17,.i y.1)]) (fun y=>[.row 43 0 g.cells,.row 46 0 p.cells]++(if y.2 = []then []else [.row 46 (y.2.length-1) (cl Pos.cells y.2)])) (fun y=>0≤y.1∧y.1≤p.h0.length∧y.2=(upto y.1.toNat).flatMap (l9 p)∧y.2.length≤9*y.1.toNat) (fun y=>(p.h0.length-y.1).toNat) ?_ ?_
 ·simp
 rintro⟨k,out⟩ ⟨k0,k1,k2,k3⟩
 dsimp only at k0 k1 k2 k3 ⊢
 by_cases hi:k<p.h0.length
 ·by_cases ho:out = []
  ·subst ho
   rw[if_pos rfl,if_pos rfl]
   simp[hi]
   (with_reducible repeat' first|refine Xk ?_<;>try simp|refine Xs ?_ ?_<;>intro h<;>(try intro h')<;>(try simp[h])<;>try omega|refine Xg ?_|omega)
   refine fh.e ((0,[]):Int×List Pos) (fun y=>[(3,.ptr 1 0 0),(5,if y.2 = []then .eU else .eX 2 (y.2.length-1) 5 0 y.2.length),(6,.i k),(7,.i (gt p.h0 k)),(15,dI p.h0),(16,.i p.h0.length),(17,.i k),(23,dI p.cs),(24,.i p.cs.length),(25,.i y.1)]) (fun y=>[.row 43 0 g.cells,.row 46 0 p.cells]++(if y.2 = []then []else [.row 46 (y.2.length-1) (cl Pos.cells y.2)])) (fun y=>0≤y.1∧y.1≤p.cs.length∧y.2=(upto k.toNat).flatMap (l9 p)++(upto y.1.toNat).flatMap (kW p k)∧y.2.length≤9*k.toNat+y.1.toNat) (fun y=>(p.cs.length-y.1).toNat) ?_ ?_
   ·exact⟨by omega,by omega,by dsimp only;simp[← k2],by dsimp only;omega⟩
   rintro⟨c,o⟩ ⟨c0,c1,c2,c3⟩
   dsimp only at c0 c1 c2 c3 ⊢
   by_cases hc:c<p.cs.length
   ·have hd:(upto k.toNat).flatMap (l9 p)++(upto (c+1).toNat).flatMap (kW p k)=o++kW p k c:=by
     rw[tA c0,bx,← aZ,← c2];simp
    have mb:∀ o2,kW p k c=o2→o++o2=(upto k.toNat).flatMap (l9 p)++(upto (c+1).toNat).flatMap (kW p k):=fun o2 h=>by rw[hd,h]
    have hD:kW p k c=if gt p.h0 k=0∨gt p.cs c≠0 then []else [jv p k c]:=by simp[kW,Pos.hand,e]
    by_cases ib:o = []
    ·subst ib
     rw[if_pos rfl,if_pos rfl]
     simp[hc]
     by_cases hn:gt p.h0 k=0
     ·simp[hn]
      (with_reducible repeat' first|refine Xk ?_<;>try simp|refine Xs ?_ ?_<;>intro h<;>(try intro h')<;>(try simp[h])<;>try omega|refine Xg ?_|omega)
      refine LJ.i (c+1,[]) (by first|rfl|simp[hn]) (by first|rfl|simp[hn]) rfl rfl ?_
      have:=mb [] (by rw[hD,if_pos (.inl hn)])
      rw[aA]at this
      exact fQ ⟨this,by dsimp only at c3 ⊢;omega⟩
     ·by_cases hv:gt p.cs c=0
      ·simp[hn,hv]
       (with_reducible repeat' first|refine Xk ?_<;>try simp|refine Xs ?_ ?_<;>intro h<;>(try intro h')<;>(try simp[h])<;>try omega|refine Xg ?_|omega)
       refine Yn (f91 { p:=p,kind:=0,cur:=0,jb:=false } jR (by dsimp only;omega)) ?_
       simp
       (with_reducible repeat' first|refine Xk ?_<;>try simp|refine Xs ?_ ?_<;>intro h<;>(try intro h')<;>(try simp[h])<;>try omega|refine Xg ?_|omega)
       refine Yt (f92 (k:=k) (s:=p.side) k0 (by omega) (by omega) (by omega)) ?_
       simp
       have ha:=hp.h0.at_ k k0 hi
       have q0:=il (l:=p.cs) (n:=c) (v:=1+2*k) c0 hc
       have q1:=il (l:=p.h0) (n:=k) (v:=gt p.h0 k-1) k0 hi
       simp[e,q0,q1]
       (with_reducible repeat' first|refine Xk ?_<;>try simp[q0,q1]|refine Xs ?_ ?_<;>intro h<;>(try intro h')<;>(try simp[h,q0,q1])<;>try omega|refine Xg ?_|omega)
       refine LJ.i (c+1,[jv p k c]) (by first|rfl|simp[jg,jv,Pos.hand,Pos.lV,kO,e]) (by first|rfl|simp[jg,jv,Pos.hand,Pos.lV,kO,e]) rfl rfl ?_
       have:=mb [jv p k c] (by rw[hD,if_neg (by simp[hn,hv])])
       exact fQ ⟨this,by dsimp only at c3 ⊢;simp;omega⟩
      ·simp[hn,hv]
       (with_reducible repeat' first|refine Xk ?_<;>try simp|refine Xs ?_ ?_<;>intro h<;>(try intro h')<;>(try simp[h])<;>try omega|refine Xg ?_|omega)
       refine LJ.e (c+1,[]) ?_
       have:=mb [] (by rw[hD,if_pos (.inr hv)])
       rw[aA]at this
       exact fQ ⟨this,by dsimp only at c3 ⊢;omega⟩
    ·have mq:o.length-1+1=o.length:=by have:=ay.2 ib;omega
     rw[if_neg ib,if_neg ib]
     simp[hc]
     by_cases hn:gt p.h0 k=0
     ·simp[hn]
      (with_reducible repeat' first|refine Xk ?_<;>try simp|refine Xs ?_ ?_<;>intro h<;>(try intro h')<;>(try simp[h])<;>try omega|refine Xg ?_|omega)
      refine LJ.i (c+1,o) (by first|rfl|simp[hn,ib]) (by first|rfl|simp[hn,ib]) rfl rfl ?_
      have:=mb [] (by rw[hD,if_pos (.inl hn)])
      rw[aA]at this
      exact fQ ⟨this,by dsimp only at c3 ⊢;omega⟩
     ·by_cases hv:gt p.cs c=0
      ·simp[hn,hv]
       (with_reducible repeat' first|refine Xk ?_<;>try simp|refine Xs ?_ ?_<;>intro h<;>(try intro h')<;>(try simp[h])<;>try omega|refine Xg ?_|omega)
       refine Yn (f91 { p:=p,kind:=0,cur:=0,jb:=false } jR (by dsimp only;omega)) ?_
       simp
       (with_reducible repeat' first|refine Xk ?_<;>try simp|refine Xs ?_ ?_<;>intro h<;>(try intro h')<;>(try simp[h])<;>try omega|refine Xg ?_|omega)
       refine Yt (f92 (k:=k) (s:=p.side) k0 (by omega) (by omega) (by omega)) ?_
       simp
       have ha:=hp.h0.at_ k k0 hi
       have q0:=il (l:=p.cs) (n:=c) (v:=1+2*k) c0 hc
       have q1:=il (l:=p.h0) (n:=k) (v:=gt p.h0 k-1) k0 hi
       simp[e,q0,q1]
       (with_reducible repeat' first|refine Xk ?_<;>try simp[q0,q1]|refine Xs ?_ ?_<;>intro h<;>(try intro h')<;>(try simp[h,q0,q1])<;>try omega|refine Xg ?_|omega)
       skip
       refine LJ.i (c+1,o ++ [jv p k c]) (by first|rfl|simp[ib,mq,jv,Pos.hand,Pos.lV,kO,e]) (by first|rfl|simp[ib,mq,jv,Pos.hand,Pos.lV,kO,e]) rfl rfl ?_
       have:=mb [jv p k c] (by rw[hD,if_neg (by simp[hn,hv])])
       exact fQ ⟨this,by dsimp only at c3 ⊢;simp;omega⟩
      ·simp[hn,hv]
       (with_reducible repeat' first|refine Xk ?_<;>try simp|refine Xs ?_ ?_<;>intro h<;>(try intro h')<;>(try simp[h])<;>try omega|refine Xg ?_|omega)
       refine LJ.i (c+1,o) (by first|rfl|simp[ib]) (by first|rfl|simp[ib]) rfl rfl ?_
       have:=mb [] (by rw[hD,if_pos (.inr hv)])
       rw[aA]at this
       exact fQ ⟨this,by dsimp only at c3 ⊢;omega⟩
   ·have lD:(upto (k+1).toNat).flatMap (l9 p)=o:=by
     rw[c2,tA k0,bx,show c.toNat=p.cs.length by omega];simp[l9]
    by_cases ib:o = []
    ·rw[if_pos ib,if_pos ib]
     simp[hc]
     (with_reducible repeat' first|refine Xk ?_<;>try simp|refine Xs ?_ ?_<;>intro h<;>(try intro h')<;>(try simp[h])<;>try omega|refine Xg ?_|omega)
     refine LJ.i (k+1,o) (by first|rfl|simp[ib]) (by first|rfl|simp[ib]) rfl rfl ?_
     exact fQ ⟨lD.symm,by dsimp only at c3 ⊢;omega⟩
    ·rw[if_neg ib,if_neg ib]
     simp[hc]
     (with_reducible repeat' first|refine Xk ?_<;>try simp|refine Xs ?_ ?_<;>intro h<;>(try intro h')<;>(try simp[h])<;>try omega|refine Xg ?_|omega)
     refine LJ.i (k+1,o) (by first|rfl|simp[ib]) (by first|rfl|simp[ib]) rfl rfl ?_
     exact fQ ⟨lD.symm,by dsimp only at c3 ⊢;omega⟩
  ·rw[if_neg ho,if_neg ho]
   simp[hi]
   (with_reducible repeat' first|refine Xk ?_<;>try simp|refine Xs ?_ ?_<;>intro h<;>(try intro h')<;>(try simp[h])<;>try omega|refine Xg ?_|omega)
   refine fh.e ((0,out):Int×List Pos) (fun y=>[(3,.ptr 1 0 0),(5,.eX 2 (y.2.length-1) 5 0 y.2.length),(6,.i k),(7,.i (gt p.h0 k)),(15,dI p.h0),(16,.i p.h0.length),(17,.i k),(23,dI p.cs),(24,.i p.cs.length),(25,.i y.1)]) (fun y=>[.row 43 0 g.cells,.row 46 0 p.cells,.row 46 (y.2.length-1) (cl Pos.cells y.2)]) (fun y=>0≤y.1∧y.1≤p.cs.length∧y.2=(upto k.toNat).flatMap (l9 p)++(upto y.1.toNat).flatMap (kW p k)∧y.2≠[]∧y.2.length≤9*k.toNat+y.1.toNat) (fun y=>(p.cs.length-y.1).toNat) ?_ ?_
   ·exact⟨by omega,by omega,by dsimp only;rw[k2];simp,ho,by dsimp only;omega⟩
   rintro⟨c,o⟩ ⟨c0,c1,c2,c4,c3⟩
   dsimp only at c0 c1 c2 c3 ⊢
   by_cases hc:c<p.cs.length
   ·have hd:(upto k.toNat).flatMap (l9 p)++(upto (c+1).toNat).flatMap (kW p k)=o++kW p k c:=by
     rw[tA c0,bx,← aZ,← c2];simp
    have mb:∀ o2,kW p k c=o2→o++o2=(upto k.toNat).flatMap (l9 p)++(upto (c+1).toNat).flatMap (kW p k):=fun o2 h=>by rw[hd,h]
    have hD:kW p k c=if gt p.h0 k=0∨gt p.cs c≠0 then []else [jv p k c]:=by simp[kW,Pos.hand,e]
    have ib:o≠[]:=c4
    have mq:o.length-1+1=o.length:=by have:=ay.2 ib;omega
    simp[hc]
    by_cases hn:gt p.h0 k=0
    ·simp[hn]
     (with_reducible repeat' first|refine Xk ?_<;>try simp|refine Xs ?_ ?_<;>intro h<;>(try intro h')<;>(try simp[h])<;>try omega|refine Xg ?_|omega)
     refine LJ.i (c+1,o) (by first|rfl|simp[hn,ib]) (by first|rfl|simp[hn,ib]) rfl rfl ?_
     have:=mb [] (by rw[hD,if_pos (.inl hn)])
     rw[aA]at this
     exact fQ ⟨this,c4,by dsimp only at c3 ⊢;omega⟩
    ·by_cases hv:gt p.cs c=0
     ·simp[hn,hv]
      (with_reducible repeat' first|refine Xk ?_<;>try simp|refine Xs ?_ ?_<;>intro h<;>(try intro h')<;>(try simp[h])<;>try omega|refine Xg ?_|omega)
      refine Yn (f91 { p:=p,kind:=0,cur:=0,jb:=false } jR (by dsimp only;omega)) ?_
      simp
      (with_reducible repeat' first|refine Xk ?_<;>try simp|refine Xs ?_ ?_<;>intro h<;>(try intro h')<;>(try simp[h])<;>try omega|refine Xg ?_|omega)
      refine Yt (f92 (k:=k) (s:=p.side) k0 (by omega) (by omega) (by omega)) ?_
      simp
      have ha:=hp.h0.at_ k k0 hi
      have q0:=il (l:=p.cs) (n:=c) (v:=1+2*k) c0 hc
      have q1:=il (l:=p.h0) (n:=k) (v:=gt p.h0 k-1) k0 hi
      simp[e,q0,q1]
      (with_reducible repeat' first|refine Xk ?_<;>try simp[q0,q1]|refine Xs ?_ ?_<;>intro h<;>(try intro h')<;>(try simp[h,q0,q1])<;>try omega|refine Xg ?_|omega)
      skip
      refine LJ.i (c+1,o ++ [jv p k c]) (by first|rfl|simp[ib,mq,jv,Pos.hand,Pos.lV,kO,e]) (by first|rfl|simp[ib,mq,jv,Pos.hand,Pos.lV,kO,e]) rfl rfl ?_
      have:=mb [jv p k c] (by rw[hD,if_neg (by simp[hn,hv])])
      exact⟨by dsimp only;omega,by dsimp only;omega,by dsimp only;omega,this,by simp,by dsimp only at c3 ⊢;simp;omega⟩
     ·simp[hn,hv]
      (with_reducible repeat' first|refine Xk ?_<;>try simp|refine Xs ?_ ?_<;>intro h<;>(try intro h')<;>(try simp[h])<;>try omega|refine Xg ?_|omega)
      refine LJ.i (c+1,o) (by first|rfl|simp[ib]) (by first|rfl|simp[ib]) rfl rfl ?_
      have:=mb [] (by rw[hD,if_pos (.inr hv)])
      rw[aA]at this
      exact fQ ⟨this,c4,by dsimp only at c3 ⊢;omega⟩
   ·have lD:(upto (k+1).toNat).flatMap (l9 p)=o:=by
     rw[c2,tA k0,bx,show c.toNat=p.cs.length by omega];simp[l9]
    have ib:o≠[]:=c4
    simp[hc]
    (with_reducible repeat' first|refine Xk ?_<;>try simp|refine Xs ?_ ?_<;>intro h<;>(try intro h')<;>(try simp[h])<;>try omega|refine Xg ?_|omega)
    refine LJ.i (k+1,o) (by first|rfl|simp[ib]) (by first|rfl|simp[ib]) rfl rfl ?_
    exact fQ ⟨lD.symm,by dsimp only at c3 ⊢;omega⟩
 ·have lD:out=lW p:=by rw[k2,lW,show k.toNat=(p.hand p.side).length by simp[Pos.hand,e];omega]
  have Lp:∀ q∈out,Small q:=fun q hq=>by
   rw[lD,GY hp]at hq
   exact(Bs hp hq).small hg
  have K2:=JQ hg hp
  rw[← lD]at K2 ⊢
  by_cases ho:out = []
  ·rw[if_pos ho,if_pos ho]
   simp[hi]
   refine fG.c rfl rfl (f48 [] (by simp) (by simp)) rfl (by simp) ?_
   simp[ho]
  ·rw[if_neg ho,if_neg ho]
   simp[hi]
   refine fG.c (x:=dN 5 Pos.cells (jL out)) rfl rfl (by rw[sU ho];exact f48 out Lp (by omega)) (by simp) (by simp) ?_
   simp
def Wr(g:eY)(hg:gh g)(p:Pos)(hp:gG g p)(e:p.side=1):Wf T 149 [dG g,dP p] [] (Is (dN 5 Pos.cells (jL (lW p)))):=by
 have hz:=hp.size
 have hb:=hg.iY.size
 have hk:=hg.kinds
 have jR:=hp.small hg
 have l0:=hp.h0.len
 have l1:=hp.h1.len
 refine Yz u6 (iu 68 [1005] (iu 62 [2039] u6.body)) ?_
 simp[u6,iu,jJ,mj,mn,mG,ln,e]
 refine fh.e ((0,[]):Int×List Pos) (fun y=>[(3,.ptr 1 0 0),(5,if y.2 = []then .eU else .eX 2 (y.2.length-1) 5 0 y.2.length),(15,dI p.h1),(16,.i p.h1.length),(17,.i y.1)]) (fun y=>[.row 43 0 g.cells,.row 46 0 p.cells]++(if y.2 = []then []else [.row 46 (y.2.length-1) (cl Pos.cells y.2)])) (fun y=>0≤y.1∧y.1≤p.h1.length∧y.2=(upto y.1.toNat).flatMap (l9 p)∧y.2.length≤9*y.1.toNat) (fun y=>(p.h1.length-y.1).toNat) ?_ ?_
 ·simp
 rintro⟨k,out⟩ ⟨k0,k1,k2,k3⟩
 dsimp only at k0 k1 k2 k3 ⊢
 by_cases hi:k<p.h1.length
 ·by_cases ho:out = []
  ·subst ho
   rw[if_pos rfl,if_pos rfl]
   simp[hi]
   (with_reducible repeat' first|refine Xk ?_<;>try simp|refine Xs ?_ ?_<;>intro h<;>(try intro h')<;>(try simp[h])<;>try omega|refine Xg ?_|omega)
   refine fh.e ((0,[]):Int×List Pos) (fun y=>[(3,.ptr 1 0 0),(5,if y.2 = []then .eU else .eX 2 (y.2.length-1) 5 0 y.2.length),(6,.i k),(7,.i (gt p.h1 k)),(15,dI p.h1),(16,.i p.h1.length),(17,.i k),(23,dI p.cs),(24,.i p.cs.length),(25,.i y.1)]) (fun y=>[.row 43 0 g.cells,.row 46 0 p.cells]++(if y.2 = []then []else [.row 46 (y.2.length-1) (cl Pos.cells y.2)])) (fun y=>0≤y.1∧y.1≤p.cs.length∧y.2=(upto k.toNat).flatMap (l9 p)++(upto y.1.toNat).flatMap (kW p k)∧y.2.length≤9*k.toNat+y.1.toNat) (fun y=>(p.cs.length-y.1).toNat) ?_ ?_
   ·exact⟨by omega,by omega,by dsimp only;simp[← k2],by dsimp only;omega⟩
   rintro⟨c,o⟩ ⟨c0,c1,c2,c3⟩
   dsimp only at c0 c1 c2 c3 ⊢
   by_cases hc:c<p.cs.length
   ·have hd:(upto k.toNat).flatMap (l9 p)++(upto (c+1).toNat).flatMap (kW p k)=o++kW p k c:=by
     rw[tA c0,bx,← aZ,← c2];simp
    have mb:∀ o2,kW p k c=o2→o++o2=(upto k.toNat).flatMap (l9 p)++(upto (c+1).toNat).flatMap (kW p k):=fun o2 h=>by rw[hd,h]
    have hD:kW p k c=if gt p.h1 k=0∨gt p.cs c≠0 then []else [jv p k c]:=by simp[kW,Pos.hand,e]
    by_cases ib:o = []
    ·subst ib
     rw[if_pos rfl,if_pos rfl]
     simp[hc]
     by_cases hn:gt p.h1 k=0
     ·simp[hn]
      (with_reducible repeat' first|refine Xk ?_<;>try simp|refine Xs ?_ ?_<;>intro h<;>(try intro h')<;>(try simp[h])<;>try omega|refine Xg ?_|omega)
      refine LJ.i (c+1,[]) (by first|rfl|simp[hn]) (by first|rfl|simp[hn]) rfl rfl ?_
      have:=mb [] (by rw[hD,if_pos (.inl hn)])
      rw[aA]at this
      exact fQ ⟨this,by dsimp only at c3 ⊢;omega⟩
     ·by_cases hv:gt p.cs c=0
      ·simp[hn,hv]
       (with_reducible repeat' first|refine Xk ?_<;>try simp|refine Xs ?_ ?_<;>intro h<;>(try intro h')<;>(try simp[h])<;>try omega|refine Xg ?_|omega)
       refine Yn (f91 { p:=p,kind:=0,cur:=0,jb:=false } jR (by dsimp only;omega)) ?_
       simp
       (with_reducible repeat' first|refine Xk ?_<;>try simp|refine Xs ?_ ?_<;>intro h<;>(try intro h')<;>(try simp[h])<;>try omega|refine Xg ?_|omega)
       refine Yt (f92 (k:=k) (s:=p.side) k0 (by omega) (by omega) (by omega)) ?_
       simp
       have ha:=hp.h1.at_ k k0 hi
       have q0:=il (l:=p.cs) (n:=c) (v:=1+2*k+1) c0 hc
       have q1:=il (l:=p.h1) (n:=k) (v:=gt p.h1 k-1) k0 hi
       simp[e,q0,q1]
       (with_reducible repeat' first|refine Xk ?_<;>try simp[q0,q1]|refine Xs ?_ ?_<;>intro h<;>(try intro h')<;>(try simp[h,q0,q1])<;>try omega|refine Xg ?_|omega)
       refine LJ.i (c+1,[jv p k c]) (by first|rfl|simp[jg,jv,Pos.hand,Pos.lV,kO,e]) (by first|rfl|simp[jg,jv,Pos.hand,Pos.lV,kO,e]) rfl rfl ?_
       have:=mb [jv p k c] (by rw[hD,if_neg (by simp[hn,hv])])
       exact fQ ⟨this,by dsimp only at c3 ⊢;simp;omega⟩
      ·simp[hn,hv]
       (with_reducible repeat' first|refine Xk ?_<;>try simp|refine Xs ?_ ?_<;>intro h<;>(try intro h')<;>(try simp[h])<;>try omega|refine Xg ?_|omega)
       refine LJ.e (c+1,[]) ?_
       have:=mb [] (by rw[hD,if_pos (.inr hv)])
       rw[aA]at this
       exact fQ ⟨this,by dsimp only at c3 ⊢;omega⟩
    ·have mq:o.length-1+1=o.length:=by have:=ay.2 ib;omega
     rw[if_neg ib,if_neg ib]
     simp[hc]
     by_cases hn:gt p.h1 k=0
     ·simp[hn]
      (with_reducible repeat' first|refine Xk ?_<;>try simp|refine Xs ?_ ?_<;>intro h<;>(try intro h')<;>(try simp[h])<;>try omega|refine Xg ?_|omega)
      refine LJ.i (c+1,o) (by first|rfl|simp[hn,ib]) (by first|rfl|simp[hn,ib]) rfl rfl ?_
      have:=mb [] (by rw[hD,if_pos (.inl hn)])
      rw[aA]at this
      exact fQ ⟨this,by dsimp only at c3 ⊢;omega⟩
     ·by_cases hv:gt p.cs c=0
      ·simp[hn,hv]
       (with_reducible repeat' first|refine Xk ?_<;>try simp|refine Xs ?_ ?_<;>intro h<;>(try intro h')<;>(try simp[h])<;>try omega|refine Xg ?_|omega)
       refine Yn (f91 { p:=p,kind:=0,cur:=0,jb:=false } jR (by dsimp only;omega)) ?_
       simp
       (with_reducible repeat' first|refine Xk ?_<;>try simp|refine Xs ?_ ?_<;>intro h<;>(try intro h')<;>(try simp[h])<;>try omega|refine Xg ?_|omega)
       refine Yt (f92 (k:=k) (s:=p.side) k0 (by omega) (by omega) (by omega)) ?_
       simp
       have ha:=hp.h1.at_ k k0 hi
       have q0:=il (l:=p.cs) (n:=c) (v:=1+2*k+1) c0 hc
       have q1:=il (l:=p.h1) (n:=k) (v:=gt p.h1 k-1) k0 hi
       simp[e,q0,q1]
       (with_reducible repeat' first|refine Xk ?_<;>try simp[q0,q1]|refine Xs ?_ ?_<;>intro h<;>(try intro h')<;>(try simp[h,q0,q1])<;>try omega|refine Xg ?_|omega)
       skip
       refine LJ.i (c+1,o ++ [jv p k c]) (by first|rfl|simp[ib,mq,jv,Pos.hand,Pos.lV,kO,e]) (by first|rfl|simp[ib,mq,jv,Pos.hand,Pos.lV,kO,e]) rfl rfl ?_
       have:=mb [jv p k c] (by rw[hD,if_neg (by simp[hn,hv])])
       exact fQ ⟨this,by dsimp only at c3 ⊢;simp;omega⟩
      ·simp[hn,hv]
       (with_reducible repeat' first|refine Xk ?_<;>try simp|refine Xs ?_ ?_<;>intro h<;>(try intro h')<;>(try simp[h])<;>try omega|refine Xg ?_|omega)
       refine LJ.i (c+1,o) (by first|rfl|simp[ib]) (by first|rfl|simp[ib]) rfl rfl ?_
       have:=mb [] (by rw[hD,if_pos (.inr hv)])
       rw[aA]at this
       exact fQ ⟨this,by dsimp only at c3 ⊢;omega⟩
   ·have lD:(upto (k+1).toNat).flatMap (l9 p)=o:=by
     rw[c2,tA k0,bx,show c.toNat=p.cs.length by omega];simp[l9]
    by_cases ib:o = []
    ·rw[if_pos ib,if_pos ib]
     simp[hc]
     (with_reducible repeat' first|refine Xk ?_<;>try simp|refine Xs ?_ ?_<;>intro h<;>(try intro h')<;>(try simp[h])<;>try omega|refine Xg ?_|omega)
     refine LJ.i (k+1,o) (by first|rfl|simp[ib]) (by first|rfl|simp[ib]) rfl rfl ?_
     exact fQ ⟨lD.symm,by dsimp only at c3 ⊢;omega⟩
    ·rw[if_neg ib,if_neg ib]
     simp[hc]
     (with_reducible repeat' first|refine Xk ?_<;>try simp|refine Xs ?_ ?_<;>intro h<;>(try intro h')<;>(try simp[h])<;>try omega|refine Xg ?_|omega)
     refine LJ.i (k+1,o) (by first|rfl|simp[ib]) (by first|rfl|simp[ib]) rfl rfl ?_
     exact fQ ⟨lD.symm,by dsimp only at c3 ⊢;omega⟩
  ·rw[if_neg ho,if_neg ho]
   simp[hi]
   (with_reducible repeat' first|refine Xk ?_<;>try simp|refine Xs ?_ ?_<;>intro h<;>(try intro h')<;>(try simp[h])<;>try omega|refine Xg ?_|omega)
   refine fh.e ((0,out):Int×List Pos) (fun y=>[(3,.ptr 1 0 0),(5,.eX 2 (y.2.length-1) 5 0 y.2.length),(6,.i k),(7,.i (gt p.h1 k)),(15,dI p.h1),(16,.i p.h1.length),(17,.i k),(23,dI p.cs),(24,.i p.cs.length),(25,.i y.1)]) (fun y=>[.row 43 0 g.cells,.row 46 0 p.cells,.row 46 (y.2.length-1) (cl Pos.cells y.2)]) (fun y=>0≤y.1∧y.1≤p.cs.length∧y.2=(upto k.toNat).flatMap (l9 p)++(upto y.1.toNat).flatMap (kW p k)∧y.2≠[]∧y.2.length≤9*k.toNat+y.1.toNat) (fun y=>(p.cs.length-y.1).toNat) ?_ ?_
   ·exact⟨by omega,by omega,by dsimp only;rw[k2];simp,ho,by dsimp only;omega⟩
   rintro⟨c,o⟩ ⟨c0,c1,c2,c4,c3⟩
   dsimp only at c0 c1 c2 c3 ⊢
   by_cases hc:c<p.cs.length
   ·have hd:(upto k.toNat).flatMap (l9 p)++(upto (c+1).toNat).flatMap (kW p k)=o++kW p k c:=by
     rw[tA c0,bx,← aZ,← c2];simp
    have mb:∀ o2,kW p k c=o2→o++o2=(upto k.toNat).flatMap (l9 p)++(upto (c+1).toNat).flatMap (kW p k):=fun o2 h=>by rw[hd,h]
    have hD:kW p k c=if gt p.h1 k=0∨gt p.cs c≠0 then []else [jv p k c]:=by simp[kW,Pos.hand,e]
    have ib:o≠[]:=c4
    have mq:o.length-1+1=o.length:=by have:=ay.2 ib;omega
    simp[hc]
    by_cases hn:gt p.h1 k=0
    ·simp[hn]
     (with_reducible repeat' first|refine Xk ?_<;>try simp|refine Xs ?_ ?_<;>intro h<;>(try intro h')<;>(try simp[h])<;>try omega|refine Xg ?_|omega)
     refine LJ.i (c+1,o) (by first|rfl|simp[hn,ib]) (by first|rfl|simp[hn,ib]) rfl rfl ?_
     have:=mb [] (by rw[hD,if_pos (.inl hn)])
     rw[aA]at this
     exact fQ ⟨this,c4,by dsimp only at c3 ⊢;omega⟩
    ·by_cases hv:gt p.cs c=0
     ·simp[hn,hv]
      (with_reducible repeat' first|refine Xk ?_<;>try simp|refine Xs ?_ ?_<;>intro h<;>(try intro h')<;>(try simp[h])<;>try omega|refine Xg ?_|omega)
      refine Yn (f91 { p:=p,kind:=0,cur:=0,jb:=false } jR (by dsimp only;omega)) ?_
      simp
      (with_reducible repeat' first|refine Xk ?_<;>try simp|refine Xs ?_ ?_<;>intro h<;>(try intro h')<;>(try simp[h])<;>try omega|refine Xg ?_|omega)
      refine Yt (f92 (k:=k) (s:=p.side) k0 (by omega) (by omega) (by omega)) ?_
      simp
      have ha:=hp.h1.at_ k k0 hi
      have q0:=il (l:=p.cs) (n:=c) (v:=1+2*k+1) c0 hc
      have q1:=il (l:=p.h1) (n:=k) (v:=gt p.h1 k-1) k0 hi
      simp[e,q0,q1]
      (with_reducible repeat' first|refine Xk ?_<;>try simp[q0,q1]|refine Xs ?_ ?_<;>intro h<;>(try intro h')<;>(try simp[h,q0,q1])<;>try omega|refine Xg ?_|omega)
      skip
      refine LJ.i (c+1,o ++ [jv p k c]) (by first|rfl|simp[ib,mq,jv,Pos.hand,Pos.lV,kO,e]) (by first|rfl|simp[ib,mq,jv,Pos.hand,Pos.lV,kO,e]) rfl rfl ?_
      have:=mb [jv p k c] (by rw[hD,if_neg (by simp[hn,hv])])
      exact⟨by dsimp only;omega,by dsimp only;omega,by dsimp only;omega,this,by simp,by dsimp only at c3 ⊢;simp;omega⟩
     ·simp[hn,hv]
      (with_reducible repeat' first|refine Xk ?_<;>try simp|refine Xs ?_ ?_<;>intro h<;>(try intro h')<;>(try simp[h])<;>try omega|refine Xg ?_|omega)
      refine LJ.i (c+1,o) (by first|rfl|simp[ib]) (by first|rfl|simp[ib]) rfl rfl ?_
      have:=mb [] (by rw[hD,if_pos (.inr hv)])
      rw[aA]at this
      exact fQ ⟨this,c4,by dsimp only at c3 ⊢;omega⟩
   ·have lD:(upto (k+1).toNat).flatMap (l9 p)=o:=by
     rw[c2,tA k0,bx,show c.toNat=p.cs.length by omega];simp[l9]
    have ib:o≠[]:=c4
    simp[hc]
    (with_reducible repeat' first|refine Xk ?_<;>try simp|refine Xs ?_ ?_<;>intro h<;>(try intro h')<;>(try simp[h])<;>try omega|refine Xg ?_|omega)
    refine LJ.i (k+1,o) (by first|rfl|simp[ib]) (by first|rfl|simp[ib]) rfl rfl ?_
    exact fQ ⟨lD.symm,by dsimp only at c3 ⊢;omega⟩
 ·have lD:out=lW p:=by rw[k2,lW,show k.toNat=(p.hand p.side).length by simp[Pos.hand,e];omega]
  have Lp:∀ q∈out,Small q:=fun q hq=>by
   rw[lD,GY hp]at hq
   exact(Bs hp hq).small hg
  have K2:=JQ hg hp
  rw[← lD]at K2 ⊢
  by_cases ho:out = []
  ·rw[if_pos ho,if_pos ho]
   simp[hi]
   refine fG.c rfl rfl (f48 [] (by simp) (by simp)) rfl (by simp) ?_
   simp[ho]
  ·rw[if_neg ho,if_neg ho]
   simp[hi]
   refine fG.c (x:=dN 5 Pos.cells (jL out)) rfl rfl (by rw[sU ho];exact f48 out Lp (by omega)) (by simp) (by simp) ?_
   simp
def f49(g:eY)(hg:gh g)(p:Pos)(hp:gG g p):Wf T 149 [dG g,dP p] [] (Is (dN 5 Pos.cells (jL (lW p)))):=by
 have:=hp.side
 rcases(show p.side=0∨p.side=1 by omega)with e|e
 ·exact Wq g hg p hp e
 ·exact Wr g hg p hp e
