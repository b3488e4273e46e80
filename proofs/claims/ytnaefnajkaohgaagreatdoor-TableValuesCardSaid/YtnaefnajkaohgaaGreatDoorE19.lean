/- Part 19 of the proof of skewer.skewerlaw15.TableValues. -/
import Derived.Test.YtnaefnajkaohgaaGreatDoorE18
import Derived.Test.YtnaefnajkaohgaaGreatDoorE17
import Derived.Test.YtnaefnajkaohgaaGreatDoorE12
set_option linter.all false
namespace Go.Proofs.YtnaefnajkaohgaaGreatDoor
open Go Go.AL Classical
set_option maxRecDepth 10000
set_option maxHeartbeats 8000000
attribute [local simp] mz
@[simp] theorem ais(l:List e9):closed (dN 8 e9.cells l)=true:=SB l
def seen(l:List e9):Ob:=.map .str (l.map fun s=>(.string (mh s),.b true))
theorem yj{g:eU}(hg:fr g){p:Pos}(hp:fR g p):(lS p).length<1000:=by
 have h1:=hp.size;have h2:=hp.h0.len;have h3:=hp.h1.len;have h4:=hg.ib.size;have h5:=hg.kinds
 rw[wv,uc]
 simp
 omega
theorem xk(x:e9):∀ (l a:List e9),jX a (l ++ [x])=if x∈jX a l then jX a l else jX a l ++ [x]
 | [],a=>rfl
 | y::l,a=>by rw[bK,jX,xk x l,jX]
@[simp] theorem ang(ρ:Nat→Option Nat)(H:U)(n:Nat):((fun x:Value×D=>(x.1,eZ ρ H n x.2)) ∘ fun s:e9=>((.string (mh s):Value),D.b true))=fun s:e9=>((.string (mh s):Value),D.b true):=by
 funext s;simp
@[simp] theorem aoh(n:Nat)(f:List Nat→List Nat):(f ∘ (fun x:Value×D=>gG n x.2) ∘ fun s:e9=>((.string (mh s):Value),D.b true))=fun _:e9=>f []:=by
 funext s;rfl
@[simp] theorem ajf(l:List e9):(l.map fun _=>([]:List Nat)).flatten = []:=by
 induction l<;>simp_all
theorem PX(g:eU)(x:eY)(l:List e9)(s:e9):mi g x (l ++ [s])=jX (mi g x l) (gF g s x):=by
 simp[mi]
def oX(g:eU):List eY→List e9→List e9
 | [],now=>now
 | x::r,now=>oX g r (mi g x now)
def pR(g:eU)(p:Pos)(c n:Int):List fD:=(oX g (gt (gt g.kinds (fo (gt p.cs c))).gD n) [jl p c]).filterMap (lO p.side)
theorem f121(g:eU)(hg:fr g)(p:Pos)(hp:fR g p)(c n:Int)(hc:0≤c∧c<p.cs.length)(hs:iA (gt p.cs c)=p.side)(hn:0≤n∧n<(gt g.kinds (fo (gt p.cs c))).gD.length) :
  Wf T 121 [dG g,dP p,.i c,.i n,.fn (.func 122) [] [.ptr 1 0 0,.ptr 2 0 0]] [.row 41 0 g.cells,.row 44 0 p.cells,.row 164 0 [.emp]] (fun d H'=>d = .i 0∧H'=if pR g p c n = []then [.row 41 0 g.cells,.row 44 0 p.cells,.row 164 0 [.emp]]else [.row 41 0 g.cells,.row 44 0 p.cells,.row 164 0 [.eT 3 ((pR g p c n).length-1) 6 0 (pR g p c n).length],.row 113 ((pR g p c n).length-1) (cl fD.cells (pR g p c n))]):=by
 have hz:=hp.size
 have hb:=hg.ib.size
 have hk:=hg.kinds
 have gH:=hp.side
 have ic:=hp.cs _ (ff hc.1 hc.2)
 have AE:0≤fo (gt p.cs c):=by
  unfold iA at hs;unfold fo
  split at hs<;>rename_i h5
  ·rw[if_pos h5];omega
  ·omega
 have hm:fo (gt p.cs c)<g.kinds.length:=r7 ic.2 hk.1
 refine Yz y4 (gY 127 [1017] (gY 79 [9] (gY 77 [5,6,7] y4.body))) ?_
 simp[y4,gY,jc,lW,lX,me,ky]
 refine Yc (f97 g hg p hp) ?_
 simp
 (with_reducible repeat' first|refine Xk ?_<;>try simp|refine Xs ?_ ?_<;>intro h<;>(try intro h')<;>(try simp[h])<;>(try omega)|refine Xg ?_|omega)
 refine Yc (f84 (gt p.cs c)) ?_
 simp
 simp[hs]
 (with_reducible repeat' first|refine Xk ?_<;>try simp|refine Xs ?_ ?_<;>intro h<;>(try intro h')<;>(try simp[h])<;>(try omega)|refine Xg ?_|omega)
 have jy:=hp.small hg
 have l0:=hp.h0.len
 have l1:=hp.h1.len
 have q0:=gI (l:=p.cs) (n:=c) (v:=0) hc.1 hc.2
 refine Yn (f91 { p:=p,kind:=fo (gt p.cs c),cur:=c,iu:=false } jy (by dsimp only;omega)) ?_
 simp
 (with_reducible repeat' first|refine Xk ?_<;>try simp[q0]|refine Xs ?_ ?_<;>intro h<;>(try intro h')<;>(try simp[h,q0])<;>(try omega)|refine Xg ?_|omega)
 have lF:sw g (gt (gt g.kinds (fo (gt p.cs c))).gD n):=(hg.gD _ (ff AE hm)).2 _ (ff hn.1 hn.2)
 have fg:iD g (jl p c):=⟨hp.uU hc.1 (by omega) (by omega),⟨AE,hm⟩,⟨hc.1,by show c<g.size;omega⟩⟩
 have hO:pR g p c n=(oX g (gt (gt g.kinds (fo (gt p.cs c))).gD n) [jl p c]).filterMap (lO p.side):=rfl
 generalize pR g p c n=OO at *
 generalize gt (gt g.kinds (fo (gt p.cs c))).gD n=prog at *
 have kU:=lF.len
 have hq:dN 8 e9.cells [jl p c]=iT [⟨⟨pt p.cs c 0,p.h0,p.h1,p.fq,p.side⟩,fo (gt p.cs c),c,false⟩]:=rfl
 refine fe.s (by simp[q0];rfl) ?_
 refine fe.k ((0,[jl p c]):Int×List e9) (fun y=>[(4,.fn (.func 122) [] [.ptr 1 0 0,.ptr 2 0 0]),(5,.ptr 3 0 0),(14,mz y.2),(87,gQ prog),(88,.i prog.length),(89,.i y.1)]) (fun y=>[.row 41 0 g.cells,.row 44 0 p.cells,.row 164 0 [.emp],.row 41 0 g.cells,.row 44 0 p.cells,.dead,.dead,.dead,.row 171 0 (jl p c).cells,.dead]) (fun y=>0≤y.1∧y.1≤prog.length∧(∀ s∈y.2,iD g s)∧y.2.length≤10 ^ y.1.toNat∧oX g prog [jl p c]=oX g (prog.drop y.1.toNat) y.2) (fun y=>(prog.length-y.1).toNat) ?_ (by simp[hq]) (by simp[q0,jl]) rfl rfl rfl ?_
 ·simp
  exact fg
 rintro⟨k,now⟩ ⟨k0,k1,k2,k3,k4⟩
 dsimp only at k0 k1 k2 k3 k4 ⊢
 have h10:(10:Nat) ^ k.toNat≤10 ^ 8:=cy (by decide) (by omega)
 by_cases hk:k<prog.length
 ·have hx:=lF.steps _ (ff k0 hk)
  simp[hk]
  (with_reducible repeat' first|refine Xk ?_<;>try simp|refine Xs ?_ ?_<;>intro h<;>(try intro h')<;>(try simp[h])<;>(try omega)|refine Xg ?_|omega)
  refine fe.e ((0,[]):Int×List e9) (fun y=>[(4,.fn (.func 122) [] [.ptr 1 0 0,.ptr 2 0 0]),(5,.ptr 3 0 0),(16,.ptr 10 0 0),(17,if y.2 = []then .emp else .eT 12 (y.2.length-1) 8 0 y.2.length),(18,.omap 11),(87,gQ prog),(88,.i prog.length),(89,.i k),(94,mz now),(95,.i now.length),(96,.i y.1)]) (fun y=>[.row 41 0 g.cells,.row 44 0 p.cells,.row 164 0 [.emp],.row 41 0 g.cells,.row 44 0 p.cells,.dead,.dead,.dead,.row 171 0 (jl p c).cells,.dead,.row 82 0 [.i (gt prog k).1,.i (gt prog k).2],.map .str (y.2.map fun s=>(.string (mh s),.b true))]++(if y.2 = []then []else [.row 171 (y.2.length-1) (cl e9.cells y.2)])) (fun y=>0≤y.1∧y.1≤now.length∧y.2=mi g (gt prog k) (now.take y.1.toNat)) (fun y=>(now.length-y.1).toNat) ?_ ?_
  ·simp[mi]
  rintro⟨i,acc⟩ ⟨i0,i1,i2⟩
  dsimp only at i0 i1 i2 ⊢
  by_cases hi:i<now.length
  ·have kH:=k2 _ (ff i0 hi)
   by_cases ha:acc = []
   ·rw[if_pos ha,if_pos ha]
    subst ha
    simp[hi]
    (with_reducible repeat' first|refine Xk ?_<;>try simp|refine Xs ?_ ?_<;>intro h<;>(try intro h')<;>(try simp[h])<;>(try omega)|refine Xg ?_|omega)
    refine fw.inl oU rfl rfl (by simp[oU]) rfl ?_
    simp[oU]
    have gv:(gt prog k).1≠0:=by have:=hx.ok;omega
    simp[gv]
    refine Yc (f164 g hg (gt now i) kH (gt prog k) hx) ?_
    simp
    refine fe.s (by simp;rfl) ?_
    have uA:∀ t∈gF g (gt now i) (gt prog k),iD g t:=fun t ht=>uV hg kH hx ht
    have V6:(gF g (gt now i) (gt prog k)).length≤10:=yP
    generalize IS:gF g (gt now i) (gt prog k)=ss at *
    refine fe.e ((0,[]):Int×List e9) (fun y=>[(4,.fn (.func 122) [] [.ptr 1 0 0,.ptr 2 0 0]),(5,.ptr 3 0 0),(16,.ptr 10 0 0),(17,if y.2 = []then .emp else .eT 13 (y.2.length-1) 8 0 y.2.length),(18,.omap 11),(87,gQ prog),(88,.i prog.length),(89,.i k),(94,mz now),(95,.i now.length),(96,.i i),(107,dN 8 e9.cells ss),(108,.i ss.length),(109,.i y.1)]) (fun y=>[.row 41 0 g.cells,.row 44 0 p.cells,.row 164 0 [.emp],.row 41 0 g.cells,.row 44 0 p.cells,.dead,.dead,.dead,.row 171 0 (jl p c).cells,.dead,.row 82 0 [.i (gt prog k).1,.i (gt prog k).2],.map .str (y.2.map fun s=>(.string (mh s),.b true)),.row 171 0 (gt now i).cells]++(if y.2 = []then []else [.row 171 (y.2.length-1) (cl e9.cells y.2)])) (fun y=>0≤y.1∧y.1≤ss.length∧y.2=jX [] (ss.take y.1.toNat)) (fun y=>(ss.length-y.1).toNat) ?_ ?_
    ·simp[jX]
    rintro⟨j,A⟩ ⟨j0,j1,j2⟩
    dsimp only at j0 j1 j2 ⊢
    have hA:∀ t∈A,iD g t:=fun t ht=>uA t (by
     rw[j2,zr]at ht
     exact aM (ht.resolve_left (by simp)))
    by_cases hj:j<ss.length
    ·have ht:=uA _ (ff j0 hj)
     have ja:=JX hg ht.p
     by_cases lP:A = []
     ·rw[if_pos lP,if_pos lP]
      subst lP
      simp[hj]
      (with_reducible repeat' first|refine Xk ?_<;>try simp|refine Xs ?_ ?_<;>intro h<;>(try intro h')<;>(try simp[h])<;>(try omega)|refine Xg ?_|omega)
      refine Yc (f165 (gt ss j) (by have:=ht.kind;omega) (by have:=ht.cur;omega) (by have:=ht.p.size;omega) (yj hg ht.p)) ?_
      simp
      (with_reducible repeat' first|refine Xk ?_<;>try simp|refine Xs ?_ ?_<;>intro h<;>(try intro h')<;>(try simp[h])<;>(try omega)|refine Xg ?_|omega)
      refine LJ.i (j+1,[gt ss j]) (by first|rfl|simp[gL]) (by first|rfl|simp[gL]) rfl rfl ?_
      refine⟨by dsimp only;omega,by dsimp only;omega,by dsimp only;omega,?_⟩
      dsimp only
      rw[gE j0 hj,xk,← j2];simp
     ·rw[if_neg lP,if_neg lP]
      simp[hj]
      (with_reducible repeat' first|refine Xk ?_<;>try simp|refine Xs ?_ ?_<;>intro h<;>(try intro h')<;>(try simp[h])<;>(try omega)|refine Xg ?_|omega)
      refine Yc (f165 (gt ss j) (by have:=ht.kind;omega) (by have:=ht.cur;omega) (by have:=ht.p.size;omega) (yj hg ht.p)) ?_
      simp
      simp[Kc hg ht hA]
      by_cases fF:gt ss j∈A
      ·simp[fF]
       (with_reducible repeat' first|refine Xk ?_<;>try simp|refine Xs ?_ ?_<;>intro h<;>(try intro h')<;>(try simp[h])<;>(try omega)|refine Xg ?_|omega)
       refine LJ.i (j+1,A) (by first|rfl|simp[lP]) (by first|rfl|simp[lP]) rfl rfl ?_
       refine⟨by dsimp only;omega,by dsimp only;omega,by dsimp only;omega,?_⟩
       dsimp only
       rw[gE j0 hj,xk,← j2,if_pos fF]
      ·have hlA:0<A.length:=az.2 lP
       have Vv:A.length≤ss.length:=by
        have h1:=zp (a:=[]) (b:=ss.take j.toNat)
        rw[← j2,aS]at h1
        simp at h1
        omega
       simp[fF,Kf hg ht hA fF]
       (with_reducible repeat' first|refine Xk ?_<;>try simp|refine Xs ?_ ?_<;>intro h<;>(try intro h')<;>(try simp[h])<;>(try omega)|refine Xg ?_|omega)
       refine LJ.i (j+1,A ++ [gt ss j]) (by first|rfl|simp[show A.length-1+1=A.length by omega]) (by first|rfl|simp[show A.length-1+1=A.length by omega]) rfl rfl ?_
       refine⟨by dsimp only;omega,by dsimp only;omega,by dsimp only;omega,?_⟩
       dsimp only
       rw[gE j0 hj,xk,← j2,if_neg fF]
    ·rw[js (by omega)]at j2
     have kA:mi g (gt prog k) (now.take (i+1).toNat)=A:=by
      rw[gE i0 hi,PX,← i2,IS,j2]
     by_cases lP:A = []
     ·rw[if_pos lP,if_pos lP]
      simp[hj,lP]
      (with_reducible repeat' first|refine Xk ?_<;>try simp|refine Xs ?_ ?_<;>intro h<;>(try intro h')<;>(try simp[h])<;>(try omega)|refine Xg ?_|omega)
      refine LJ.e (i+1,[]) ?_
      exact⟨by dsimp only;omega,by dsimp only;omega,by dsimp only;omega,by rw[kA,lP]⟩
     ·rw[if_neg lP,if_neg lP]
      simp[hj]
      (with_reducible repeat' first|refine Xk ?_<;>try simp|refine Xs ?_ ?_<;>intro h<;>(try intro h')<;>(try simp[h])<;>(try omega)|refine Xg ?_|omega)
      refine LJ.i (i+1,A) (by first|rfl|simp[lP]) (by first|rfl|simp[lP]) rfl rfl ?_
      exact⟨by dsimp only;omega,by dsimp only;omega,by dsimp only;omega,kA.symm⟩
   ·rw[if_neg ha,if_neg ha]
    have UI:∀ t∈acc,iD g t:=fun t ht=>by
     rw[i2,Gw,bh]at ht
     obtain⟨s',h1,h2⟩:=ht
     exact uV hg (k2 _ (aM h1)) hx h2
    have ur:acc.length≤10*now.length:=by
     rw[i2]
     refine Nat.le_trans Bl ?_
     rw[aS];omega
    have vZ:0<acc.length:=az.2 ha
    simp[hi]
    (with_reducible repeat' first|refine Xk ?_<;>try simp|refine Xs ?_ ?_<;>intro h<;>(try intro h')<;>(try simp[h])<;>(try omega)|refine Xg ?_|omega)
    refine fw.inl oU rfl rfl (by simp[oU]) rfl ?_
    simp[oU]
    have gv:(gt prog k).1≠0:=by have:=hx.ok;omega
    simp[gv]
    refine Yc (f164 g hg (gt now i) kH (gt prog k) hx) ?_
    simp
    refine fe.s (by simp;rfl) ?_
    have uA:∀ t∈gF g (gt now i) (gt prog k),iD g t:=fun t ht=>uV hg kH hx ht
    have V6:(gF g (gt now i) (gt prog k)).length≤10:=yP
    generalize IS:gF g (gt now i) (gt prog k)=ss at *
    refine fe.e ((0,acc):Int×List e9) (fun y=>[(4,.fn (.func 122) [] [.ptr 1 0 0,.ptr 2 0 0]),(5,.ptr 3 0 0),(16,.ptr 10 0 0),(17,.eT 12 (y.2.length-1) 8 0 y.2.length),(18,.omap 11),(87,gQ prog),(88,.i prog.length),(89,.i k),(94,mz now),(95,.i now.length),(96,.i i),(107,dN 8 e9.cells ss),(108,.i ss.length),(109,.i y.1)]) (fun y=>[.row 41 0 g.cells,.row 44 0 p.cells,.row 164 0 [.emp],.row 41 0 g.cells,.row 44 0 p.cells,.dead,.dead,.dead,.row 171 0 (jl p c).cells,.dead,.row 82 0 [.i (gt prog k).1,.i (gt prog k).2],.map .str (y.2.map fun s=>(.string (mh s),.b true)),.row 171 (y.2.length-1) (cl e9.cells y.2),.row 171 0 (gt now i).cells]) (fun y=>0≤y.1∧y.1≤ss.length∧y.2=jX acc (ss.take y.1.toNat)∧0<y.2.length) (fun y=>(ss.length-y.1).toNat) ?_ ?_
    ·simp[jX]
     exact vZ
    rintro⟨j,A⟩ ⟨j0,j1,j2,j3⟩
    dsimp only at j0 j1 j2 j3 ⊢
    have hA:∀ t∈A,iD g t:=fun t ht=>by
     rw[j2,zr]at ht
     rcases ht with ht|ht
     ·exact UI t ht
     ·exact uA t (aM ht)
    have Vv:A.length≤acc.length+ss.length:=by
     have h1:=zp (a:=acc) (b:=ss.take j.toNat)
     rw[← j2,aS]at h1
     omega
    by_cases hj:j<ss.length
    ·have ht:=uA _ (ff j0 hj)
     simp[hj]
     (with_reducible repeat' first|refine Xk ?_<;>try simp|refine Xs ?_ ?_<;>intro h<;>(try intro h')<;>(try simp[h])<;>(try omega)|refine Xg ?_|omega)
     refine Yc (f165 (gt ss j) (by have:=ht.kind;omega) (by have:=ht.cur;omega) (by have:=ht.p.size;omega) (yj hg ht.p)) ?_
     simp
     simp[Kc hg ht hA]
     by_cases fF:gt ss j∈A
     ·simp[fF]
      (with_reducible repeat' first|refine Xk ?_<;>try simp|refine Xs ?_ ?_<;>intro h<;>(try intro h')<;>(try simp[h])<;>(try omega)|refine Xg ?_|omega)
      refine LJ.e (j+1,A) ?_
      refine⟨by dsimp only;omega,by dsimp only;omega,by dsimp only;omega,?_,j3⟩
      dsimp only
      rw[gE j0 hj,xk,← j2,if_pos fF]
     ·simp[fF,Kf hg ht hA fF]
      (with_reducible repeat' first|refine Xk ?_<;>try simp|refine Xs ?_ ?_<;>intro h<;>(try intro h')<;>(try simp[h])<;>(try omega)|refine Xg ?_|omega)
      refine LJ.i (j+1,A ++ [gt ss j]) (by first|rfl|simp[show A.length-1+1=A.length by omega]) (by first|rfl|simp[show A.length-1+1=A.length by omega]) rfl rfl ?_
      refine⟨by dsimp only;omega,by dsimp only;omega,by dsimp only;omega,?_,by simp⟩
      dsimp only
      rw[gE j0 hj,xk,← j2,if_neg fF]
    ·rw[js (by omega)]at j2
     have kA:mi g (gt prog k) (now.take (i+1).toNat)=A:=by
      rw[gE i0 hi,PX,← i2,IS,j2]
     have lP:A≠[]:=az.1 j3
     simp[hj]
     (with_reducible repeat' first|refine Xk ?_<;>try simp|refine Xs ?_ ?_<;>intro h<;>(try intro h')<;>(try simp[h])<;>(try omega)|refine Xg ?_|omega)
     refine LJ.i (i+1,A) (by first|rfl|simp[lP]) (by first|rfl|simp[lP]) rfl rfl ?_
     exact⟨by dsimp only;omega,by dsimp only;omega,by dsimp only;omega,kA.symm⟩
  ·rw[js (by omega)]at i2
   have eX:∀ t∈acc,iD g t:=fun t ht=>by
    rw[i2,Gw,bh]at ht
    obtain⟨s',h1,h2⟩:=ht
    exact uV hg (k2 _ h1) hx h2
   have ur:acc.length≤10*now.length:=by
    rw[i2];exact Bl
   have Ag:acc.length≤10 ^ (k+1).toNat:=by
    rw[show(k+1).toNat=k.toNat+1 by omega,dS];omega
   have mJ:oX g prog [jl p c]=oX g (prog.drop (k+1).toNat) acc:=by
    rw[k4,lB k0 hk,oX,← i2,show(k+1).toNat=k.toNat+1 by omega]
   by_cases ha:acc = []
   ·rw[if_pos ha,if_pos ha]
    simp[hi,ha]
    (with_reducible repeat' first|refine Xk ?_<;>try simp|refine Xs ?_ ?_<;>intro h<;>(try intro h')<;>(try simp[h])<;>(try omega)|refine Xg ?_|omega)
    refine LJ.i (k+1,[]) (by first|rfl|simp[dN]) (by first|rfl|simp[dN]) rfl rfl ?_
    rw[ha]at eX Ag mJ
    exact⟨by dsimp only;omega,by dsimp only;omega,by dsimp only;omega,eX,Ag,mJ⟩
   ·rw[if_neg ha,if_neg ha]
    have x7:iT acc=dN 8 e9.cells acc:=Ig ha
    simp[hi]
    (with_reducible repeat' first|refine Xk ?_<;>try simp|refine Xs ?_ ?_<;>intro h<;>(try intro h')<;>(try simp[h])<;>(try omega)|refine Xg ?_|omega)
    refine LJ.i (k+1,acc) (by first|rfl|simp[x7]) (by first|rfl|simp[x7]) rfl rfl ?_
    exact⟨by dsimp only;omega,by dsimp only;omega,by dsimp only;omega,eX,Ag,mJ⟩
 ·rw[aZ (by omega)]at k4
  rw[k4,oX]at hO
  have h8:now.length≤10 ^ 8:=by omega
  simp[hk]
  (with_reducible repeat' first|refine Xk ?_<;>try simp|refine Xs ?_ ?_<;>intro h<;>(try intro h')<;>(try simp[h])<;>(try omega)|refine Xg ?_|omega)
  refine fe.e ((0,[]):Int×List fD) (fun y=>[(4,.fn (.func 122) [] [.ptr 1 0 0,.ptr 2 0 0]),(129,mz now),(130,.i now.length),(131,.i y.1)]) (fun y=>sQ g p (jl p c) (if y.2 = []then .emp else .eT 10 (y.2.length-1) 6 0 y.2.length)++(if y.2 = []then []else [.row 113 (y.2.length-1) (cl fD.cells y.2)])) (fun y=>0≤y.1∧y.1≤now.length∧y.2=(now.take y.1.toNat).filterMap (lO p.side)) (fun y=>(now.length-y.1).toNat) ?_ ?_
  ·simp
  rintro⟨i,outs⟩ ⟨i0,i1,i2⟩
  dsimp only at i0 i1 i2 ⊢
  by_cases hi:i<now.length
  ·have ht:=k2 _ (ff i0 hi)
   have mG:outs.length≤now.length:=by
    rw[i2]
    refine Nat.le_trans (dm ..) ?_
    rw[aS];omega
   have i3:(now.take (i+1).toNat).filterMap (lO p.side)=outs++(lO p.side (gt now i)).toList:=by
    rw[gE i0 hi,List.filterMap_append,← i2]
    cases hf:lO p.side (gt now i)<;>simp[hf]
   by_cases ho:outs = []
   ·rw[if_pos ho,if_pos ho]
    subst ho
    simp[hi]
    (with_reducible repeat' first|refine Xk ?_<;>try simp|refine Xs ?_ ?_<;>intro h<;>(try intro h')<;>(try simp[h])<;>(try omega)|refine Xg ?_|omega)
    refine fw.nC rfl rfl (Tu g hg p hp (jl p c) (gt now i) ht) ?_
    rintro d H' hH
    cases hf:lO p.side (gt now i)with
    | none=>
     rw[hf]at hH i3;dsimp only at hH;subst hH
     simp
     (with_reducible repeat' first|refine Xk ?_<;>try simp|refine Xs ?_ ?_<;>intro h<;>(try intro h')<;>(try simp[h])<;>(try omega)|refine Xg ?_|omega)
     refine LJ.e (i+1,[]) ?_
     exact⟨by dsimp only;omega,by dsimp only;omega,by dsimp only;omega,by rw[i3];rfl⟩
    | some o=>
     rw[hf]at hH i3;dsimp only at hH;subst hH
     simp
     (with_reducible repeat' first|refine Xk ?_<;>try simp|refine Xs ?_ ?_<;>intro h<;>(try intro h')<;>(try simp[h])<;>(try omega)|refine Xg ?_|omega)
     refine LJ.e (i+1,[o]) ?_
     exact⟨by dsimp only;omega,by dsimp only;omega,by dsimp only;omega,by rw[i3];rfl⟩
   ·rw[if_neg ho,if_neg ho]
    simp[hi]
    (with_reducible repeat' first|refine Xk ?_<;>try simp|refine Xs ?_ ?_<;>intro h<;>(try intro h')<;>(try simp[h])<;>(try omega)|refine Xg ?_|omega)
    refine fw.nC rfl rfl (Tv g hg p hp (jl p c) (gt now i) ht outs (by omega) (az.2 ho)) ?_
    rintro d H' hH
    cases hf:lO p.side (gt now i)with
    | none=>
     rw[hf]at hH i3;dsimp only at hH;subst hH
     simp
     (with_reducible repeat' first|refine Xk ?_<;>try simp|refine Xs ?_ ?_<;>intro h<;>(try intro h')<;>(try simp[h])<;>(try omega)|refine Xg ?_|omega)
     refine LJ.i (i+1,outs) (by first|rfl|simp[ho]) (by first|rfl|simp[ho]) rfl rfl ?_
     exact⟨by dsimp only;omega,by dsimp only;omega,by dsimp only;omega,by rw[i3];simp⟩
    | some o=>
     rw[hf]at hH i3;dsimp only at hH;subst hH
     simp
     (with_reducible repeat' first|refine Xk ?_<;>try simp|refine Xs ?_ ?_<;>intro h<;>(try intro h')<;>(try simp[h])<;>(try omega)|refine Xg ?_|omega)
     refine LJ.e (i+1,outs ++ [o]) ?_
     exact⟨by dsimp only;omega,by dsimp only;omega,by dsimp only;omega,by rw[i3];rfl⟩
  ·rw[js (by omega)]at i2
   rw[← i2]at hO
   subst hO
   by_cases ho:OO = []
   ·rw[if_pos ho,if_pos ho]
    simp[hi,ho]
   ·rw[if_neg ho,if_neg ho]
    simp[hi,ho]
