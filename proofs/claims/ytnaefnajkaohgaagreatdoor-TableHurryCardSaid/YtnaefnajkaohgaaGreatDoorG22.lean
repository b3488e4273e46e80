/- Part 22 of TableHurry. -/
import Derived.Test.YtnaefnajkaohgaaGreatDoorG20
import Derived.Test.YtnaefnajkaohgaaGreatDoorG21
import Derived.Test.YtnaefnajkaohgaaGreatDoorG19
import Derived.Test.YtnaefnajkaohgaaGreatDoorG13
set_option linter.all false
namespace Go.Proofs.YtnaefnajkaohgaaGreatDoor
open Go Go.AL Classical
set_option maxRecDepth 10000
set_option maxHeartbeats 8000000
attribute [local simp] lx
@[simp] theorem aer(l:List eE):closed (dN 8 eE.cells l)=true:=Pc l
def seen(l:List eE):Ob:=.map .str (l.map fun s=>(.string (kZ s),.b true))
theorem wm{g:ey}(hg:eW g){p:Pos}(hp:fo g p):(kM p).length<1000:=by
 have h1:=hp.size;have h2:=hp.h0.len;have h3:=hp.h1.len;have h4:=hg.gH.size;have h5:=hg.kinds
 rw[uD,sC]
 simp
 omega
theorem vp(x:eE):∀ (l a:List eE),jr a (l ++ [x])=if x∈jr a l then jr a l else jr a l ++ [x]
 | [],a=>rfl
 | y::l,a=>by rw[cu,jr,vp x l,jr]
@[simp] theorem aje(ρ:Nat→Option Nat)(H:et)(n:Nat):((fun x:Value×D=>(x.1,eC ρ H n x.2)) ∘ fun s:eE=>((.string (kZ s):Value),D.b true))=fun s:eE=>((.string (kZ s):Value),D.b true):=by
 funext s;simp
@[simp] theorem akf(n:Nat)(f:List Nat→List Nat):(f ∘ (fun x:Value×D=>gD n x.2) ∘ fun s:eE=>((.string (kZ s):Value),D.b true))=fun _:eE=>f []:=by
 funext s;rfl
@[simp] theorem ae9(l:List eE):(l.map fun _=>([]:List Nat)).flatten = []:=by
 induction l<;>simp_all
theorem MV(g:ey)(x:eI)(l:List eE)(s:eE):k7 g x (l ++ [s])=jr (k7 g x l) (gd g s x):=by
 simp[k7]
def nC(g:ey):List eI→List eE→List eE
 | [],now=>now
 | x::r,now=>nC g r (k7 g x now)
def oH(g:ey)(p:Pos)(c n:Int):List eY:=(nC g (gt (gt g.kinds (eS (gt p.cs c))).fZ n) [iX p c]).filterMap (kQ p.side)
theorem f121(g:ey)(hg:eW g)(p:Pos)(hp:fo g p)(c n:Int)(hc:0≤c∧c<p.cs.length)(hs:gV (gt p.cs c)=p.side)(hn:0≤n∧n<(gt g.kinds (eS (gt p.cs c))).fZ.length) :
  Wf T 121 [dG g,dP p,.i c,.i n,.fn (.func 122) [] [.ptr 1 0 0,.ptr 2 0 0]] [.row 41 0 g.cells,.row 44 0 p.cells,.row 164 0 [.U]] (fun d H'=>d = .i 0∧H'=if oH g p c n = []then [.row 41 0 g.cells,.row 44 0 p.cells,.row 164 0 [.U]]else [.row 41 0 g.cells,.row 44 0 p.cells,.row 164 0 [.eu 3 ((oH g p c n).length-1) 6 0 (oH g p c n).length],.row 113 ((oH g p c n).length-1) (cl eY.cells (oH g p c n))]):=by
 have hz:=hp.size
 have hb:=hg.gH.size
 have hk:=hg.kinds
 have gv:=hp.side
 have gA:=hp.cs _ (eH hc.1 hc.2)
 have ym:0≤eS (gt p.cs c):=by
  unfold gV at hs;unfold eS
  split at hs<;>rename_i h5
  ·rw[if_pos h5];omega
  ·omega
 have hm:eS (gt p.cs c)<g.kinds.length:=rH gA.2 hk.1
 refine Yz wW (gu 127 [1017] (gu 79 [9] (gu 77 [5,6,7] wW.body))) ?_
 simp[wW,gu,iA,kG,kI,kR,jE]
 refine Yc (f97 g hg p hp) ?_
 simp
 (with_reducible repeat' first|refine Xk ?_<;>try simp|refine Xs ?_ ?_<;>intro h<;>(try intro h')<;>(try simp[h])<;>(try omega)|refine Xg ?_|omega)
 refine Yc (f84 (gt p.cs c)) ?_
 simp
 simp[hs]
 (with_reducible repeat' first|refine Xk ?_<;>try simp|refine Xs ?_ ?_<;>intro h<;>(try intro h')<;>(try simp[h])<;>(try omega)|refine Xg ?_|omega)
 have iz:=hp.small hg
 have l0:=hp.h0.len
 have l1:=hp.h1.len
 have q0:=ga (l:=p.cs) (n:=c) (v:=0) hc.1 hc.2
 refine Yn (f91 { p:=p,kind:=eS (gt p.cs c),cur:=c,gO:=false } iz (by dsimp only;omega)) ?_
 simp
 (with_reducible repeat' first|refine Xk ?_<;>try simp[q0]|refine Xs ?_ ?_<;>intro h<;>(try intro h')<;>(try simp[h,q0])<;>(try omega)|refine Xg ?_|omega)
 have nk:qT g (gt (gt g.kinds (eS (gt p.cs c))).fZ n):=(hg.fZ _ (eH ym hm)).2 _ (eH hn.1 hn.2)
 have eJ:ic g (iX p c):=⟨hp.uY hc.1 (by omega) (by omega),⟨ym,hm⟩,⟨hc.1,by show c<g.size;omega⟩⟩
 have hO:oH g p c n=(nC g (gt (gt g.kinds (eS (gt p.cs c))).fZ n) [iX p c]).filterMap (kQ p.side):=rfl
 generalize oH g p c n=OO at *
 generalize gt (gt g.kinds (eS (gt p.cs c))).fZ n=prog at *
 have gL:=nk.len
 have hq:dN 8 eE.cells [iX p c]=iq [⟨⟨pt p.cs c 0,p.h0,p.h1,p.eR,p.side⟩,eS (gt p.cs c),c,false⟩]:=rfl
 refine eF.s (by simp[q0];rfl) ?_
 refine eF.k ((0,[iX p c]):Int×List eE) (fun y=>[(4,.fn (.func 122) [] [.ptr 1 0 0,.ptr 2 0 0]),(5,.ptr 3 0 0),(14,lx y.2),(87,ft prog),(88,.i prog.length),(89,.i y.1)]) (fun y=>[.row 41 0 g.cells,.row 44 0 p.cells,.row 164 0 [.U],.row 41 0 g.cells,.row 44 0 p.cells,.dead,.dead,.dead,.row 171 0 (iX p c).cells,.dead]) (fun y=>0≤y.1∧y.1≤prog.length∧(∀ s∈y.2,ic g s)∧y.2.length≤10 ^ y.1.toNat∧nC g prog [iX p c]=nC g (prog.drop y.1.toNat) y.2) (fun y=>(prog.length-y.1).toNat) ?_ (by simp[hq]) (by simp[q0,iX]) rfl rfl rfl ?_
 ·simp
  exact eJ
 rintro⟨k,now⟩ ⟨k0,k1,k2,k3,k4⟩
 dsimp only at k0 k1 k2 k3 k4 ⊢
 have h10:(10:Nat) ^ k.toNat≤10 ^ 8:=bX (by decide) (by omega)
 by_cases hk:k<prog.length
 ·have hx:=nk.steps _ (eH k0 hk)
  simp[hk]
  (with_reducible repeat' first|refine Xk ?_<;>try simp|refine Xs ?_ ?_<;>intro h<;>(try intro h')<;>(try simp[h])<;>(try omega)|refine Xg ?_|omega)
  refine eF.e ((0,[]):Int×List eE) (fun y=>[(4,.fn (.func 122) [] [.ptr 1 0 0,.ptr 2 0 0]),(5,.ptr 3 0 0),(16,.ptr 10 0 0),(17,if y.2 = []then .U else .eu 12 (y.2.length-1) 8 0 y.2.length),(18,.fC 11),(87,ft prog),(88,.i prog.length),(89,.i k),(94,lx now),(95,.i now.length),(96,.i y.1)]) (fun y=>[.row 41 0 g.cells,.row 44 0 p.cells,.row 164 0 [.U],.row 41 0 g.cells,.row 44 0 p.cells,.dead,.dead,.dead,.row 171 0 (iX p c).cells,.dead,.row 82 0 [.i (gt prog k).1,.i (gt prog k).2],.map .str (y.2.map fun s=>(.string (kZ s),.b true))]++(if y.2 = []then []else [.row 171 (y.2.length-1) (cl eE.cells y.2)])) (fun y=>0≤y.1∧y.1≤now.length∧y.2=k7 g (gt prog k) (now.take y.1.toNat)) (fun y=>(now.length-y.1).toNat) ?_ ?_
  ·simp[k7]
  rintro⟨i,acc⟩ ⟨i0,i1,i2⟩
  dsimp only at i0 i1 i2 ⊢
  by_cases hi:i<now.length
  ·have jU:=k2 _ (eH i0 hi)
   by_cases ha:acc = []
   ·rw[if_pos ha,if_pos ha]
    subst ha
    simp[hi]
    (with_reducible repeat' first|refine Xk ?_<;>try simp|refine Xs ?_ ?_<;>intro h<;>(try intro h')<;>(try simp[h])<;>(try omega)|refine Xg ?_|omega)
    refine eU.inl nA rfl rfl (by simp[nA]) rfl ?_
    simp[nA]
    have fL:(gt prog k).1≠0:=by have:=hx.ok;omega
    simp[fL]
    refine Yc (f164 g hg (gt now i) jU (gt prog k) hx) ?_
    simp
    refine eF.s (by simp;rfl) ?_
    have sU:∀ t∈gd g (gt now i) (gt prog k),ic g t:=fun t ht=>u5 hg jU hx ht
    have Sj:(gd g (gt now i) (gt prog k)).length≤10:=wO
    generalize Gc:gd g (gt now i) (gt prog k)=ss at *
    refine eF.e ((0,[]):Int×List eE) (fun y=>[(4,.fn (.func 122) [] [.ptr 1 0 0,.ptr 2 0 0]),(5,.ptr 3 0 0),(16,.ptr 10 0 0),(17,if y.2 = []then .U else .eu 13 (y.2.length-1) 8 0 y.2.length),(18,.fC 11),(87,ft prog),(88,.i prog.length),(89,.i k),(94,lx now),(95,.i now.length),(96,.i i),(107,dN 8 eE.cells ss),(108,.i ss.length),(109,.i y.1)]) (fun y=>[.row 41 0 g.cells,.row 44 0 p.cells,.row 164 0 [.U],.row 41 0 g.cells,.row 44 0 p.cells,.dead,.dead,.dead,.row 171 0 (iX p c).cells,.dead,.row 82 0 [.i (gt prog k).1,.i (gt prog k).2],.map .str (y.2.map fun s=>(.string (kZ s),.b true)),.row 171 0 (gt now i).cells]++(if y.2 = []then []else [.row 171 (y.2.length-1) (cl eE.cells y.2)])) (fun y=>0≤y.1∧y.1≤ss.length∧y.2=jr [] (ss.take y.1.toNat)) (fun y=>(ss.length-y.1).toNat) ?_ ?_
    ·simp[jr]
    rintro⟨j,A⟩ ⟨j0,j1,j2⟩
    dsimp only at j0 j1 j2 ⊢
    have hA:∀ t∈A,ic g t:=fun t ht=>sU t (by
     rw[j2,xn]at ht
     exact aN (ht.resolve_left (by simp)))
    by_cases hj:j<ss.length
    ·have ht:=sU _ (eH j0 hj)
     have jv:=Hi hg ht.p
     by_cases kJ:A = []
     ·rw[if_pos kJ,if_pos kJ]
      subst kJ
      simp[hj]
      (with_reducible repeat' first|refine Xk ?_<;>try simp|refine Xs ?_ ?_<;>intro h<;>(try intro h')<;>(try simp[h])<;>(try omega)|refine Xg ?_|omega)
      refine Yc (f165 (gt ss j) (by have:=ht.kind;omega) (by have:=ht.cur;omega) (by have:=ht.p.size;omega) (wm hg ht.p)) ?_
      simp
      (with_reducible repeat' first|refine Xk ?_<;>try simp|refine Xs ?_ ?_<;>intro h<;>(try intro h')<;>(try simp[h])<;>(try omega)|refine Xg ?_|omega)
      refine LJ.i (j+1,[gt ss j]) (by first|rfl|simp[gZ]) (by first|rfl|simp[gZ]) rfl rfl ?_
      refine⟨by dsimp only;omega,by dsimp only;omega,by dsimp only;omega,?_⟩
      dsimp only
      rw[gj j0 hj,vp,← j2];simp
     ·rw[if_neg kJ,if_neg kJ]
      simp[hj]
      (with_reducible repeat' first|refine Xk ?_<;>try simp|refine Xs ?_ ?_<;>intro h<;>(try intro h')<;>(try simp[h])<;>(try omega)|refine Xg ?_|omega)
      refine Yc (f165 (gt ss j) (by have:=ht.kind;omega) (by have:=ht.cur;omega) (by have:=ht.p.size;omega) (wm hg ht.p)) ?_
      simp
      simp[Hz hg ht hA]
      by_cases ff:gt ss j∈A
      ·simp[ff]
       (with_reducible repeat' first|refine Xk ?_<;>try simp|refine Xs ?_ ?_<;>intro h<;>(try intro h')<;>(try simp[h])<;>(try omega)|refine Xg ?_|omega)
       refine LJ.i (j+1,A) (by first|rfl|simp[kJ]) (by first|rfl|simp[kJ]) rfl rfl ?_
       refine⟨by dsimp only;omega,by dsimp only;omega,by dsimp only;omega,?_⟩
       dsimp only
       rw[gj j0 hj,vp,← j2,if_pos ff]
      ·have hlA:0<A.length:=aB.2 kJ
       have RH:A.length≤ss.length:=by
        have h1:=xm (a:=[]) (b:=ss.take j.toNat)
        rw[← j2,aP]at h1
        simp at h1
        omega
       simp[ff,HC hg ht hA ff]
       (with_reducible repeat' first|refine Xk ?_<;>try simp|refine Xs ?_ ?_<;>intro h<;>(try intro h')<;>(try simp[h])<;>(try omega)|refine Xg ?_|omega)
       refine LJ.i (j+1,A ++ [gt ss j]) (by first|rfl|simp[show A.length-1+1=A.length by omega]) (by first|rfl|simp[show A.length-1+1=A.length by omega]) rfl rfl ?_
       refine⟨by dsimp only;omega,by dsimp only;omega,by dsimp only;omega,?_⟩
       dsimp only
       rw[gj j0 hj,vp,← j2,if_neg ff]
    ·rw[iH (by omega)]at j2
     have oY:k7 g (gt prog k) (now.take (i+1).toNat)=A:=by
      rw[gj i0 hi,MV,← i2,Gc,j2]
     by_cases kJ:A = []
     ·rw[if_pos kJ,if_pos kJ]
      simp[hj,kJ]
      (with_reducible repeat' first|refine Xk ?_<;>try simp|refine Xs ?_ ?_<;>intro h<;>(try intro h')<;>(try simp[h])<;>(try omega)|refine Xg ?_|omega)
      refine LJ.e (i+1,[]) ?_
      exact⟨by dsimp only;omega,by dsimp only;omega,by dsimp only;omega,by rw[oY,kJ]⟩
     ·rw[if_neg kJ,if_neg kJ]
      simp[hj]
      (with_reducible repeat' first|refine Xk ?_<;>try simp|refine Xs ?_ ?_<;>intro h<;>(try intro h')<;>(try simp[h])<;>(try omega)|refine Xg ?_|omega)
      refine LJ.i (i+1,A) (by first|rfl|simp[kJ]) (by first|rfl|simp[kJ]) rfl rfl ?_
      exact⟨by dsimp only;omega,by dsimp only;omega,by dsimp only;omega,oY.symm⟩
   ·rw[if_neg ha,if_neg ha]
    have QZ:∀ t∈acc,ic g t:=fun t ht=>by
     rw[i2,D3,bn]at ht
     obtain⟨s',h1,h2⟩:=ht
     exact u5 hg (k2 _ (aN h1)) hx h2
    have sN:acc.length≤10*now.length:=by
     rw[i2]
     refine Nat.le_trans y9 ?_
     rw[aP];omega
    have Lo:0<acc.length:=aB.2 ha
    simp[hi]
    (with_reducible repeat' first|refine Xk ?_<;>try simp|refine Xs ?_ ?_<;>intro h<;>(try intro h')<;>(try simp[h])<;>(try omega)|refine Xg ?_|omega)
    refine eU.inl nA rfl rfl (by simp[nA]) rfl ?_
    simp[nA]
    have fL:(gt prog k).1≠0:=by have:=hx.ok;omega
    simp[fL]
    refine Yc (f164 g hg (gt now i) jU (gt prog k) hx) ?_
    simp
    refine eF.s (by simp;rfl) ?_
    have sU:∀ t∈gd g (gt now i) (gt prog k),ic g t:=fun t ht=>u5 hg jU hx ht
    have Sj:(gd g (gt now i) (gt prog k)).length≤10:=wO
    generalize Gc:gd g (gt now i) (gt prog k)=ss at *
    refine eF.e ((0,acc):Int×List eE) (fun y=>[(4,.fn (.func 122) [] [.ptr 1 0 0,.ptr 2 0 0]),(5,.ptr 3 0 0),(16,.ptr 10 0 0),(17,.eu 12 (y.2.length-1) 8 0 y.2.length),(18,.fC 11),(87,ft prog),(88,.i prog.length),(89,.i k),(94,lx now),(95,.i now.length),(96,.i i),(107,dN 8 eE.cells ss),(108,.i ss.length),(109,.i y.1)]) (fun y=>[.row 41 0 g.cells,.row 44 0 p.cells,.row 164 0 [.U],.row 41 0 g.cells,.row 44 0 p.cells,.dead,.dead,.dead,.row 171 0 (iX p c).cells,.dead,.row 82 0 [.i (gt prog k).1,.i (gt prog k).2],.map .str (y.2.map fun s=>(.string (kZ s),.b true)),.row 171 (y.2.length-1) (cl eE.cells y.2),.row 171 0 (gt now i).cells]) (fun y=>0≤y.1∧y.1≤ss.length∧y.2=jr acc (ss.take y.1.toNat)∧0<y.2.length) (fun y=>(ss.length-y.1).toNat) ?_ ?_
    ·simp[jr]
     exact Lo
    rintro⟨j,A⟩ ⟨j0,j1,j2,j3⟩
    dsimp only at j0 j1 j2 j3 ⊢
    have hA:∀ t∈A,ic g t:=fun t ht=>by
     rw[j2,xn]at ht
     rcases ht with ht|ht
     ·exact QZ t ht
     ·exact sU t (aN ht)
    have RH:A.length≤acc.length+ss.length:=by
     have h1:=xm (a:=acc) (b:=ss.take j.toNat)
     rw[← j2,aP]at h1
     omega
    by_cases hj:j<ss.length
    ·have ht:=sU _ (eH j0 hj)
     simp[hj]
     (with_reducible repeat' first|refine Xk ?_<;>try simp|refine Xs ?_ ?_<;>intro h<;>(try intro h')<;>(try simp[h])<;>(try omega)|refine Xg ?_|omega)
     refine Yc (f165 (gt ss j) (by have:=ht.kind;omega) (by have:=ht.cur;omega) (by have:=ht.p.size;omega) (wm hg ht.p)) ?_
     simp
     simp[Hz hg ht hA]
     by_cases ff:gt ss j∈A
     ·simp[ff]
      (with_reducible repeat' first|refine Xk ?_<;>try simp|refine Xs ?_ ?_<;>intro h<;>(try intro h')<;>(try simp[h])<;>(try omega)|refine Xg ?_|omega)
      refine LJ.e (j+1,A) ?_
      refine⟨by dsimp only;omega,by dsimp only;omega,by dsimp only;omega,?_,j3⟩
      dsimp only
      rw[gj j0 hj,vp,← j2,if_pos ff]
     ·simp[ff,HC hg ht hA ff]
      (with_reducible repeat' first|refine Xk ?_<;>try simp|refine Xs ?_ ?_<;>intro h<;>(try intro h')<;>(try simp[h])<;>(try omega)|refine Xg ?_|omega)
      refine LJ.i (j+1,A ++ [gt ss j]) (by first|rfl|simp[show A.length-1+1=A.length by omega]) (by first|rfl|simp[show A.length-1+1=A.length by omega]) rfl rfl ?_
      refine⟨by dsimp only;omega,by dsimp only;omega,by dsimp only;omega,?_,by simp⟩
      dsimp only
      rw[gj j0 hj,vp,← j2,if_neg ff]
    ·rw[iH (by omega)]at j2
     have oY:k7 g (gt prog k) (now.take (i+1).toNat)=A:=by
      rw[gj i0 hi,MV,← i2,Gc,j2]
     have kJ:A≠[]:=aB.1 j3
     simp[hj]
     (with_reducible repeat' first|refine Xk ?_<;>try simp|refine Xs ?_ ?_<;>intro h<;>(try intro h')<;>(try simp[h])<;>(try omega)|refine Xg ?_|omega)
     refine LJ.i (i+1,A) (by first|rfl|simp[kJ]) (by first|rfl|simp[kJ]) rfl rfl ?_
     exact⟨by dsimp only;omega,by dsimp only;omega,by dsimp only;omega,oY.symm⟩
  ·rw[iH (by omega)]at i2
   have eB:∀ t∈acc,ic g t:=fun t ht=>by
    rw[i2,D3,bn]at ht
    obtain⟨s',h1,h2⟩:=ht
    exact u5 hg (k2 _ h1) hx h2
   have sN:acc.length≤10*now.length:=by
    rw[i2];exact y9
   have x4:acc.length≤10 ^ (k+1).toNat:=by
    rw[show(k+1).toNat=k.toNat+1 by omega,dm];omega
   have mm:nC g prog [iX p c]=nC g (prog.drop (k+1).toNat) acc:=by
    rw[k4,kP k0 hk,nC,← i2,show(k+1).toNat=k.toNat+1 by omega]
   by_cases ha:acc = []
   ·rw[if_pos ha,if_pos ha]
    simp[hi,ha]
    (with_reducible repeat' first|refine Xk ?_<;>try simp|refine Xs ?_ ?_<;>intro h<;>(try intro h')<;>(try simp[h])<;>(try omega)|refine Xg ?_|omega)
    refine LJ.i (k+1,[]) (by first|rfl|simp[dN]) (by first|rfl|simp[dN]) rfl rfl ?_
    rw[ha]at eB x4 mm
    exact⟨by dsimp only;omega,by dsimp only;omega,by dsimp only;omega,eB,x4,mm⟩
   ·rw[if_neg ha,if_neg ha]
    have v7:iq acc=dN 8 eE.cells acc:=FA ha
    simp[hi]
    (with_reducible repeat' first|refine Xk ?_<;>try simp|refine Xs ?_ ?_<;>intro h<;>(try intro h')<;>(try simp[h])<;>(try omega)|refine Xg ?_|omega)
    refine LJ.i (k+1,acc) (by first|rfl|simp[v7]) (by first|rfl|simp[v7]) rfl rfl ?_
    exact⟨by dsimp only;omega,by dsimp only;omega,by dsimp only;omega,eB,x4,mm⟩
 ·rw[aZ (by omega)]at k4
  rw[k4,nC]at hO
  have h8:now.length≤10 ^ 8:=by omega
  simp[hk]
  (with_reducible repeat' first|refine Xk ?_<;>try simp|refine Xs ?_ ?_<;>intro h<;>(try intro h')<;>(try simp[h])<;>(try omega)|refine Xg ?_|omega)
  refine eF.e ((0,[]):Int×List eY) (fun y=>[(4,.fn (.func 122) [] [.ptr 1 0 0,.ptr 2 0 0]),(129,lx now),(130,.i now.length),(131,.i y.1)]) (fun y=>rh g p (iX p c) (if y.2 = []then .U else .eu 10 (y.2.length-1) 6 0 y.2.length)++(if y.2 = []then []else [.row 113 (y.2.length-1) (cl eY.cells y.2)])) (fun y=>0≤y.1∧y.1≤now.length∧y.2=(now.take y.1.toNat).filterMap (kQ p.side)) (fun y=>(now.length-y.1).toNat) ?_ ?_
  ·simp
  rintro⟨i,outs⟩ ⟨i0,i1,i2⟩
  dsimp only at i0 i1 i2 ⊢
  by_cases hi:i<now.length
  ·have ht:=k2 _ (eH i0 hi)
   have kz:outs.length≤now.length:=by
    rw[i2]
    refine Nat.le_trans (cP ..) ?_
    rw[aP];omega
   have i3:(now.take (i+1).toNat).filterMap (kQ p.side)=outs++(kQ p.side (gt now i)).toList:=by
    rw[gj i0 hi,List.filterMap_append,← i2]
    cases hf:kQ p.side (gt now i)<;>simp[hf]
   by_cases ho:outs = []
   ·rw[if_pos ho,if_pos ho]
    subst ho
    simp[hi]
    (with_reducible repeat' first|refine Xk ?_<;>try simp|refine Xs ?_ ?_<;>intro h<;>(try intro h')<;>(try simp[h])<;>(try omega)|refine Xg ?_|omega)
    refine eU.kC rfl rfl (PW g hg p hp (iX p c) (gt now i) ht) ?_
    rintro d H' hH
    cases hf:kQ p.side (gt now i)with
    | none=>
     rw[hf]at hH i3;dsimp only at hH;subst hH
     simp
     (with_reducible repeat' first|refine Xk ?_<;>try simp|refine Xs ?_ ?_<;>intro h<;>(try intro h')<;>(try simp[h])<;>(try omega)|refine Xg ?_|omega)
     refine LJ.e (i+1,[]) ?_
     exact⟨by dsimp only;omega,by dsimp only;omega,by dsimp only;omega,by rw[i3];rfl⟩
    | some o=>
     rw[hf]at hH i3;dsimp only at hH;subst hH
     simp
     (with_reducible repeat' first|refine Xk ?_<;>try simp|refine Xs ?_ ?_<;>intro h<;>(try intro h')<;>(try simp[h])<;>(try omega)|refine Xg ?_|omega)
     refine LJ.e (i+1,[o]) ?_
     exact⟨by dsimp only;omega,by dsimp only;omega,by dsimp only;omega,by rw[i3];rfl⟩
   ·rw[if_neg ho,if_neg ho]
    simp[hi]
    (with_reducible repeat' first|refine Xk ?_<;>try simp|refine Xs ?_ ?_<;>intro h<;>(try intro h')<;>(try simp[h])<;>(try omega)|refine Xg ?_|omega)
    refine eU.kC rfl rfl (PX g hg p hp (iX p c) (gt now i) ht outs (by omega) (aB.2 ho)) ?_
    rintro d H' hH
    cases hf:kQ p.side (gt now i)with
    | none=>
     rw[hf]at hH i3;dsimp only at hH;subst hH
     simp
     (with_reducible repeat' first|refine Xk ?_<;>try simp|refine Xs ?_ ?_<;>intro h<;>(try intro h')<;>(try simp[h])<;>(try omega)|refine Xg ?_|omega)
     refine LJ.i (i+1,outs) (by first|rfl|simp[ho]) (by first|rfl|simp[ho]) rfl rfl ?_
     exact⟨by dsimp only;omega,by dsimp only;omega,by dsimp only;omega,by rw[i3];simp⟩
    | some o=>
     rw[hf]at hH i3;dsimp only at hH;subst hH
     simp
     (with_reducible repeat' first|refine Xk ?_<;>try simp|refine Xs ?_ ?_<;>intro h<;>(try intro h')<;>(try simp[h])<;>(try omega)|refine Xg ?_|omega)
     refine LJ.e (i+1,outs ++ [o]) ?_
     exact⟨by dsimp only;omega,by dsimp only;omega,by dsimp only;omega,by rw[i3];rfl⟩
  ·rw[iH (by omega)]at i2
   rw[← i2]at hO
   subst hO
   by_cases ho:OO = []
   ·rw[if_pos ho,if_pos ho]
    simp[hi,ho]
   ·rw[if_neg ho,if_neg ho]
    simp[hi,ho]
