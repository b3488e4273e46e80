/- 19 -/
import Derived.Test.YtnaefnajkaohgaaGreatDoorH18
set_option linter.all false
namespace Go.Proofs.YtnaefnajkaohgaaGreatDoor
open Go Go.AL Classical
set_option maxRecDepth 10000
set_option maxHeartbeats 8000000
attribute [local simp] nL
@[simp] theorem akQ(l:List eU):closed (dN 8 eU.cells l)=true:=UA l
def seen(l:List eU):Ob:=.map .str (l.map fun s=>(.string (nh s),.b true))
def zY{g:eH}(hg:fe g){p:Pos}(hp:fO g p):(mL p).length<1000:=by
 have h1:=hp.size;have h2:=hp.h0.len;have h3:=hp.h1.len;have h4:=hg.iw.size;have h5:=hg.kinds
 rw[xY,vM]
 simp
 omega
theorem y6(x:eU):∀ (l a:List eU),k6 a (l ++ [x])=if x∈k6 a l then k6 a l else k6 a l ++ [x]
 | [],a=>rfl
 | y::l,a=>by rw[bx,k6,y6 x l,k6]
@[simp] theorem apO(ρ:Nat→Option Nat)(H:U)(n:Nat):((fun x:Value×D=>(x.1,eP ρ H n x.2)) ∘ fun s:eU=>((.string (nh s):Value),D.b true))=fun s:eU=>((.string (nh s):Value),D.b true):=by
 funext s;simp
@[simp] theorem aqQ(n:Nat)(f:List Nat→List Nat):(f ∘ (fun x:Value×D=>gW n x.2) ∘ fun s:eU=>((.string (nh s):Value),D.b true))=fun _:eU=>f []:=by
 funext s;rfl
@[simp] theorem alF(l:List eU):(l.map fun _=>([]:List Nat)).flatten = []:=by
 induction l<;>simp_all
def RJ(g:eH)(x:eO)(l:List eU)(s:eU):ni g x (l ++ [s])=k6 (ni g x l) (gY g s x):=by
 simp[ni]
def qd(g:eH):List eO→List eU→List eU
 | [],now=>now
 | x::r,now=>qd g r (ni g x now)
def q9(g:eH)(p:Pos)(c n:Int):List fD:=(qd g (gt (gt g.kinds (fm (gt p.cs c))).gT n) [kf p c]).filterMap (mQ p.side)
def f121(g:eH)(hg:fe g)(p:Pos)(hp:fO g p)(c n:Int)(hc:0≤c∧c<p.cs.length)(hs:iU (gt p.cs c)=p.side)(hn:0≤n∧n<(gt g.kinds (fm (gt p.cs c))).gT.length) :
  Wf T 121 [dG g,dP p,.i c,.i n,.fn (.func 122) [] [.ptr 1 0 0,.ptr 2 0 0]] [.row 41 0 g.cells,.row 44 0 p.cells,.row 164 0 [.eG]] (fun d H'=>d = .i 0∧H'=if q9 g p c n = []then [.row 41 0 g.cells,.row 44 0 p.cells,.row 164 0 [.eG]]else [.row 41 0 g.cells,.row 44 0 p.cells,.row 164 0 [.eF 3 ((q9 g p c n).length-1) 6 0 (q9 g p c n).length],.row 113 ((q9 g p c n).length-1) (cl fD.cells (q9 g p c n))]):=by
 have hz:=hp.size
 have hb:=hg.iw.size
 have hk:=hg.kinds
 have ik:=hp.side
 have im:=hp.cs _ (eQ hc.1 hc.2)
 have B5:0≤fm (gt p.cs c):=by
  unfold iU at hs;unfold fm
  split at hs<;>rename_i h5
  ·rw[if_pos h5];omega
  ·omega
 have hm:fm (gt p.cs c)<g.kinds.length:=u0 im.2 hk.1
 refine Yz AH (gL 127 [1017] (gL 79 [9] (gL 77 [5,6,7] AH.body))) ?_
 simp[AH,gL,jg,lD,lH,lS,ku]
 refine Yc (f97 g hg p hp) ?_
 simp
 (with_reducible repeat' first|refine Xk ?_<;>try simp|refine Xs ?_ ?_<;>intro h<;>(try intro h')<;>(try simp[h])<;>try omega|refine Xg ?_|omega)
 refine Yc (f84 (gt p.cs c)) ?_
 simp
 simp[hs]
 (with_reducible repeat' first|refine Xk ?_<;>try simp|refine Xs ?_ ?_<;>intro h<;>(try intro h')<;>(try simp[h])<;>try omega|refine Xg ?_|omega)
 have jB:=hp.small hg
 have l0:=hp.h0.len
 have l1:=hp.h1.len
 have q0:=gN (l:=p.cs) (n:=c) (v:=0) hc.1 hc.2
 refine Yn (f91 { p:=p,kind:=fm (gt p.cs c),cur:=c,iL:=false } jB (by dsimp only;omega)) ?_
 simp
 (with_reducible repeat' first|refine Xk ?_<;>try simp[q0]|refine Xs ?_ ?_<;>intro h<;>(try intro h')<;>(try simp[h,q0])<;>try omega|refine Xg ?_|omega)
 have nQ:ui g (gt (gt g.kinds (fm (gt p.cs c))).gT n):=(hg.gT _ (eQ B5 hm)).2 _ (eQ hn.1 hn.2)
 have eX:jk g (kf p c):=⟨hp.yx hc.1 (by omega) (by omega),⟨B5,hm⟩,⟨hc.1,by show c<g.size;omega⟩⟩
 have hO:q9 g p c n=(qd g (gt (gt g.kinds (fm (gt p.cs c))).gT n) [kf p c]).filterMap (mQ p.side):=rfl
 generalize q9 g p c n=OO at *
 generalize gt (gt g.kinds (fm (gt p.cs c))).gT n=prog at *
 have gK:=nQ.len
 have hq:dN 8 eU.cells [kf p c]=jv [⟨⟨pt p.cs c 0,p.h0,p.h1,p.ff,p.side⟩,fm (gt p.cs c),c,false⟩]:=rfl
 refine eN.s (by simp[q0];rfl) ?_
 refine eN.k ((0,[kf p c]):Int×List eU) (fun y=>[(4,.fn (.func 122) [] [.ptr 1 0 0,.ptr 2 0 0]),(5,.ptr 3 0 0),(14,nL y.2),(87,fh prog),(88,.i prog.length),(89,.i y.1)]) (fun y=>[.row 41 0 g.cells,.row 44 0 p.cells,.row 164 0 [.eG],.row 41 0 g.cells,.row 44 0 p.cells,.dead,.dead,.dead,.row 171 0 (kf p c).cells,.dead]) (fun y=>0≤y.1∧y.1≤prog.length∧(∀ s∈y.2,jk g s)∧y.2.length≤10 ^ y.1.toNat∧qd g prog [kf p c]=qd g (prog.drop y.1.toNat) y.2) (fun y=>(prog.length-y.1).toNat) ?_ (by simp[hq]) (by simp[q0,kf]) rfl rfl rfl ?_
 ·simp
  exact eX
 rintro⟨k,now⟩ ⟨k0,k1,k2,k3,k4⟩
 dsimp only at k0 k1 k2 k3 k4 ⊢
 have h10:(10:Nat) ^ k.toNat≤10 ^ 8:=cm (by decide) (by omega)
 by_cases hk:k<prog.length
 ·have hx:=nQ.steps _ (eQ k0 hk)
  simp[hk]
  (with_reducible repeat' first|refine Xk ?_<;>try simp|refine Xs ?_ ?_<;>intro h<;>(try intro h')<;>(try simp[h])<;>try omega|refine Xg ?_|omega)
  refine eN.e ((0,[]):Int×List eU) (fun y=>[(4,.fn (.func 122) [] [.ptr 1 0 0,.ptr 2 0 0]),(5,.ptr 3 0 0),(16,.ptr 10 0 0),(17,if y.2 = []then .eG else .eF 12 (y.2.length-1) 8 0 y.2.length),(18,.fE 11),(87,fh prog),(88,.i prog.length),(89,.i k),(94,nL now),(95,.i now.length),(96,.i y.1)]) (fun y=>[.row 41 0 g.cells,.row 44 0 p.cells,.row 164 0 [.eG],.row 41 0 g.cells,.row 44 0 p.cells,.dead,.dead,.dead,.row 171 0 (kf p c).cells,.dead,.row 82 0 [.i (gt prog k).1,.i (gt prog k).2],.map .str (y.2.map fun s=>(.string (nh s),.b true))]++(if y.2 = []then []else [.row 171 (y.2.length-1) (cl eU.cells y.2)])) (fun y=>0≤y.1∧y.1≤now.length∧y.2=ni g (gt prog k) (now.take y.1.toNat)) (fun y=>(now.length-y.1).toNat) ?_ ?_
  ·simp[ni]
  rintro⟨i,acc⟩ ⟨i0,i1,i2⟩
  dsimp only at i0 i1 i2 ⊢
  by_cases hi:i<now.length
  ·have mR:=k2 _ (eQ i0 hi)
   by_cases ha:acc = []
   ·rw[if_pos ha,if_pos ha]
    subst ha
    simp[hi]
    (with_reducible repeat' first|refine Xk ?_<;>try simp|refine Xs ?_ ?_<;>intro h<;>(try intro h')<;>(try simp[h])<;>try omega|refine Xg ?_|omega)
    refine fg.inl p9 rfl rfl (by simp[p9]) rfl ?_
    simp[p9]
    have gD:(gt prog k).1≠0:=by have:=hx.ok;omega
    simp[gD]
    refine Yc (f164 g hg (gt now i) mR (gt prog k) hx) ?_
    simp
    refine eN.s (by simp;rfl) ?_
    have v8:∀ t∈gY g (gt now i) (gt prog k),jk g t:=fun t ht=>yD hg mR hx ht
    have YE:(gY g (gt now i) (gt prog k)).length≤10:=Au
    generalize KM:gY g (gt now i) (gt prog k)=ss at *
    refine eN.e ((0,[]):Int×List eU) (fun y=>[(4,.fn (.func 122) [] [.ptr 1 0 0,.ptr 2 0 0]),(5,.ptr 3 0 0),(16,.ptr 10 0 0),(17,if y.2 = []then .eG else .eF 13 (y.2.length-1) 8 0 y.2.length),(18,.fE 11),(87,fh prog),(88,.i prog.length),(89,.i k),(94,nL now),(95,.i now.length),(96,.i i),(107,dN 8 eU.cells ss),(108,.i ss.length),(109,.i y.1)]) (fun y=>[.row 41 0 g.cells,.row 44 0 p.cells,.row 164 0 [.eG],.row 41 0 g.cells,.row 44 0 p.cells,.dead,.dead,.dead,.row 171 0 (kf p c).cells,.dead,.row 82 0 [.i (gt prog k).1,.i (gt prog k).2],.map .str (y.2.map fun s=>(.string (nh s),.b true)),.row 171 0 (gt now i).cells]++(if y.2 = []then []else [.row 171 (y.2.length-1) (cl eU.cells y.2)])) (fun y=>0≤y.1∧y.1≤ss.length∧y.2=k6 [] (ss.take y.1.toNat)) (fun y=>(ss.length-y.1).toNat) ?_ ?_
    ·simp[k6]
    rintro⟨j,A⟩ ⟨j0,j1,j2⟩
    dsimp only at j0 j1 j2 ⊢
    have hA:∀ t∈A,jk g t:=fun t ht=>v8 t (by
     rw[j2,A9]at ht
     exact aJ (ht.resolve_left (by simp)))
    by_cases hj:j<ss.length
    ·have ht:=v8 _ (eQ j0 hj)
     have kH:=LU hg ht.p
     by_cases mI:A = []
     ·rw[if_pos mI,if_pos mI]
      subst mI
      simp[hj]
      (with_reducible repeat' first|refine Xk ?_<;>try simp|refine Xs ?_ ?_<;>intro h<;>(try intro h')<;>(try simp[h])<;>try omega|refine Xg ?_|omega)
      refine Yc (f165 (gt ss j) (by have:=ht.kind;omega) (by have:=ht.cur;omega) (by have:=ht.p.size;omega) (zY hg ht.p)) ?_
      simp
      (with_reducible repeat' first|refine Xk ?_<;>try simp|refine Xs ?_ ?_<;>intro h<;>(try intro h')<;>(try simp[h])<;>try omega|refine Xg ?_|omega)
      refine LJ.i (j+1,[gt ss j]) (by first|rfl|simp[ix]) (by first|rfl|simp[ix]) rfl rfl ?_
      refine eY ?_
      dsimp only
      rw[gx j0 hj,y6,← j2];simp
     ·rw[if_neg mI,if_neg mI]
      simp[hj]
      (with_reducible repeat' first|refine Xk ?_<;>try simp|refine Xs ?_ ?_<;>intro h<;>(try intro h')<;>(try simp[h])<;>try omega|refine Xg ?_|omega)
      refine Yc (f165 (gt ss j) (by have:=ht.kind;omega) (by have:=ht.cur;omega) (by have:=ht.p.size;omega) (zY hg ht.p)) ?_
      simp
      simp[Md hg ht hA]
      by_cases ft:gt ss j∈A
      ·simp[ft]
       (with_reducible repeat' first|refine Xk ?_<;>try simp|refine Xs ?_ ?_<;>intro h<;>(try intro h')<;>(try simp[h])<;>try omega|refine Xg ?_|omega)
       refine LJ.i (j+1,A) (by first|rfl|simp[mI]) (by first|rfl|simp[mI]) rfl rfl ?_
       refine eY ?_
       dsimp only
       rw[gx j0 hj,y6,← j2,if_pos ft]
      ·have hlA:0<A.length:=az.2 mI
       have XI:A.length≤ss.length:=by
        have h1:=A8 (a:=[]) (b:=ss.take j.toNat)
        rw[← j2,aT]at h1
        simp at h1
        omega
       simp[ft,Mg hg ht hA ft]
       (with_reducible repeat' first|refine Xk ?_<;>try simp|refine Xs ?_ ?_<;>intro h<;>(try intro h')<;>(try simp[h])<;>try omega|refine Xg ?_|omega)
       refine LJ.i (j+1,A ++ [gt ss j]) (by first|rfl|simp[show A.length-1+1=A.length by omega]) (by first|rfl|simp[show A.length-1+1=A.length by omega]) rfl rfl ?_
       refine eY ?_
       dsimp only
       rw[gx j0 hj,y6,← j2,if_neg ft]
    ·rw[jh (by omega)]at j2
     have rL:ni g (gt prog k) (now.take (i+1).toNat)=A:=by
      rw[gx i0 hi,RJ,← i2,KM,j2]
     by_cases mI:A = []
     ·rw[if_pos mI,if_pos mI]
      simp[hj,mI]
      (with_reducible repeat' first|refine Xk ?_<;>try simp|refine Xs ?_ ?_<;>intro h<;>(try intro h')<;>(try simp[h])<;>try omega|refine Xg ?_|omega)
      refine LJ.e (i+1,[]) ?_
      exact eY (by rw[rL,mI])
     ·rw[if_neg mI,if_neg mI]
      simp[hj]
      (with_reducible repeat' first|refine Xk ?_<;>try simp|refine Xs ?_ ?_<;>intro h<;>(try intro h')<;>(try simp[h])<;>try omega|refine Xg ?_|omega)
      refine LJ.i (i+1,A) (by first|rfl|simp[mI]) (by first|rfl|simp[mI]) rfl rfl ?_
      exact eY rL.symm
   ·rw[if_neg ha,if_neg ha]
    have WV:∀ t∈acc,jk g t:=fun t ht=>by
     rw[i2,IF,bz]at ht
     obtain⟨s',h1,h2⟩:=ht
     exact yD hg (k2 _ (aJ h1)) hx h2
    have vW:acc.length≤10*now.length:=by
     rw[i2]
     refine Nat.le_trans CT ?_
     rw[aT];omega
    have P9:0<acc.length:=az.2 ha
    simp[hi]
    (with_reducible repeat' first|refine Xk ?_<;>try simp|refine Xs ?_ ?_<;>intro h<;>(try intro h')<;>(try simp[h])<;>try omega|refine Xg ?_|omega)
    refine fg.inl p9 rfl rfl (by simp[p9]) rfl ?_
    simp[p9]
    have gD:(gt prog k).1≠0:=by have:=hx.ok;omega
    simp[gD]
    refine Yc (f164 g hg (gt now i) mR (gt prog k) hx) ?_
    simp
    refine eN.s (by simp;rfl) ?_
    have v8:∀ t∈gY g (gt now i) (gt prog k),jk g t:=fun t ht=>yD hg mR hx ht
    have YE:(gY g (gt now i) (gt prog k)).length≤10:=Au
    generalize KM:gY g (gt now i) (gt prog k)=ss at *
    refine eN.e ((0,acc):Int×List eU) (fun y=>[(4,.fn (.func 122) [] [.ptr 1 0 0,.ptr 2 0 0]),(5,.ptr 3 0 0),(16,.ptr 10 0 0),(17,.eF 12 (y.2.length-1) 8 0 y.2.length),(18,.fE 11),(87,fh prog),(88,.i prog.length),(89,.i k),(94,nL now),(95,.i now.length),(96,.i i),(107,dN 8 eU.cells ss),(108,.i ss.length),(109,.i y.1)]) (fun y=>[.row 41 0 g.cells,.row 44 0 p.cells,.row 164 0 [.eG],.row 41 0 g.cells,.row 44 0 p.cells,.dead,.dead,.dead,.row 171 0 (kf p c).cells,.dead,.row 82 0 [.i (gt prog k).1,.i (gt prog k).2],.map .str (y.2.map fun s=>(.string (nh s),.b true)),.row 171 (y.2.length-1) (cl eU.cells y.2),.row 171 0 (gt now i).cells]) (fun y=>0≤y.1∧y.1≤ss.length∧y.2=k6 acc (ss.take y.1.toNat)∧0<y.2.length) (fun y=>(ss.length-y.1).toNat) ?_ ?_
    ·simp[k6]
     exact P9
    rintro⟨j,A⟩ ⟨j0,j1,j2,j3⟩
    dsimp only at j0 j1 j2 j3 ⊢
    have hA:∀ t∈A,jk g t:=fun t ht=>by
     rw[j2,A9]at ht
     rcases ht with ht|ht
     ·exact WV t ht
     ·exact v8 t (aJ ht)
    have XI:A.length≤acc.length+ss.length:=by
     have h1:=A8 (a:=acc) (b:=ss.take j.toNat)
     rw[← j2,aT]at h1
     omega
    by_cases hj:j<ss.length
    ·have ht:=v8 _ (eQ j0 hj)
     simp[hj]
     (with_reducible repeat' first|refine Xk ?_<;>try simp|refine Xs ?_ ?_<;>intro h<;>(try intro h')<;>(try simp[h])<;>try omega|refine Xg ?_|omega)
     refine Yc (f165 (gt ss j) (by have:=ht.kind;omega) (by have:=ht.cur;omega) (by have:=ht.p.size;omega) (zY hg ht.p)) ?_
     simp
     simp[Md hg ht hA]
     by_cases ft:gt ss j∈A
     ·simp[ft]
      (with_reducible repeat' first|refine Xk ?_<;>try simp|refine Xs ?_ ?_<;>intro h<;>(try intro h')<;>(try simp[h])<;>try omega|refine Xg ?_|omega)
      refine LJ.e (j+1,A) ?_
      refine eY ⟨?_,j3⟩
      dsimp only
      rw[gx j0 hj,y6,← j2,if_pos ft]
     ·simp[ft,Mg hg ht hA ft]
      (with_reducible repeat' first|refine Xk ?_<;>try simp|refine Xs ?_ ?_<;>intro h<;>(try intro h')<;>(try simp[h])<;>try omega|refine Xg ?_|omega)
      refine LJ.i (j+1,A ++ [gt ss j]) (by first|rfl|simp[show A.length-1+1=A.length by omega]) (by first|rfl|simp[show A.length-1+1=A.length by omega]) rfl rfl ?_
      refine eY ⟨?_,by simp⟩
      dsimp only
      rw[gx j0 hj,y6,← j2,if_neg ft]
    ·rw[jh (by omega)]at j2
     have rL:ni g (gt prog k) (now.take (i+1).toNat)=A:=by
      rw[gx i0 hi,RJ,← i2,KM,j2]
     have mI:A≠[]:=az.1 j3
     simp[hj]
     (with_reducible repeat' first|refine Xk ?_<;>try simp|refine Xs ?_ ?_<;>intro h<;>(try intro h')<;>(try simp[h])<;>try omega|refine Xg ?_|omega)
     refine LJ.i (i+1,A) (by first|rfl|simp[mI]) (by first|rfl|simp[mI]) rfl rfl ?_
     exact eY rL.symm
  ·rw[jh (by omega)]at i2
   have eM:∀ t∈acc,jk g t:=fun t ht=>by
    rw[i2,IF,bz]at ht
    obtain⟨s',h1,h2⟩:=ht
    exact yD hg (k2 _ h1) hx h2
   have vW:acc.length≤10*now.length:=by
    rw[i2];exact CT
   have BN:acc.length≤10 ^ (k+1).toNat:=by
    rw[show(k+1).toNat=k.toNat+1 by omega,dA];omega
   have kI:qd g prog [kf p c]=qd g (prog.drop (k+1).toNat) acc:=by
    rw[k4,lQ k0 hk,qd,← i2,show(k+1).toNat=k.toNat+1 by omega]
   by_cases ha:acc = []
   ·rw[if_pos ha,if_pos ha]
    simp[hi,ha]
    (with_reducible repeat' first|refine Xk ?_<;>try simp|refine Xs ?_ ?_<;>intro h<;>(try intro h')<;>(try simp[h])<;>try omega|refine Xg ?_|omega)
    refine LJ.i (k+1,[]) (by first|rfl|simp[dN]) (by first|rfl|simp[dN]) rfl rfl ?_
    rw[ha]at eM BN kI
    exact eY ⟨eM,BN,kI⟩
   ·rw[if_neg ha,if_neg ha]
    have zP:jv acc=dN 8 eU.cells acc:=J5 ha
    simp[hi]
    (with_reducible repeat' first|refine Xk ?_<;>try simp|refine Xs ?_ ?_<;>intro h<;>(try intro h')<;>(try simp[h])<;>try omega|refine Xg ?_|omega)
    refine LJ.i (k+1,acc) (by first|rfl|simp[zP]) (by first|rfl|simp[zP]) rfl rfl ?_
    exact eY ⟨eM,BN,kI⟩
 ·rw[aR (by omega)]at k4
  rw[k4,qd]at hO
  have h8:now.length≤10 ^ 8:=by omega
  simp[hk]
  (with_reducible repeat' first|refine Xk ?_<;>try simp|refine Xs ?_ ?_<;>intro h<;>(try intro h')<;>(try simp[h])<;>try omega|refine Xg ?_|omega)
  refine eN.e ((0,[]):Int×List fD) (fun y=>[(4,.fn (.func 122) [] [.ptr 1 0 0,.ptr 2 0 0]),(129,nL now),(130,.i now.length),(131,.i y.1)]) (fun y=>uI g p (kf p c) (if y.2 = []then .eG else .eF 10 (y.2.length-1) 6 0 y.2.length)++(if y.2 = []then []else [.row 113 (y.2.length-1) (cl fD.cells y.2)])) (fun y=>0≤y.1∧y.1≤now.length∧y.2=(now.take y.1.toNat).filterMap (mQ p.side)) (fun y=>(now.length-y.1).toNat) ?_ ?_
  ·simp
  rintro⟨i,outs⟩ ⟨i0,i1,i2⟩
  dsimp only at i0 i1 i2 ⊢
  by_cases hi:i<now.length
  ·have ht:=k2 _ (eQ i0 hi)
   have lq:outs.length≤now.length:=by
    rw[i2]
    refine Nat.le_trans (dg ..) ?_
    rw[aT];omega
   have i3:(now.take (i+1).toNat).filterMap (mQ p.side)=outs++(mQ p.side (gt now i)).toList:=by
    rw[gx i0 hi,List.filterMap_append,← i2]
    cases hf:mQ p.side (gt now i)<;>simp[hf]
   by_cases ho:outs = []
   ·rw[if_pos ho,if_pos ho]
    subst ho
    simp[hi]
    (with_reducible repeat' first|refine Xk ?_<;>try simp|refine Xs ?_ ?_<;>intro h<;>(try intro h')<;>(try simp[h])<;>try omega|refine Xg ?_|omega)
    refine fg.lK rfl rfl (Vp g hg p hp (kf p c) (gt now i) ht) ?_
    rintro d H' hH
    cases hf:mQ p.side (gt now i)with
    | none=>
     rw[hf]at hH i3;dsimp only at hH;subst hH
     simp
     (with_reducible repeat' first|refine Xk ?_<;>try simp|refine Xs ?_ ?_<;>intro h<;>(try intro h')<;>(try simp[h])<;>try omega|refine Xg ?_|omega)
     refine LJ.e (i+1,[]) ?_
     exact eY (by rw[i3];rfl)
    | some o=>
     rw[hf]at hH i3;dsimp only at hH;subst hH
     simp
     (with_reducible repeat' first|refine Xk ?_<;>try simp|refine Xs ?_ ?_<;>intro h<;>(try intro h')<;>(try simp[h])<;>try omega|refine Xg ?_|omega)
     refine LJ.e (i+1,[o]) ?_
     exact eY (by rw[i3];rfl)
   ·rw[if_neg ho,if_neg ho]
    simp[hi]
    (with_reducible repeat' first|refine Xk ?_<;>try simp|refine Xs ?_ ?_<;>intro h<;>(try intro h')<;>(try simp[h])<;>try omega|refine Xg ?_|omega)
    refine fg.lK rfl rfl (Vq g hg p hp (kf p c) (gt now i) ht outs (by omega) (az.2 ho)) ?_
    rintro d H' hH
    cases hf:mQ p.side (gt now i)with
    | none=>
     rw[hf]at hH i3;dsimp only at hH;subst hH
     simp
     (with_reducible repeat' first|refine Xk ?_<;>try simp|refine Xs ?_ ?_<;>intro h<;>(try intro h')<;>(try simp[h])<;>try omega|refine Xg ?_|omega)
     refine LJ.i (i+1,outs) (by first|rfl|simp[ho]) (by first|rfl|simp[ho]) rfl rfl ?_
     exact eY (by rw[i3];simp)
    | some o=>
     rw[hf]at hH i3;dsimp only at hH;subst hH
     simp
     (with_reducible repeat' first|refine Xk ?_<;>try simp|refine Xs ?_ ?_<;>intro h<;>(try intro h')<;>(try simp[h])<;>try omega|refine Xg ?_|omega)
     refine LJ.e (i+1,outs ++ [o]) ?_
     exact eY (by rw[i3];rfl)
  ·rw[jh (by omega)]at i2
   rw[← i2]at hO
   subst hO
   by_cases ho:OO = []
   ·rw[if_pos ho,if_pos ho]
    simp[hi,ho]
   ·rw[if_neg ho,if_neg ho]
    simp[hi,ho]
