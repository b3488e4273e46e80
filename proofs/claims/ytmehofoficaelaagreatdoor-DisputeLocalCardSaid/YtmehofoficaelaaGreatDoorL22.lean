/- Part 22 of DisputeLocal. -/
import Derived.Test.YtmehofoficaelaaGreatDoorL21
set_option linter.all false
namespace Go.Proofs.YtmehofoficaelaaGreatDoor
open Go Go.AL Classical
set_option maxRecDepth 10000
set_option maxHeartbeats 8000000
attribute [local simp] nJ
@[simp] theorem akW(l:List fg):closed (dN 8 fg.cells l)=true:=U1 l
def seen(l:List fg):Ob:=.map .str (l.map fun s=>(.string (ni s),.b true))
def z7{g:eY}(hg:gh g){p:Pos}(hp:gG g p):(mJ p).length<1000:=by
 have h1:=hp.size;have h2:=hp.h0.len;have h3:=hp.h1.len;have h4:=hg.iY.size;have h5:=hg.kinds
 rw[xY,vB]
 simp
 omega
theorem y6(x:fg):∀ (l a:List fg),lh a (l ++ [x])=if x∈lh a l then lh a l else lh a l ++ [x]
 | [],a=>rfl
 | y::l,a=>by rw[cL,lh,y6 x l,lh]
@[simp] theorem apW(ρ:Nat→Option Nat)(H:U)(n:Nat):((fun x:Value×D=>(x.1,e7 ρ H n x.2)) ∘ fun s:fg=>((.string (ni s):Value),D.b true))=fun s:fg=>((.string (ni s):Value),D.b true):=by
 funext s;simp
@[simp] theorem aq5(n:Nat)(f:List Nat→List Nat):(f ∘ (fun x:Value×D=>iH n x.2) ∘ fun s:fg=>((.string (ni s):Value),D.b true))=fun _:fg=>f []:=by
 funext s;rfl
@[simp] theorem alH(l:List fg):(l.map fun _=>([]:List Nat)).flatten = []:=by
 induction l<;>simp_all
def Sa(g:eY)(x:fe)(l:List fg)(s:fg):nk g x (l ++ [s])=lh (nk g x l) (im g s x):=by
 simp[nk]
def pV(g:eY):List fe→List fg→List fg
 | [],now=>now
 | x::r,now=>pV g r (nk g x now)
def qN(g:eY)(p:Pos)(c n:Int):List fV:=(pV g (gt (gt g.kinds (fF (gt p.cs c))).iG n) [kF p c]).filterMap (mN p.side)
def f121(g:eY)(hg:gh g)(p:Pos)(hp:gG g p)(c n:Int)(hc:0≤c∧c<p.cs.length)(hs:jo (gt p.cs c)=p.side)(hn:0≤n∧n<(gt g.kinds (fF (gt p.cs c))).iG.length) :
  Wf T 259 [dG g,dP p,.i c,.i n,.fn (.func 260) [] [.ptr 1 0 0,.ptr 2 0 0]] [.row 43 0 g.cells,.row 46 0 p.cells,.row 256 0 [.eU]] (fun d H'=>d = .i 0∧H'=if qN g p c n = []then [.row 43 0 g.cells,.row 46 0 p.cells,.row 256 0 [.eU]]else [.row 43 0 g.cells,.row 46 0 p.cells,.row 256 0 [.eX 3 ((qN g p c n).length-1) 6 0 (qN g p c n).length],.row 259 ((qN g p c n).length-1) (cl fV.cells (qN g p c n))]):=by
 have hz:=hp.size
 have hb:=hg.iY.size
 have hk:=hg.kinds
 have iE:=hp.side
 have iL:=hp.cs _ (ft hc.1 hc.2)
 have B3:0≤fF (gt p.cs c):=by
  unfold jo at hs;unfold fF
  split at hs<;>rename_i h5
  ·rw[if_pos h5];omega
  ·omega
 have hm:fF (gt p.cs c)<g.kinds.length:=uI iL.2 hk.1
 refine Yz AK (iu 127 [1017] (iu 79 [9] (iu 77 [5,6,7] AK.body))) ?_
 simp[AK,iu,jJ,mj,mn,mG,ln]
 refine Yc (f97 g hg p hp) ?_
 simp
 (with_reducible repeat' first|refine Xk ?_<;>try simp|refine Xs ?_ ?_<;>intro h<;>(try intro h')<;>(try simp[h])<;>try omega|refine Xg ?_|omega)
 refine Yc (f84 (gt p.cs c)) ?_
 simp
 simp[hs]
 (with_reducible repeat' first|refine Xk ?_<;>try simp|refine Xs ?_ ?_<;>intro h<;>(try intro h')<;>(try simp[h])<;>try omega|refine Xg ?_|omega)
 have jR:=hp.small hg
 have l0:=hp.h0.len
 have l1:=hp.h1.len
 have q0:=il (l:=p.cs) (n:=c) (v:=0) hc.1 hc.2
 refine Yn (f91 { p:=p,kind:=fF (gt p.cs c),cur:=c,jb:=false } jR (by dsimp only;omega)) ?_
 simp
 (with_reducible repeat' first|refine Xk ?_<;>try simp[q0]|refine Xs ?_ ?_<;>intro h<;>(try intro h')<;>(try simp[h,q0])<;>try omega|refine Xg ?_|omega)
 have pK:tP g (gt (gt g.kinds (fF (gt p.cs c))).iG n):=(hg.iG _ (ft B3 hm)).2 _ (ft hn.1 hn.2)
 have fm:jA g (kF p c):=⟨hp.yB hc.1 (by omega) (by omega),⟨B3,hm⟩,⟨hc.1,by show c<g.size;omega⟩⟩
 have hO:qN g p c n=(pV g (gt (gt g.kinds (fF (gt p.cs c))).iG n) [kF p c]).filterMap (mN p.side):=rfl
 generalize qN g p c n=OO at *
 generalize gt (gt g.kinds (fF (gt p.cs c))).iG n=prog at *
 have iP:=pK.len
 have hq:dN 8 fg.cells [kF p c]=jH [⟨⟨pt p.cs c 0,p.h0,p.h1,p.fH,p.side⟩,fF (gt p.cs c),c,false⟩]:=rfl
 refine fh.s (by simp[q0];rfl) ?_
 refine fh.k ((0,[kF p c]):Int×List fg) (fun y=>[(4,.fn (.func 260) [] [.ptr 1 0 0,.ptr 2 0 0]),(5,.ptr 3 0 0),(14,nJ y.2),(87,gS prog),(88,.i prog.length),(89,.i y.1)]) (fun y=>[.row 43 0 g.cells,.row 46 0 p.cells,.row 256 0 [.eU],.row 43 0 g.cells,.row 46 0 p.cells,.dead,.dead,.dead,.row 330 0 (kF p c).cells,.dead]) (fun y=>0≤y.1∧y.1≤prog.length∧(∀ s∈y.2,jA g s)∧y.2.length≤10 ^ y.1.toNat∧pV g prog [kF p c]=pV g (prog.drop y.1.toNat) y.2) (fun y=>(prog.length-y.1).toNat) ?_ (by simp[hq]) (by simp[q0,kF]) rfl rfl rfl ?_
 ·simp
  exact fm
 rintro⟨k,now⟩ ⟨k0,k1,k2,k3,k4⟩
 dsimp only at k0 k1 k2 k3 k4 ⊢
 have h10:(10:Nat) ^ k.toNat≤10 ^ 8:=b9 (by decide) (by omega)
 by_cases hk:k<prog.length
 ·have hx:=pK.steps _ (ft k0 hk)
  simp[hk]
  (with_reducible repeat' first|refine Xk ?_<;>try simp|refine Xs ?_ ?_<;>intro h<;>(try intro h')<;>(try simp[h])<;>try omega|refine Xg ?_|omega)
  refine fh.e ((0,[]):Int×List fg) (fun y=>[(4,.fn (.func 260) [] [.ptr 1 0 0,.ptr 2 0 0]),(5,.ptr 3 0 0),(16,.ptr 10 0 0),(17,if y.2 = []then .eU else .eX 12 (y.2.length-1) 8 0 y.2.length),(18,.gF 11),(87,gS prog),(88,.i prog.length),(89,.i k),(94,nJ now),(95,.i now.length),(96,.i y.1)]) (fun y=>[.row 43 0 g.cells,.row 46 0 p.cells,.row 256 0 [.eU],.row 43 0 g.cells,.row 46 0 p.cells,.dead,.dead,.dead,.row 330 0 (kF p c).cells,.dead,.row 173 0 [.i (gt prog k).1,.i (gt prog k).2],.map .str (y.2.map fun s=>(.string (ni s),.b true))]++(if y.2 = []then []else [.row 330 (y.2.length-1) (cl fg.cells y.2)])) (fun y=>0≤y.1∧y.1≤now.length∧y.2=nk g (gt prog k) (now.take y.1.toNat)) (fun y=>(now.length-y.1).toNat) ?_ ?_
  ·simp[nk]
  rintro⟨i,acc⟩ ⟨i0,i1,i2⟩
  dsimp only at i0 i1 i2 ⊢
  by_cases hi:i<now.length
  ·have mT:=k2 _ (ft i0 hi)
   by_cases ha:acc = []
   ·rw[if_pos ha,if_pos ha]
    subst ha
    simp[hi]
    (with_reducible repeat' first|refine Xk ?_<;>try simp|refine Xs ?_ ?_<;>intro h<;>(try intro h')<;>(try simp[h])<;>try omega|refine Xg ?_|omega)
    refine fG.inl pS rfl rfl (by simp[pS]) rfl ?_
    simp[pS]
    have gW:(gt prog k).1≠0:=by have:=hx.ok;omega
    simp[gW]
    refine Yc (f164 g hg (gt now i) mT (gt prog k) hx) ?_
    simp
    refine fh.s (by simp;rfl) ?_
    have vT:∀ t∈im g (gt now i) (gt prog k),jA g t:=fun t ht=>yH hg mT hx ht
    have Yx:(im g (gt now i) (gt prog k)).length≤10:=As
    generalize Ky:im g (gt now i) (gt prog k)=ss at *
    refine fh.e ((0,[]):Int×List fg) (fun y=>[(4,.fn (.func 260) [] [.ptr 1 0 0,.ptr 2 0 0]),(5,.ptr 3 0 0),(16,.ptr 10 0 0),(17,if y.2 = []then .eU else .eX 13 (y.2.length-1) 8 0 y.2.length),(18,.gF 11),(87,gS prog),(88,.i prog.length),(89,.i k),(94,nJ now),(95,.i now.length),(96,.i i),(107,dN 8 fg.cells ss),(108,.i ss.length),(109,.i y.1)]) (fun y=>[.row 43 0 g.cells,.row 46 0 p.cells,.row 256 0 [.eU],.row 43 0 g.cells,.row 46 0 p.cells,.dead,.dead,.dead,.row 330 0 (kF p c).cells,.dead,.row 173 0 [.i (gt prog k).1,.i (gt prog k).2],.map .str (y.2.map fun s=>(.string (ni s),.b true)),.row 330 0 (gt now i).cells]++(if y.2 = []then []else [.row 330 (y.2.length-1) (cl fg.cells y.2)])) (fun y=>0≤y.1∧y.1≤ss.length∧y.2=lh [] (ss.take y.1.toNat)) (fun y=>(ss.length-y.1).toNat) ?_ ?_
    ·simp[lh]
    rintro⟨j,A⟩ ⟨j0,j1,j2⟩
    dsimp only at j0 j1 j2 ⊢
    have hA:∀ t∈A,jA g t:=fun t ht=>vT t (by
     rw[j2,A5]at ht
     exact aN (ht.resolve_left (by simp)))
    by_cases hj:j<ss.length
    ·have ht:=vT _ (ft j0 hj)
     have kL:=LL hg ht.p
     by_cases mF:A = []
     ·rw[if_pos mF,if_pos mF]
      subst mF
      simp[hj]
      (with_reducible repeat' first|refine Xk ?_<;>try simp|refine Xs ?_ ?_<;>intro h<;>(try intro h')<;>(try simp[h])<;>try omega|refine Xg ?_|omega)
      refine Yc (f165 (gt ss j) (by have:=ht.kind;omega) (by have:=ht.cur;omega) (by have:=ht.p.size;omega) (z7 hg ht.p)) ?_
      simp
      (with_reducible repeat' first|refine Xk ?_<;>try simp|refine Xs ?_ ?_<;>intro h<;>(try intro h')<;>(try simp[h])<;>try omega|refine Xg ?_|omega)
      refine LJ.i (j+1,[gt ss j]) (by first|rfl|simp[jg]) (by first|rfl|simp[jg]) rfl rfl ?_
      refine fQ ?_
      dsimp only
      rw[iD j0 hj,y6,← j2];simp
     ·rw[if_neg mF,if_neg mF]
      simp[hj]
      (with_reducible repeat' first|refine Xk ?_<;>try simp|refine Xs ?_ ?_<;>intro h<;>(try intro h')<;>(try simp[h])<;>try omega|refine Xg ?_|omega)
      refine Yc (f165 (gt ss j) (by have:=ht.kind;omega) (by have:=ht.cur;omega) (by have:=ht.p.size;omega) (z7 hg ht.p)) ?_
      simp
      simp[L6 hg ht hA]
      by_cases fM:gt ss j∈A
      ·simp[fM]
       (with_reducible repeat' first|refine Xk ?_<;>try simp|refine Xs ?_ ?_<;>intro h<;>(try intro h')<;>(try simp[h])<;>try omega|refine Xg ?_|omega)
       refine LJ.i (j+1,A) (by first|rfl|simp[mF]) (by first|rfl|simp[mF]) rfl rfl ?_
       refine fQ ?_
       dsimp only
       rw[iD j0 hj,y6,← j2,if_pos fM]
      ·have hlA:0<A.length:=ay.2 mF
       have XY:A.length≤ss.length:=by
        have h1:=A4 (a:=[]) (b:=ss.take j.toNat)
        rw[← j2,aI]at h1
        simp at h1
        omega
       simp[fM,Ma hg ht hA fM]
       (with_reducible repeat' first|refine Xk ?_<;>try simp|refine Xs ?_ ?_<;>intro h<;>(try intro h')<;>(try simp[h])<;>try omega|refine Xg ?_|omega)
       refine LJ.i (j+1,A ++ [gt ss j]) (by first|rfl|simp[show A.length-1+1=A.length by omega]) (by first|rfl|simp[show A.length-1+1=A.length by omega]) rfl rfl ?_
       refine fQ ?_
       dsimp only
       rw[iD j0 hj,y6,← j2,if_neg fM]
    ·rw[ky (by omega)]at j2
     have oV:nk g (gt prog k) (now.take (i+1).toNat)=A:=by
      rw[iD i0 hi,Sa,← i2,Ky,j2]
     by_cases mF:A = []
     ·rw[if_pos mF,if_pos mF]
      simp[hj,mF]
      (with_reducible repeat' first|refine Xk ?_<;>try simp|refine Xs ?_ ?_<;>intro h<;>(try intro h')<;>(try simp[h])<;>try omega|refine Xg ?_|omega)
      refine LJ.e (i+1,[]) ?_
      exact fQ (by rw[oV,mF])
     ·rw[if_neg mF,if_neg mF]
      simp[hj]
      (with_reducible repeat' first|refine Xk ?_<;>try simp|refine Xs ?_ ?_<;>intro h<;>(try intro h')<;>(try simp[h])<;>try omega|refine Xg ?_|omega)
      refine LJ.i (i+1,A) (by first|rfl|simp[mF]) (by first|rfl|simp[mF]) rfl rfl ?_
      exact fQ oV.symm
   ·rw[if_neg ha,if_neg ha]
    have Xl:∀ t∈acc,jA g t:=fun t ht=>by
     rw[i2,Ij,bt]at ht
     obtain⟨s',h1,h2⟩:=ht
     exact yH hg (k2 _ (aN h1)) hx h2
    have vM:acc.length≤10*now.length:=by
     rw[i2]
     refine Nat.le_trans CQ ?_
     rw[aI];omega
    have QC:0<acc.length:=ay.2 ha
    simp[hi]
    (with_reducible repeat' first|refine Xk ?_<;>try simp|refine Xs ?_ ?_<;>intro h<;>(try intro h')<;>(try simp[h])<;>try omega|refine Xg ?_|omega)
    refine fG.inl pS rfl rfl (by simp[pS]) rfl ?_
    simp[pS]
    have gW:(gt prog k).1≠0:=by have:=hx.ok;omega
    simp[gW]
    refine Yc (f164 g hg (gt now i) mT (gt prog k) hx) ?_
    simp
    refine fh.s (by simp;rfl) ?_
    have vT:∀ t∈im g (gt now i) (gt prog k),jA g t:=fun t ht=>yH hg mT hx ht
    have Yx:(im g (gt now i) (gt prog k)).length≤10:=As
    generalize Ky:im g (gt now i) (gt prog k)=ss at *
    refine fh.e ((0,acc):Int×List fg) (fun y=>[(4,.fn (.func 260) [] [.ptr 1 0 0,.ptr 2 0 0]),(5,.ptr 3 0 0),(16,.ptr 10 0 0),(17,.eX 12 (y.2.length-1) 8 0 y.2.length),(18,.gF 11),(87,gS prog),(88,.i prog.length),(89,.i k),(94,nJ now),(95,.i now.length),(96,.i i),(107,dN 8 fg.cells ss),(108,.i ss.length),(109,.i y.1)]) (fun y=>[.row 43 0 g.cells,.row 46 0 p.cells,.row 256 0 [.eU],.row 43 0 g.cells,.row 46 0 p.cells,.dead,.dead,.dead,.row 330 0 (kF p c).cells,.dead,.row 173 0 [.i (gt prog k).1,.i (gt prog k).2],.map .str (y.2.map fun s=>(.string (ni s),.b true)),.row 330 (y.2.length-1) (cl fg.cells y.2),.row 330 0 (gt now i).cells]) (fun y=>0≤y.1∧y.1≤ss.length∧y.2=lh acc (ss.take y.1.toNat)∧0<y.2.length) (fun y=>(ss.length-y.1).toNat) ?_ ?_
    ·simp[lh]
     exact QC
    rintro⟨j,A⟩ ⟨j0,j1,j2,j3⟩
    dsimp only at j0 j1 j2 j3 ⊢
    have hA:∀ t∈A,jA g t:=fun t ht=>by
     rw[j2,A5]at ht
     rcases ht with ht|ht
     ·exact Xl t ht
     ·exact vT t (aN ht)
    have XY:A.length≤acc.length+ss.length:=by
     have h1:=A4 (a:=acc) (b:=ss.take j.toNat)
     rw[← j2,aI]at h1
     omega
    by_cases hj:j<ss.length
    ·have ht:=vT _ (ft j0 hj)
     simp[hj]
     (with_reducible repeat' first|refine Xk ?_<;>try simp|refine Xs ?_ ?_<;>intro h<;>(try intro h')<;>(try simp[h])<;>try omega|refine Xg ?_|omega)
     refine Yc (f165 (gt ss j) (by have:=ht.kind;omega) (by have:=ht.cur;omega) (by have:=ht.p.size;omega) (z7 hg ht.p)) ?_
     simp
     simp[L6 hg ht hA]
     by_cases fM:gt ss j∈A
     ·simp[fM]
      (with_reducible repeat' first|refine Xk ?_<;>try simp|refine Xs ?_ ?_<;>intro h<;>(try intro h')<;>(try simp[h])<;>try omega|refine Xg ?_|omega)
      refine LJ.e (j+1,A) ?_
      refine fQ ⟨?_,j3⟩
      dsimp only
      rw[iD j0 hj,y6,← j2,if_pos fM]
     ·simp[fM,Ma hg ht hA fM]
      (with_reducible repeat' first|refine Xk ?_<;>try simp|refine Xs ?_ ?_<;>intro h<;>(try intro h')<;>(try simp[h])<;>try omega|refine Xg ?_|omega)
      refine LJ.i (j+1,A ++ [gt ss j]) (by first|rfl|simp[show A.length-1+1=A.length by omega]) (by first|rfl|simp[show A.length-1+1=A.length by omega]) rfl rfl ?_
      refine fQ ⟨?_,by simp⟩
      dsimp only
      rw[iD j0 hj,y6,← j2,if_neg fM]
    ·rw[ky (by omega)]at j2
     have oV:nk g (gt prog k) (now.take (i+1).toNat)=A:=by
      rw[iD i0 hi,Sa,← i2,Ky,j2]
     have mF:A≠[]:=ay.1 j3
     simp[hj]
     (with_reducible repeat' first|refine Xk ?_<;>try simp|refine Xs ?_ ?_<;>intro h<;>(try intro h')<;>(try simp[h])<;>try omega|refine Xg ?_|omega)
     refine LJ.i (i+1,A) (by first|rfl|simp[mF]) (by first|rfl|simp[mF]) rfl rfl ?_
     exact fQ oV.symm
  ·rw[ky (by omega)]at i2
   have eZ:∀ t∈acc,jA g t:=fun t ht=>by
    rw[i2,Ij,bt]at ht
    obtain⟨s',h1,h2⟩:=ht
    exact yH hg (k2 _ h1) hx h2
   have vM:acc.length≤10*now.length:=by
    rw[i2];exact CQ
   have xt:acc.length≤10 ^ (k+1).toNat:=by
    rw[show(k+1).toNat=k.toNat+1 by omega,dE];omega
   have mu:pV g prog [kF p c]=pV g (prog.drop (k+1).toNat) acc:=by
    rw[k4,mM k0 hk,pV,← i2,show(k+1).toNat=k.toNat+1 by omega]
   by_cases ha:acc = []
   ·rw[if_pos ha,if_pos ha]
    simp[hi,ha]
    (with_reducible repeat' first|refine Xk ?_<;>try simp|refine Xs ?_ ?_<;>intro h<;>(try intro h')<;>(try simp[h])<;>try omega|refine Xg ?_|omega)
    refine LJ.i (k+1,[]) (by first|rfl|simp[dN]) (by first|rfl|simp[dN]) rfl rfl ?_
    rw[ha]at eZ xt mu
    exact fQ ⟨eZ,xt,mu⟩
   ·rw[if_neg ha,if_neg ha]
    have r9:jH acc=dN 8 fg.cells acc:=JO ha
    simp[hi]
    (with_reducible repeat' first|refine Xk ?_<;>try simp|refine Xs ?_ ?_<;>intro h<;>(try intro h')<;>(try simp[h])<;>try omega|refine Xg ?_|omega)
    refine LJ.i (k+1,acc) (by first|rfl|simp[r9]) (by first|rfl|simp[r9]) rfl rfl ?_
    exact fQ ⟨eZ,xt,mu⟩
 ·rw[bh (by omega)]at k4
  rw[k4,pV]at hO
  have h8:now.length≤10 ^ 8:=by omega
  simp[hk]
  (with_reducible repeat' first|refine Xk ?_<;>try simp|refine Xs ?_ ?_<;>intro h<;>(try intro h')<;>(try simp[h])<;>try omega|refine Xg ?_|omega)
  refine fh.e ((0,[]):Int×List fV) (fun y=>[(4,.fn (.func 260) [] [.ptr 1 0 0,.ptr 2 0 0]),(129,nJ now),(130,.i now.length),(131,.i y.1)]) (fun y=>uf g p (kF p c) (if y.2 = []then .eU else .eX 10 (y.2.length-1) 6 0 y.2.length)++(if y.2 = []then []else [.row 259 (y.2.length-1) (cl fV.cells y.2)])) (fun y=>0≤y.1∧y.1≤now.length∧y.2=(now.take y.1.toNat).filterMap (mN p.side)) (fun y=>(now.length-y.1).toNat) ?_ ?_
  ·simp
  rintro⟨i,outs⟩ ⟨i0,i1,i2⟩
  dsimp only at i0 i1 i2 ⊢
  by_cases hi:i<now.length
  ·have ht:=k2 _ (ft i0 hi)
   have mq:outs.length≤now.length:=by
    rw[i2]
    refine Nat.le_trans (dg ..) ?_
    rw[aI];omega
   have i3:(now.take (i+1).toNat).filterMap (mN p.side)=outs++(mN p.side (gt now i)).toList:=by
    rw[iD i0 hi,List.filterMap_append,← i2]
    cases hf:mN p.side (gt now i)<;>simp[hf]
   by_cases ho:outs = []
   ·rw[if_pos ho,if_pos ho]
    subst ho
    simp[hi]
    (with_reducible repeat' first|refine Xk ?_<;>try simp|refine Xs ?_ ?_<;>intro h<;>(try intro h')<;>(try simp[h])<;>try omega|refine Xg ?_|omega)
    refine fG.rr rfl rfl (V6 g hg p hp (kF p c) (gt now i) ht) ?_
    rintro d H' hH
    cases hf:mN p.side (gt now i)with
    | none=>
     rw[hf]at hH i3;dsimp only at hH;subst hH
     simp
     (with_reducible repeat' first|refine Xk ?_<;>try simp|refine Xs ?_ ?_<;>intro h<;>(try intro h')<;>(try simp[h])<;>try omega|refine Xg ?_|omega)
     refine LJ.e (i+1,[]) ?_
     exact fQ (by rw[i3];rfl)
    | some o=>
     rw[hf]at hH i3;dsimp only at hH;subst hH
     simp
     (with_reducible repeat' first|refine Xk ?_<;>try simp|refine Xs ?_ ?_<;>intro h<;>(try intro h')<;>(try simp[h])<;>try omega|refine Xg ?_|omega)
     refine LJ.e (i+1,[o]) ?_
     exact fQ (by rw[i3];rfl)
   ·rw[if_neg ho,if_neg ho]
    simp[hi]
    (with_reducible repeat' first|refine Xk ?_<;>try simp|refine Xs ?_ ?_<;>intro h<;>(try intro h')<;>(try simp[h])<;>try omega|refine Xg ?_|omega)
    refine fG.rr rfl rfl (V7 g hg p hp (kF p c) (gt now i) ht outs (by omega) (ay.2 ho)) ?_
    rintro d H' hH
    cases hf:mN p.side (gt now i)with
    | none=>
     rw[hf]at hH i3;dsimp only at hH;subst hH
     simp
     (with_reducible repeat' first|refine Xk ?_<;>try simp|refine Xs ?_ ?_<;>intro h<;>(try intro h')<;>(try simp[h])<;>try omega|refine Xg ?_|omega)
     refine LJ.i (i+1,outs) (by first|rfl|simp[ho]) (by first|rfl|simp[ho]) rfl rfl ?_
     exact fQ (by rw[i3];simp)
    | some o=>
     rw[hf]at hH i3;dsimp only at hH;subst hH
     simp
     (with_reducible repeat' first|refine Xk ?_<;>try simp|refine Xs ?_ ?_<;>intro h<;>(try intro h')<;>(try simp[h])<;>try omega|refine Xg ?_|omega)
     refine LJ.e (i+1,outs ++ [o]) ?_
     exact fQ (by rw[i3];rfl)
  ·rw[ky (by omega)]at i2
   rw[← i2]at hO
   subst hO
   by_cases ho:OO = []
   ·rw[if_pos ho,if_pos ho]
    simp[hi,ho]
   ·rw[if_neg ho,if_neg ho]
    simp[hi,ho]
