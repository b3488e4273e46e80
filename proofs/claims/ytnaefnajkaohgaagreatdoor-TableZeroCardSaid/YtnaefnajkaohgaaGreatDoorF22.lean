/- Part 22 of the proof of skewer.skewerlaw15.TableZero. -/
import Derived.Test.YtnaefnajkaohgaaGreatDoorF20
import Derived.Test.YtnaefnajkaohgaaGreatDoorF21
import Derived.Test.YtnaefnajkaohgaaGreatDoorF19
import Derived.Test.YtnaefnajkaohgaaGreatDoorF13
set_option linter.all false
namespace Go.Proofs.YtnaefnajkaohgaaGreatDoor
open Go Go.AL Classical
set_option maxRecDepth 10000
set_option maxHeartbeats 8000000
attribute [local simp] lj
@[simp] theorem ad9(l:List eD):closed (dN 8 eD.cells l)=true:=OS l
def seen(l:List eD):Ob:=.map .str (l.map fun s=>(.string (kS s),.b true))
theorem vW{g:ew}(hg:eU g){p:Pos}(hp:fj g p):(kF p).length<1000:=by
 have h1:=hp.size;have h2:=hp.h0.len;have h3:=hp.h1.len;have h4:=hg.gF.size;have h5:=hg.kinds
 rw[uj,sh]
 simp
 omega
theorem vb(x:eD):∀ (l a:List eD),jm a (l ++ [x])=if x∈jm a l then jm a l else jm a l ++ [x]
 | [],a=>rfl
 | y::l,a=>by rw[ct,jm,vb x l,jm]
@[simp] theorem aiY(ρ:Nat→Option Nat)(H:U)(n:Nat):((fun x:Value×D=>(x.1,eB ρ H n x.2)) ∘ fun s:eD=>((.string (kS s):Value),D.b true))=fun s:eD=>((.string (kS s):Value),D.b true):=by
 funext s;simp
@[simp] theorem ajZ(n:Nat)(f:List Nat→List Nat):(f ∘ (fun x:Value×D=>gx n x.2) ∘ fun s:eD=>((.string (kS s):Value),D.b true))=fun _:eD=>f []:=by
 funext s;rfl
@[simp] theorem aeR(l:List eD):(l.map fun _=>([]:List Nat)).flatten = []:=by
 induction l<;>simp_all
theorem MA(g:ew)(x:eG)(l:List eD)(s:eD):kU g x (l ++ [s])=jm (kU g x l) (fZ g s x):=by
 simp[kU]
def nu(g:ew):List eG→List eD→List eD
 | [],now=>now
 | x::r,now=>nu g r (kU g x now)
def ox(g:ew)(p:Pos)(c n:Int):List eW:=(nu g (gt (gt g.kinds (eR (gt p.cs c))).fW n) [iU p c]).filterMap (kJ p.side)
theorem f121(g:ew)(hg:eU g)(p:Pos)(hp:fj g p)(c n:Int)(hc:0≤c∧c<p.cs.length)(hs:gR (gt p.cs c)=p.side)(hn:0≤n∧n<(gt g.kinds (eR (gt p.cs c))).fW.length) :
  Wf T 121 [dG g,dP p,.i c,.i n,.fn (.func 122) [] [.ptr 1 0 0,.ptr 2 0 0]] [.row 41 0 g.cells,.row 44 0 p.cells,.row 164 0 [.emp]] (fun d H'=>d = .i 0∧H'=if ox g p c n = []then [.row 41 0 g.cells,.row 44 0 p.cells,.row 164 0 [.emp]]else [.row 41 0 g.cells,.row 44 0 p.cells,.row 164 0 [.et 3 ((ox g p c n).length-1) 6 0 (ox g p c n).length],.row 113 ((ox g p c n).length-1) (cl eW.cells (ox g p c n))]):=by
 have hz:=hp.size
 have hb:=hg.gF.size
 have hk:=hg.kinds
 have gp:=hp.side
 have gC:=hp.cs _ (eI hc.1 hc.2)
 have ye:0≤eR (gt p.cs c):=by
  unfold gR at hs;unfold eR
  split at hs<;>rename_i h5
  ·rw[if_pos h5];omega
  ·omega
 have hm:eR (gt p.cs c)<g.kinds.length:=rp gC.2 hk.1
 refine Yz wK (gj 127 [1017] (gj 79 [9] (gj 77 [5,6,7] wK.body))) ?_
 simp[wK,gj,iw,ky,kA,kK,jy]
 refine Yc (f97 g hg p hp) ?_
 simp
 (with_reducible repeat' first|refine Xk ?_<;>try simp|refine Xs ?_ ?_<;>intro h<;>(try intro h')<;>(try simp[h])<;>(try omega)|refine Xg ?_|omega)
 refine Yc (f84 (gt p.cs c)) ?_
 simp
 simp[hs]
 (with_reducible repeat' first|refine Xk ?_<;>try simp|refine Xs ?_ ?_<;>intro h<;>(try intro h')<;>(try simp[h])<;>(try omega)|refine Xg ?_|omega)
 have iv:=hp.small hg
 have l0:=hp.h0.len
 have l1:=hp.h1.len
 have q0:=fX (l:=p.cs) (n:=c) (v:=0) hc.1 hc.2
 refine Yn (f91 { p:=p,kind:=eR (gt p.cs c),cur:=c,gL:=false } iv (by dsimp only;omega)) ?_
 simp
 (with_reducible repeat' first|refine Xk ?_<;>try simp[q0]|refine Xs ?_ ?_<;>intro h<;>(try intro h')<;>(try simp[h,q0])<;>(try omega)|refine Xg ?_|omega)
 have nc:qJ g (gt (gt g.kinds (eR (gt p.cs c))).fW n):=(hg.fW _ (eI ye hm)).2 _ (eI hn.1 hn.2)
 have eH:gZ g (iU p c):=⟨hp.uN hc.1 (by omega) (by omega),⟨ye,hm⟩,⟨hc.1,by show c<g.size;omega⟩⟩
 have hO:ox g p c n=(nu g (gt (gt g.kinds (eR (gt p.cs c))).fW n) [iU p c]).filterMap (kJ p.side):=rfl
 generalize ox g p c n=OO at *
 generalize gt (gt g.kinds (eR (gt p.cs c))).fW n=prog at *
 have gI:=nc.len
 have hq:dN 8 eD.cells [iU p c]=ij [⟨⟨pt p.cs c 0,p.h0,p.h1,p.eQ,p.side⟩,eR (gt p.cs c),c,false⟩]:=rfl
 refine eE.s (by simp[q0];rfl) ?_
 refine eE.k ((0,[iU p c]):Int×List eD) (fun y=>[(4,.fn (.func 122) [] [.ptr 1 0 0,.ptr 2 0 0]),(5,.ptr 3 0 0),(14,lj y.2),(87,fq prog),(88,.i prog.length),(89,.i y.1)]) (fun y=>[.row 41 0 g.cells,.row 44 0 p.cells,.row 164 0 [.emp],.row 41 0 g.cells,.row 44 0 p.cells,.dead,.dead,.dead,.row 171 0 (iU p c).cells,.dead]) (fun y=>0≤y.1∧y.1≤prog.length∧(∀ s∈y.2,gZ g s)∧y.2.length≤10 ^ y.1.toNat∧nu g prog [iU p c]=nu g (prog.drop y.1.toNat) y.2) (fun y=>(prog.length-y.1).toNat) ?_ (by simp[hq]) (by simp[q0,iU]) rfl rfl rfl ?_
 ·simp
  exact eH
 rintro⟨k,now⟩ ⟨k0,k1,k2,k3,k4⟩
 dsimp only at k0 k1 k2 k3 k4 ⊢
 have h10:(10:Nat) ^ k.toNat≤10 ^ 8:=bX (by decide) (by omega)
 by_cases hk:k<prog.length
 ·have hx:=nc.steps _ (eI k0 hk)
  simp[hk]
  (with_reducible repeat' first|refine Xk ?_<;>try simp|refine Xs ?_ ?_<;>intro h<;>(try intro h')<;>(try simp[h])<;>(try omega)|refine Xg ?_|omega)
  refine eE.e ((0,[]):Int×List eD) (fun y=>[(4,.fn (.func 122) [] [.ptr 1 0 0,.ptr 2 0 0]),(5,.ptr 3 0 0),(16,.ptr 10 0 0),(17,if y.2 = []then .emp else .et 12 (y.2.length-1) 8 0 y.2.length),(18,.omap 11),(87,fq prog),(88,.i prog.length),(89,.i k),(94,lj now),(95,.i now.length),(96,.i y.1)]) (fun y=>[.row 41 0 g.cells,.row 44 0 p.cells,.row 164 0 [.emp],.row 41 0 g.cells,.row 44 0 p.cells,.dead,.dead,.dead,.row 171 0 (iU p c).cells,.dead,.row 82 0 [.i (gt prog k).1,.i (gt prog k).2],.map .str (y.2.map fun s=>(.string (kS s),.b true))]++(if y.2 = []then []else [.row 171 (y.2.length-1) (cl eD.cells y.2)])) (fun y=>0≤y.1∧y.1≤now.length∧y.2=kU g (gt prog k) (now.take y.1.toNat)) (fun y=>(now.length-y.1).toNat) ?_ ?_
  ·simp[kU]
  rintro⟨i,acc⟩ ⟨i0,i1,i2⟩
  dsimp only at i0 i1 i2 ⊢
  by_cases hi:i<now.length
  ·have kL:=k2 _ (eI i0 hi)
   by_cases ha:acc = []
   ·rw[if_pos ha,if_pos ha]
    subst ha
    simp[hi]
    (with_reducible repeat' first|refine Xk ?_<;>try simp|refine Xs ?_ ?_<;>intro h<;>(try intro h')<;>(try simp[h])<;>(try omega)|refine Xg ?_|omega)
    refine eS.inl np rfl rfl (by simp[np]) rfl ?_
    simp[np]
    have fG:(gt prog k).1≠0:=by have:=hx.ok;omega
    simp[fG]
    refine Yc (f164 g hg (gt now i) kL (gt prog k) hx) ?_
    simp
    refine eE.s (by simp;rfl) ?_
    have sH:∀ t∈fZ g (gt now i) (gt prog k),gZ g t:=fun t ht=>uS hg kL hx ht
    have RW:(fZ g (gt now i) (gt prog k)).length≤10:=wC
    generalize F0:fZ g (gt now i) (gt prog k)=ss at *
    refine eE.e ((0,[]):Int×List eD) (fun y=>[(4,.fn (.func 122) [] [.ptr 1 0 0,.ptr 2 0 0]),(5,.ptr 3 0 0),(16,.ptr 10 0 0),(17,if y.2 = []then .emp else .et 13 (y.2.length-1) 8 0 y.2.length),(18,.omap 11),(87,fq prog),(88,.i prog.length),(89,.i k),(94,lj now),(95,.i now.length),(96,.i i),(107,dN 8 eD.cells ss),(108,.i ss.length),(109,.i y.1)]) (fun y=>[.row 41 0 g.cells,.row 44 0 p.cells,.row 164 0 [.emp],.row 41 0 g.cells,.row 44 0 p.cells,.dead,.dead,.dead,.row 171 0 (iU p c).cells,.dead,.row 82 0 [.i (gt prog k).1,.i (gt prog k).2],.map .str (y.2.map fun s=>(.string (kS s),.b true)),.row 171 0 (gt now i).cells]++(if y.2 = []then []else [.row 171 (y.2.length-1) (cl eD.cells y.2)])) (fun y=>0≤y.1∧y.1≤ss.length∧y.2=jm [] (ss.take y.1.toNat)) (fun y=>(ss.length-y.1).toNat) ?_ ?_
    ·simp[jm]
    rintro⟨j,A⟩ ⟨j0,j1,j2⟩
    dsimp only at j0 j1 j2 ⊢
    have hA:∀ t∈A,gZ g t:=fun t ht=>sH t (by
     rw[j2,xb]at ht
     exact aN (ht.resolve_left (by simp)))
    by_cases hj:j<ss.length
    ·have ht:=sH _ (eI j0 hj)
     have jr:=G5 hg ht.p
     by_cases kC:A = []
     ·rw[if_pos kC,if_pos kC]
      subst kC
      simp[hj]
      (with_reducible repeat' first|refine Xk ?_<;>try simp|refine Xs ?_ ?_<;>intro h<;>(try intro h')<;>(try simp[h])<;>(try omega)|refine Xg ?_|omega)
      refine Yc (f165 (gt ss j) (by have:=ht.kind;omega) (by have:=ht.cur;omega) (by have:=ht.p.size;omega) (vW hg ht.p)) ?_
      simp
      (with_reducible repeat' first|refine Xk ?_<;>try simp|refine Xs ?_ ?_<;>intro h<;>(try intro h')<;>(try simp[h])<;>(try omega)|refine Xg ?_|omega)
      refine LJ.i (j+1,[gt ss j]) (by first|rfl|simp[gV]) (by first|rfl|simp[gV]) rfl rfl ?_
      refine⟨by dsimp only;omega,by dsimp only;omega,by dsimp only;omega,?_⟩
      dsimp only
      rw[gg j0 hj,vb,← j2];simp
     ·rw[if_neg kC,if_neg kC]
      simp[hj]
      (with_reducible repeat' first|refine Xk ?_<;>try simp|refine Xs ?_ ?_<;>intro h<;>(try intro h')<;>(try simp[h])<;>(try omega)|refine Xg ?_|omega)
      refine Yc (f165 (gt ss j) (by have:=ht.kind;omega) (by have:=ht.cur;omega) (by have:=ht.p.size;omega) (vW hg ht.p)) ?_
      simp
      simp[Hj hg ht hA]
      by_cases fg:gt ss j∈A
      ·simp[fg]
       (with_reducible repeat' first|refine Xk ?_<;>try simp|refine Xs ?_ ?_<;>intro h<;>(try intro h')<;>(try simp[h])<;>(try omega)|refine Xg ?_|omega)
       refine LJ.i (j+1,A) (by first|rfl|simp[kC]) (by first|rfl|simp[kC]) rfl rfl ?_
       refine⟨by dsimp only;omega,by dsimp only;omega,by dsimp only;omega,?_⟩
       dsimp only
       rw[gg j0 hj,vb,← j2,if_pos fg]
      ·have hlA:0<A.length:=aB.2 kC
       have Rm:A.length≤ss.length:=by
        have h1:=xa (a:=[]) (b:=ss.take j.toNat)
        rw[← j2,aP]at h1
        simp at h1
        omega
       simp[fg,Hm hg ht hA fg]
       (with_reducible repeat' first|refine Xk ?_<;>try simp|refine Xs ?_ ?_<;>intro h<;>(try intro h')<;>(try simp[h])<;>(try omega)|refine Xg ?_|omega)
       refine LJ.i (j+1,A ++ [gt ss j]) (by first|rfl|simp[show A.length-1+1=A.length by omega]) (by first|rfl|simp[show A.length-1+1=A.length by omega]) rfl rfl ?_
       refine⟨by dsimp only;omega,by dsimp only;omega,by dsimp only;omega,?_⟩
       dsimp only
       rw[gg j0 hj,vb,← j2,if_neg fg]
    ·rw[iD (by omega)]at j2
     have qh:kU g (gt prog k) (now.take (i+1).toNat)=A:=by
      rw[gg i0 hi,MA,← i2,F0,j2]
     by_cases kC:A = []
     ·rw[if_pos kC,if_pos kC]
      simp[hj,kC]
      (with_reducible repeat' first|refine Xk ?_<;>try simp|refine Xs ?_ ?_<;>intro h<;>(try intro h')<;>(try simp[h])<;>(try omega)|refine Xg ?_|omega)
      refine LJ.e (i+1,[]) ?_
      exact⟨by dsimp only;omega,by dsimp only;omega,by dsimp only;omega,by rw[qh,kC]⟩
     ·rw[if_neg kC,if_neg kC]
      simp[hj]
      (with_reducible repeat' first|refine Xk ?_<;>try simp|refine Xs ?_ ?_<;>intro h<;>(try intro h')<;>(try simp[h])<;>(try omega)|refine Xg ?_|omega)
      refine LJ.i (i+1,A) (by first|rfl|simp[kC]) (by first|rfl|simp[kC]) rfl rfl ?_
      exact⟨by dsimp only;omega,by dsimp only;omega,by dsimp only;omega,qh.symm⟩
   ·rw[if_neg ha,if_neg ha]
    have QE:∀ t∈acc,gZ g t:=fun t ht=>by
     rw[i2,DT,bn]at ht
     obtain⟨s',h1,h2⟩:=ht
     exact uS hg (k2 _ (aN h1)) hx h2
    have sB:acc.length≤10*now.length:=by
     rw[i2]
     refine Nat.le_trans yV ?_
     rw[aP];omega
    have K7:0<acc.length:=aB.2 ha
    simp[hi]
    (with_reducible repeat' first|refine Xk ?_<;>try simp|refine Xs ?_ ?_<;>intro h<;>(try intro h')<;>(try simp[h])<;>(try omega)|refine Xg ?_|omega)
    refine eS.inl np rfl rfl (by simp[np]) rfl ?_
    simp[np]
    have fG:(gt prog k).1≠0:=by have:=hx.ok;omega
    simp[fG]
    refine Yc (f164 g hg (gt now i) kL (gt prog k) hx) ?_
    simp
    refine eE.s (by simp;rfl) ?_
    have sH:∀ t∈fZ g (gt now i) (gt prog k),gZ g t:=fun t ht=>uS hg kL hx ht
    have RW:(fZ g (gt now i) (gt prog k)).length≤10:=wC
    generalize F0:fZ g (gt now i) (gt prog k)=ss at *
    refine eE.e ((0,acc):Int×List eD) (fun y=>[(4,.fn (.func 122) [] [.ptr 1 0 0,.ptr 2 0 0]),(5,.ptr 3 0 0),(16,.ptr 10 0 0),(17,.et 12 (y.2.length-1) 8 0 y.2.length),(18,.omap 11),(87,fq prog),(88,.i prog.length),(89,.i k),(94,lj now),(95,.i now.length),(96,.i i),(107,dN 8 eD.cells ss),(108,.i ss.length),(109,.i y.1)]) (fun y=>[.row 41 0 g.cells,.row 44 0 p.cells,.row 164 0 [.emp],.row 41 0 g.cells,.row 44 0 p.cells,.dead,.dead,.dead,.row 171 0 (iU p c).cells,.dead,.row 82 0 [.i (gt prog k).1,.i (gt prog k).2],.map .str (y.2.map fun s=>(.string (kS s),.b true)),.row 171 (y.2.length-1) (cl eD.cells y.2),.row 171 0 (gt now i).cells]) (fun y=>0≤y.1∧y.1≤ss.length∧y.2=jm acc (ss.take y.1.toNat)∧0<y.2.length) (fun y=>(ss.length-y.1).toNat) ?_ ?_
    ·simp[jm]
     exact K7
    rintro⟨j,A⟩ ⟨j0,j1,j2,j3⟩
    dsimp only at j0 j1 j2 j3 ⊢
    have hA:∀ t∈A,gZ g t:=fun t ht=>by
     rw[j2,xb]at ht
     rcases ht with ht|ht
     ·exact QE t ht
     ·exact sH t (aN ht)
    have Rm:A.length≤acc.length+ss.length:=by
     have h1:=xa (a:=acc) (b:=ss.take j.toNat)
     rw[← j2,aP]at h1
     omega
    by_cases hj:j<ss.length
    ·have ht:=sH _ (eI j0 hj)
     simp[hj]
     (with_reducible repeat' first|refine Xk ?_<;>try simp|refine Xs ?_ ?_<;>intro h<;>(try intro h')<;>(try simp[h])<;>(try omega)|refine Xg ?_|omega)
     refine Yc (f165 (gt ss j) (by have:=ht.kind;omega) (by have:=ht.cur;omega) (by have:=ht.p.size;omega) (vW hg ht.p)) ?_
     simp
     simp[Hj hg ht hA]
     by_cases fg:gt ss j∈A
     ·simp[fg]
      (with_reducible repeat' first|refine Xk ?_<;>try simp|refine Xs ?_ ?_<;>intro h<;>(try intro h')<;>(try simp[h])<;>(try omega)|refine Xg ?_|omega)
      refine LJ.e (j+1,A) ?_
      refine⟨by dsimp only;omega,by dsimp only;omega,by dsimp only;omega,?_,j3⟩
      dsimp only
      rw[gg j0 hj,vb,← j2,if_pos fg]
     ·simp[fg,Hm hg ht hA fg]
      (with_reducible repeat' first|refine Xk ?_<;>try simp|refine Xs ?_ ?_<;>intro h<;>(try intro h')<;>(try simp[h])<;>(try omega)|refine Xg ?_|omega)
      refine LJ.i (j+1,A ++ [gt ss j]) (by first|rfl|simp[show A.length-1+1=A.length by omega]) (by first|rfl|simp[show A.length-1+1=A.length by omega]) rfl rfl ?_
      refine⟨by dsimp only;omega,by dsimp only;omega,by dsimp only;omega,?_,by simp⟩
      dsimp only
      rw[gg j0 hj,vb,← j2,if_neg fg]
    ·rw[iD (by omega)]at j2
     have qh:kU g (gt prog k) (now.take (i+1).toNat)=A:=by
      rw[gg i0 hi,MA,← i2,F0,j2]
     have kC:A≠[]:=aB.1 j3
     simp[hj]
     (with_reducible repeat' first|refine Xk ?_<;>try simp|refine Xs ?_ ?_<;>intro h<;>(try intro h')<;>(try simp[h])<;>(try omega)|refine Xg ?_|omega)
     refine LJ.i (i+1,A) (by first|rfl|simp[kC]) (by first|rfl|simp[kC]) rfl rfl ?_
     exact⟨by dsimp only;omega,by dsimp only;omega,by dsimp only;omega,qh.symm⟩
  ·rw[iD (by omega)]at i2
   have eA:∀ t∈acc,gZ g t:=fun t ht=>by
    rw[i2,DT,bn]at ht
    obtain⟨s',h1,h2⟩:=ht
    exact uS hg (k2 _ h1) hx h2
   have sB:acc.length≤10*now.length:=by
    rw[i2];exact yV
   have xP:acc.length≤10 ^ (k+1).toNat:=by
    rw[show(k+1).toNat=k.toNat+1 by omega,dm];omega
   have mg:nu g prog [iU p c]=nu g (prog.drop (k+1).toNat) acc:=by
    rw[k4,kI k0 hk,nu,← i2,show(k+1).toNat=k.toNat+1 by omega]
   by_cases ha:acc = []
   ·rw[if_pos ha,if_pos ha]
    simp[hi,ha]
    (with_reducible repeat' first|refine Xk ?_<;>try simp|refine Xs ?_ ?_<;>intro h<;>(try intro h')<;>(try simp[h])<;>(try omega)|refine Xg ?_|omega)
    refine LJ.i (k+1,[]) (by first|rfl|simp[dN]) (by first|rfl|simp[dN]) rfl rfl ?_
    rw[ha]at eA xP mg
    exact⟨by dsimp only;omega,by dsimp only;omega,by dsimp only;omega,eA,xP,mg⟩
   ·rw[if_neg ha,if_neg ha]
    have vO:ij acc=dN 8 eD.cells acc:=Fk ha
    simp[hi]
    (with_reducible repeat' first|refine Xk ?_<;>try simp|refine Xs ?_ ?_<;>intro h<;>(try intro h')<;>(try simp[h])<;>(try omega)|refine Xg ?_|omega)
    refine LJ.i (k+1,acc) (by first|rfl|simp[vO]) (by first|rfl|simp[vO]) rfl rfl ?_
    exact⟨by dsimp only;omega,by dsimp only;omega,by dsimp only;omega,eA,xP,mg⟩
 ·rw[aZ (by omega)]at k4
  rw[k4,nu]at hO
  have h8:now.length≤10 ^ 8:=by omega
  simp[hk]
  (with_reducible repeat' first|refine Xk ?_<;>try simp|refine Xs ?_ ?_<;>intro h<;>(try intro h')<;>(try simp[h])<;>(try omega)|refine Xg ?_|omega)
  refine eE.e ((0,[]):Int×List eW) (fun y=>[(4,.fn (.func 122) [] [.ptr 1 0 0,.ptr 2 0 0]),(129,lj now),(130,.i now.length),(131,.i y.1)]) (fun y=>qX g p (iU p c) (if y.2 = []then .emp else .et 10 (y.2.length-1) 6 0 y.2.length)++(if y.2 = []then []else [.row 113 (y.2.length-1) (cl eW.cells y.2)])) (fun y=>0≤y.1∧y.1≤now.length∧y.2=(now.take y.1.toNat).filterMap (kJ p.side)) (fun y=>(now.length-y.1).toNat) ?_ ?_
  ·simp
  rintro⟨i,outs⟩ ⟨i0,i1,i2⟩
  dsimp only at i0 i1 i2 ⊢
  by_cases hi:i<now.length
  ·have ht:=k2 _ (eI i0 hi)
   have j':outs.length≤now.length:=by
    rw[i2]
    refine Nat.le_trans (cP ..) ?_
    rw[aP];omega
   have i3:(now.take (i+1).toNat).filterMap (kJ p.side)=outs++(kJ p.side (gt now i)).toList:=by
    rw[gg i0 hi,List.filterMap_append,← i2]
    cases hf:kJ p.side (gt now i)<;>simp[hf]
   by_cases ho:outs = []
   ·rw[if_pos ho,if_pos ho]
    subst ho
    simp[hi]
    (with_reducible repeat' first|refine Xk ?_<;>try simp|refine Xs ?_ ?_<;>intro h<;>(try intro h')<;>(try simp[h])<;>(try omega)|refine Xg ?_|omega)
    refine eS.km rfl rfl (Px g hg p hp (iU p c) (gt now i) ht) ?_
    rintro d H' hH
    cases hf:kJ p.side (gt now i)with
    | none=>
     rw[hf]at hH i3;dsimp only at hH;subst hH
     simp
     (with_reducible repeat' first|refine Xk ?_<;>try simp|refine Xs ?_ ?_<;>intro h<;>(try intro h')<;>(try simp[h])<;>(try omega)|refine Xg ?_|omega)
     refine LJ.e (i+1,[]) ?_
     exact⟨by dsimp only;omega,by dsimp only;omega,by dsimp only;omega,by rw[i3];rfl⟩
    | some o=>
     rw[hf]at hH i3;dsimp only at hH;subst hH
     simp
     (with_reducible repeat' first|refine Xk ?_<;>try simp|refine Xs ?_ ?_<;>intro h<;>(try intro h')<;>(try simp[h])<;>(try omega)|refine Xg ?_|omega)
     refine LJ.e (i+1,[o]) ?_
     exact⟨by dsimp only;omega,by dsimp only;omega,by dsimp only;omega,by rw[i3];rfl⟩
   ·rw[if_neg ho,if_neg ho]
    simp[hi]
    (with_reducible repeat' first|refine Xk ?_<;>try simp|refine Xs ?_ ?_<;>intro h<;>(try intro h')<;>(try simp[h])<;>(try omega)|refine Xg ?_|omega)
    refine eS.km rfl rfl (Py g hg p hp (iU p c) (gt now i) ht outs (by omega) (aB.2 ho)) ?_
    rintro d H' hH
    cases hf:kJ p.side (gt now i)with
    | none=>
     rw[hf]at hH i3;dsimp only at hH;subst hH
     simp
     (with_reducible repeat' first|refine Xk ?_<;>try simp|refine Xs ?_ ?_<;>intro h<;>(try intro h')<;>(try simp[h])<;>(try omega)|refine Xg ?_|omega)
     refine LJ.i (i+1,outs) (by first|rfl|simp[ho]) (by first|rfl|simp[ho]) rfl rfl ?_
     exact⟨by dsimp only;omega,by dsimp only;omega,by dsimp only;omega,by rw[i3];simp⟩
    | some o=>
     rw[hf]at hH i3;dsimp only at hH;subst hH
     simp
     (with_reducible repeat' first|refine Xk ?_<;>try simp|refine Xs ?_ ?_<;>intro h<;>(try intro h')<;>(try simp[h])<;>(try omega)|refine Xg ?_|omega)
     refine LJ.e (i+1,outs ++ [o]) ?_
     exact⟨by dsimp only;omega,by dsimp only;omega,by dsimp only;omega,by rw[i3];rfl⟩
  ·rw[iD (by omega)]at i2
   rw[← i2]at hO
   subst hO
   by_cases ho:OO = []
   ·rw[if_pos ho,if_pos ho]
    simp[hi,ho]
   ·rw[if_neg ho,if_neg ho]
    simp[hi,ho]
