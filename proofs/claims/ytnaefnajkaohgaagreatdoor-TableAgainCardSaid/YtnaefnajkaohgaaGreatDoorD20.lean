/- Part 20 of the proof of skewer.skewerlaw15.TableAgain. -/
import Derived.Test.YtnaefnajkaohgaaGreatDoorD19
import Derived.Test.YtnaefnajkaohgaaGreatDoorD18
import Derived.Test.YtnaefnajkaohgaaGreatDoorD12
set_option linter.all false
namespace Go.Proofs.YtnaefnajkaohgaaGreatDoor
open Go Go.AL Classical
set_option maxRecDepth 10000
set_option maxHeartbeats 8000000
attribute [local simp] lW
@[simp] theorem ag0(l:List eV):closed (dN 8 eV.cells l)=true:=RF l
def seen(l:List eV):Ob:=.map .str (l.map fun s=>(.string (lN s),.b true))
theorem xB{g:eO}(hg:fi g){p:Pos}(hp:fF g p):(ly p).length<1000:=by
 have h1:=hp.size;have h2:=hp.h0.len;have h3:=hp.h1.len;have h4:=hg.gV.size;have h5:=hg.kinds
 rw[vG,tA]
 simp
 omega
theorem wG(x:eV):∀ (l a:List eV),jI a (l ++ [x])=if x∈jI a l then jI a l else jI a l ++ [x]
 | [],a=>rfl
 | y::l,a=>by rw[cF,jI,wG x l,jI]
@[simp] theorem alO(ρ:Nat→Option Nat)(H:U)(n:Nat):((fun x:Value×D=>(x.1,eS ρ H n x.2)) ∘ fun s:eV=>((.string (lN s):Value),D.b true))=fun s:eV=>((.string (lN s):Value),D.b true):=by
 funext s;simp
@[simp] theorem amP(n:Nat)(f:List Nat→List Nat):(f ∘ (fun x:Value×D=>gE n x.2) ∘ fun s:eV=>((.string (lN s):Value),D.b true))=fun _:eV=>f []:=by
 funext s;rfl
@[simp] theorem ahM(l:List eV):(l.map fun _=>([]:List Nat)).flatten = []:=by
 induction l<;>simp_all
theorem O8(g:eO)(x:eT)(l:List eV)(s:eV):lO g x (l ++ [s])=jI (lO g x l) (gw g s x):=by
 simp[lO]
def oG(g:eO):List eT→List eV→List eV
 | [],now=>now
 | x::r,now=>oG g r (lO g x now)
def pv(g:eO)(p:Pos)(c n:Int):List fq:=(oG g (gt (gt g.kinds (ff (gt p.cs c))).gu n) [iY p c]).filterMap (ln p.side)
theorem f121(g:eO)(hg:fi g)(p:Pos)(hp:fF g p)(c n:Int)(hc:0≤c∧c<p.cs.length)(hs:iu (gt p.cs c)=p.side)(hn:0≤n∧n<(gt g.kinds (ff (gt p.cs c))).gu.length) :
  Wf T 121 [dG g,dP p,.i c,.i n,.fn (.func 122) [] [.ptr 1 0 0,.ptr 2 0 0]] [.row 41 0 g.cells,.row 44 0 p.cells,.row 164 0 [.emp]] (fun d H'=>d = .i 0∧H'=if pv g p c n = []then [.row 41 0 g.cells,.row 44 0 p.cells,.row 164 0 [.emp]]else [.row 41 0 g.cells,.row 44 0 p.cells,.row 164 0 [.eN 3 ((pv g p c n).length-1) 6 0 (pv g p c n).length],.row 113 ((pv g p c n).length-1) (cl fq.cells (pv g p c n))]):=by
 have hz:=hp.size
 have hb:=hg.gV.size
 have hk:=hg.kinds
 have gA:=hp.side
 have gQ:=hp.cs _ (eY hc.1 hc.2)
 have zP:0≤ff (gt p.cs c):=by
  unfold iu at hs;unfold ff
  split at hs<;>rename_i h5
  ·rw[if_pos h5];omega
  ·omega
 have hm:ff (gt p.cs c)<g.kinds.length:=ru gQ.2 hk.1
 refine Yz yk (gH 127 [1017] (gH 79 [9] (gH 77 [5,6,7] yk.body))) ?_
 simp[yk,gH,iJ,kU,kX,lr,jN]
 refine Yc (f97 g hg p hp) ?_
 simp
 (with_reducible repeat' first|refine Xk ?_<;>try simp|refine Xs ?_ ?_<;>intro h<;>(try intro h')<;>(try simp[h])<;>(try omega)|refine Xg ?_|omega)
 refine Yc (f84 (gt p.cs c)) ?_
 simp
 simp[hs]
 (with_reducible repeat' first|refine Xk ?_<;>try simp|refine Xs ?_ ?_<;>intro h<;>(try intro h')<;>(try simp[h])<;>(try omega)|refine Xg ?_|omega)
 have jl:=hp.small hg
 have l0:=hp.h0.len
 have l1:=hp.h1.len
 have q0:=gC (l:=p.cs) (n:=c) (v:=0) hc.1 hc.2
 refine Yn (f91 { p:=p,kind:=ff (gt p.cs c),cur:=c,ig:=false } jl (by dsimp only;omega)) ?_
 simp
 (with_reducible repeat' first|refine Xk ?_<;>try simp[q0]|refine Xs ?_ ?_<;>intro h<;>(try intro h')<;>(try simp[h,q0])<;>(try omega)|refine Xg ?_|omega)
 have k8:rM g (gt (gt g.kinds (ff (gt p.cs c))).gu n):=(hg.gu _ (eY zP hm)).2 _ (eY hn.1 hn.2)
 have eX:ix g (iY p c):=⟨hp.uv hc.1 (by omega) (by omega),⟨zP,hm⟩,⟨hc.1,by show c<g.size;omega⟩⟩
 have hO:pv g p c n=(oG g (gt (gt g.kinds (ff (gt p.cs c))).gu n) [iY p c]).filterMap (ln p.side):=rfl
 generalize pv g p c n=OO at *
 generalize gt (gt g.kinds (ff (gt p.cs c))).gu n=prog at *
 have lM:=k8.len
 have hq:dN 8 eV.cells [iY p c]=iH [⟨⟨pt p.cs c 0,p.h0,p.h1,p.fg,p.side⟩,ff (gt p.cs c),c,false⟩]:=rfl
 refine eW.s (by simp[q0];rfl) ?_
 refine eW.k ((0,[iY p c]):Int×List eV) (fun y=>[(4,.fn (.func 122) [] [.ptr 1 0 0,.ptr 2 0 0]),(5,.ptr 3 0 0),(14,lW y.2),(87,gq prog),(88,.i prog.length),(89,.i y.1)]) (fun y=>[.row 41 0 g.cells,.row 44 0 p.cells,.row 164 0 [.emp],.row 41 0 g.cells,.row 44 0 p.cells,.dead,.dead,.dead,.row 171 0 (iY p c).cells,.dead]) (fun y=>0≤y.1∧y.1≤prog.length∧(∀ s∈y.2,ix g s)∧y.2.length≤10 ^ y.1.toNat∧oG g prog [iY p c]=oG g (prog.drop y.1.toNat) y.2) (fun y=>(prog.length-y.1).toNat) ?_ (by simp[hq]) (by simp[q0,iY]) rfl rfl rfl ?_
 ·simp
  exact eX
 rintro⟨k,now⟩ ⟨k0,k1,k2,k3,k4⟩
 dsimp only at k0 k1 k2 k3 k4 ⊢
 have h10:(10:Nat) ^ k.toNat≤10 ^ 8:=cp (by decide) (by omega)
 by_cases hk:k<prog.length
 ·have hx:=k8.steps _ (eY k0 hk)
  simp[hk]
  (with_reducible repeat' first|refine Xk ?_<;>try simp|refine Xs ?_ ?_<;>intro h<;>(try intro h')<;>(try simp[h])<;>(try omega)|refine Xg ?_|omega)
  refine eW.e ((0,[]):Int×List eV) (fun y=>[(4,.fn (.func 122) [] [.ptr 1 0 0,.ptr 2 0 0]),(5,.ptr 3 0 0),(16,.ptr 10 0 0),(17,if y.2 = []then .emp else .eN 12 (y.2.length-1) 8 0 y.2.length),(18,.omap 11),(87,gq prog),(88,.i prog.length),(89,.i k),(94,lW now),(95,.i now.length),(96,.i y.1)]) (fun y=>[.row 41 0 g.cells,.row 44 0 p.cells,.row 164 0 [.emp],.row 41 0 g.cells,.row 44 0 p.cells,.dead,.dead,.dead,.row 171 0 (iY p c).cells,.dead,.row 82 0 [.i (gt prog k).1,.i (gt prog k).2],.map .str (y.2.map fun s=>(.string (lN s),.b true))]++(if y.2 = []then []else [.row 171 (y.2.length-1) (cl eV.cells y.2)])) (fun y=>0≤y.1∧y.1≤now.length∧y.2=lO g (gt prog k) (now.take y.1.toNat)) (fun y=>(now.length-y.1).toNat) ?_ ?_
  ·simp[lO]
  rintro⟨i,acc⟩ ⟨i0,i1,i2⟩
  dsimp only at i0 i1 i2 ⊢
  by_cases hi:i<now.length
  ·have ki:=k2 _ (eY i0 hi)
   by_cases ha:acc = []
   ·rw[if_pos ha,if_pos ha]
    subst ha
    simp[hi]
    (with_reducible repeat' first|refine Xk ?_<;>try simp|refine Xs ?_ ?_<;>intro h<;>(try intro h')<;>(try simp[h])<;>(try omega)|refine Xg ?_|omega)
    refine fr.inl oE rfl rfl (by simp[oE]) rfl ?_
    simp[oE]
    have gf:(gt prog k).1≠0:=by have:=hx.ok;omega
    simp[gf]
    refine Yc (f164 g hg (gt now i) ki (gt prog k) hx) ?_
    simp
    refine eW.s (by simp;rfl) ?_
    have tS:∀ t∈gw g (gt now i) (gt prog k),ix g t:=fun t ht=>uz hg ki hx ht
    have UX:(gw g (gt now i) (gt prog k)).length≤10:=x8
    generalize HY:gw g (gt now i) (gt prog k)=ss at *
    refine eW.e ((0,[]):Int×List eV) (fun y=>[(4,.fn (.func 122) [] [.ptr 1 0 0,.ptr 2 0 0]),(5,.ptr 3 0 0),(16,.ptr 10 0 0),(17,if y.2 = []then .emp else .eN 13 (y.2.length-1) 8 0 y.2.length),(18,.omap 11),(87,gq prog),(88,.i prog.length),(89,.i k),(94,lW now),(95,.i now.length),(96,.i i),(107,dN 8 eV.cells ss),(108,.i ss.length),(109,.i y.1)]) (fun y=>[.row 41 0 g.cells,.row 44 0 p.cells,.row 164 0 [.emp],.row 41 0 g.cells,.row 44 0 p.cells,.dead,.dead,.dead,.row 171 0 (iY p c).cells,.dead,.row 82 0 [.i (gt prog k).1,.i (gt prog k).2],.map .str (y.2.map fun s=>(.string (lN s),.b true)),.row 171 0 (gt now i).cells]++(if y.2 = []then []else [.row 171 (y.2.length-1) (cl eV.cells y.2)])) (fun y=>0≤y.1∧y.1≤ss.length∧y.2=jI [] (ss.take y.1.toNat)) (fun y=>(ss.length-y.1).toNat) ?_ ?_
    ·simp[jI]
    rintro⟨j,A⟩ ⟨j0,j1,j2⟩
    dsimp only at j0 j1 j2 ⊢
    have hA:∀ t∈A,ix g t:=fun t ht=>tS t (by
     rw[j2,yI]at ht
     exact aM (ht.resolve_left (by simp)))
    by_cases hj:j<ss.length
    ·have ht:=tS _ (eY j0 hj)
     have jk:=Jh hg ht.p
     by_cases lq:A = []
     ·rw[if_pos lq,if_pos lq]
      subst lq
      simp[hj]
      (with_reducible repeat' first|refine Xk ?_<;>try simp|refine Xs ?_ ?_<;>intro h<;>(try intro h')<;>(try simp[h])<;>(try omega)|refine Xg ?_|omega)
      refine Yc (f165 (gt ss j) (by have:=ht.kind;omega) (by have:=ht.cur;omega) (by have:=ht.p.size;omega) (xB hg ht.p)) ?_
      simp
      (with_reducible repeat' first|refine Xk ?_<;>try simp|refine Xs ?_ ?_<;>intro h<;>(try intro h')<;>(try simp[h])<;>(try omega)|refine Xg ?_|omega)
      refine LJ.i (j+1,[gt ss j]) (by first|rfl|simp[gW]) (by first|rfl|simp[gW]) rfl rfl ?_
      refine⟨by dsimp only;omega,by dsimp only;omega,by dsimp only;omega,?_⟩
      dsimp only
      rw[gx j0 hj,wG,← j2];simp
     ·rw[if_neg lq,if_neg lq]
      simp[hj]
      (with_reducible repeat' first|refine Xk ?_<;>try simp|refine Xs ?_ ?_<;>intro h<;>(try intro h')<;>(try simp[h])<;>(try omega)|refine Xg ?_|omega)
      refine Yc (f165 (gt ss j) (by have:=ht.kind;omega) (by have:=ht.cur;omega) (by have:=ht.p.size;omega) (xB hg ht.p)) ?_
      simp
      simp[Jx hg ht hA]
      by_cases fw:gt ss j∈A
      ·simp[fw]
       (with_reducible repeat' first|refine Xk ?_<;>try simp|refine Xs ?_ ?_<;>intro h<;>(try intro h')<;>(try simp[h])<;>(try omega)|refine Xg ?_|omega)
       refine LJ.i (j+1,A) (by first|rfl|simp[lq]) (by first|rfl|simp[lq]) rfl rfl ?_
       refine⟨by dsimp only;omega,by dsimp only;omega,by dsimp only;omega,?_⟩
       dsimp only
       rw[gx j0 hj,wG,← j2,if_pos fw]
      ·have hlA:0<A.length:=aA.2 lq
       have Up:A.length≤ss.length:=by
        have h1:=yH (a:=[]) (b:=ss.take j.toNat)
        rw[← j2,aT]at h1
        simp at h1
        omega
       simp[fw,JA hg ht hA fw]
       (with_reducible repeat' first|refine Xk ?_<;>try simp|refine Xs ?_ ?_<;>intro h<;>(try intro h')<;>(try simp[h])<;>(try omega)|refine Xg ?_|omega)
       refine LJ.i (j+1,A ++ [gt ss j]) (by first|rfl|simp[show A.length-1+1=A.length by omega]) (by first|rfl|simp[show A.length-1+1=A.length by omega]) rfl rfl ?_
       refine⟨by dsimp only;omega,by dsimp only;omega,by dsimp only;omega,?_⟩
       dsimp only
       rw[gx j0 hj,wG,← j2,if_neg fw]
    ·rw[jg (by omega)]at j2
     have kP:lO g (gt prog k) (now.take (i+1).toNat)=A:=by
      rw[gx i0 hi,O8,← i2,HY,j2]
     by_cases lq:A = []
     ·rw[if_pos lq,if_pos lq]
      simp[hj,lq]
      (with_reducible repeat' first|refine Xk ?_<;>try simp|refine Xs ?_ ?_<;>intro h<;>(try intro h')<;>(try simp[h])<;>(try omega)|refine Xg ?_|omega)
      refine LJ.e (i+1,[]) ?_
      exact⟨by dsimp only;omega,by dsimp only;omega,by dsimp only;omega,by rw[kP,lq]⟩
     ·rw[if_neg lq,if_neg lq]
      simp[hj]
      (with_reducible repeat' first|refine Xk ?_<;>try simp|refine Xs ?_ ?_<;>intro h<;>(try intro h')<;>(try simp[h])<;>(try omega)|refine Xg ?_|omega)
      refine LJ.i (i+1,A) (by first|rfl|simp[lq]) (by first|rfl|simp[lq]) rfl rfl ?_
      exact⟨by dsimp only;omega,by dsimp only;omega,by dsimp only;omega,kP.symm⟩
   ·rw[if_neg ha,if_neg ha]
    have TF:∀ t∈acc,ix g t:=fun t ht=>by
     rw[i2,FL,aZ]at ht
     obtain⟨s',h1,h2⟩:=ht
     exact uz hg (k2 _ (aM h1)) hx h2
    have tN:acc.length≤10*now.length:=by
     rw[i2]
     refine Nat.le_trans AE ?_
     rw[aT];omega
    have vx:0<acc.length:=aA.2 ha
    simp[hi]
    (with_reducible repeat' first|refine Xk ?_<;>try simp|refine Xs ?_ ?_<;>intro h<;>(try intro h')<;>(try simp[h])<;>(try omega)|refine Xg ?_|omega)
    refine fr.inl oE rfl rfl (by simp[oE]) rfl ?_
    simp[oE]
    have gf:(gt prog k).1≠0:=by have:=hx.ok;omega
    simp[gf]
    refine Yc (f164 g hg (gt now i) ki (gt prog k) hx) ?_
    simp
    refine eW.s (by simp;rfl) ?_
    have tS:∀ t∈gw g (gt now i) (gt prog k),ix g t:=fun t ht=>uz hg ki hx ht
    have UX:(gw g (gt now i) (gt prog k)).length≤10:=x8
    generalize HY:gw g (gt now i) (gt prog k)=ss at *
    refine eW.e ((0,acc):Int×List eV) (fun y=>[(4,.fn (.func 122) [] [.ptr 1 0 0,.ptr 2 0 0]),(5,.ptr 3 0 0),(16,.ptr 10 0 0),(17,.eN 12 (y.2.length-1) 8 0 y.2.length),(18,.omap 11),(87,gq prog),(88,.i prog.length),(89,.i k),(94,lW now),(95,.i now.length),(96,.i i),(107,dN 8 eV.cells ss),(108,.i ss.length),(109,.i y.1)]) (fun y=>[.row 41 0 g.cells,.row 44 0 p.cells,.row 164 0 [.emp],.row 41 0 g.cells,.row 44 0 p.cells,.dead,.dead,.dead,.row 171 0 (iY p c).cells,.dead,.row 82 0 [.i (gt prog k).1,.i (gt prog k).2],.map .str (y.2.map fun s=>(.string (lN s),.b true)),.row 171 (y.2.length-1) (cl eV.cells y.2),.row 171 0 (gt now i).cells]) (fun y=>0≤y.1∧y.1≤ss.length∧y.2=jI acc (ss.take y.1.toNat)∧0<y.2.length) (fun y=>(ss.length-y.1).toNat) ?_ ?_
    ·simp[jI]
     exact vx
    rintro⟨j,A⟩ ⟨j0,j1,j2,j3⟩
    dsimp only at j0 j1 j2 j3 ⊢
    have hA:∀ t∈A,ix g t:=fun t ht=>by
     rw[j2,yI]at ht
     rcases ht with ht|ht
     ·exact TF t ht
     ·exact tS t (aM ht)
    have Up:A.length≤acc.length+ss.length:=by
     have h1:=yH (a:=acc) (b:=ss.take j.toNat)
     rw[← j2,aT]at h1
     omega
    by_cases hj:j<ss.length
    ·have ht:=tS _ (eY j0 hj)
     simp[hj]
     (with_reducible repeat' first|refine Xk ?_<;>try simp|refine Xs ?_ ?_<;>intro h<;>(try intro h')<;>(try simp[h])<;>(try omega)|refine Xg ?_|omega)
     refine Yc (f165 (gt ss j) (by have:=ht.kind;omega) (by have:=ht.cur;omega) (by have:=ht.p.size;omega) (xB hg ht.p)) ?_
     simp
     simp[Jx hg ht hA]
     by_cases fw:gt ss j∈A
     ·simp[fw]
      (with_reducible repeat' first|refine Xk ?_<;>try simp|refine Xs ?_ ?_<;>intro h<;>(try intro h')<;>(try simp[h])<;>(try omega)|refine Xg ?_|omega)
      refine LJ.e (j+1,A) ?_
      refine⟨by dsimp only;omega,by dsimp only;omega,by dsimp only;omega,?_,j3⟩
      dsimp only
      rw[gx j0 hj,wG,← j2,if_pos fw]
     ·simp[fw,JA hg ht hA fw]
      (with_reducible repeat' first|refine Xk ?_<;>try simp|refine Xs ?_ ?_<;>intro h<;>(try intro h')<;>(try simp[h])<;>(try omega)|refine Xg ?_|omega)
      refine LJ.i (j+1,A ++ [gt ss j]) (by first|rfl|simp[show A.length-1+1=A.length by omega]) (by first|rfl|simp[show A.length-1+1=A.length by omega]) rfl rfl ?_
      refine⟨by dsimp only;omega,by dsimp only;omega,by dsimp only;omega,?_,by simp⟩
      dsimp only
      rw[gx j0 hj,wG,← j2,if_neg fw]
    ·rw[jg (by omega)]at j2
     have kP:lO g (gt prog k) (now.take (i+1).toNat)=A:=by
      rw[gx i0 hi,O8,← i2,HY,j2]
     have lq:A≠[]:=aA.1 j3
     simp[hj]
     (with_reducible repeat' first|refine Xk ?_<;>try simp|refine Xs ?_ ?_<;>intro h<;>(try intro h')<;>(try simp[h])<;>(try omega)|refine Xg ?_|omega)
     refine LJ.i (i+1,A) (by first|rfl|simp[lq]) (by first|rfl|simp[lq]) rfl rfl ?_
     exact⟨by dsimp only;omega,by dsimp only;omega,by dsimp only;omega,kP.symm⟩
  ·rw[jg (by omega)]at i2
   have eR:∀ t∈acc,ix g t:=fun t ht=>by
    rw[i2,FL,aZ]at ht
    obtain⟨s',h1,h2⟩:=ht
    exact uz hg (k2 _ h1) hx h2
   have tN:acc.length≤10*now.length:=by
    rw[i2];exact AE
   have zp:acc.length≤10 ^ (k+1).toNat:=by
    rw[show(k+1).toNat=k.toNat+1 by omega,dH];omega
   have l9:oG g prog [iY p c]=oG g (prog.drop (k+1).toNat) acc:=by
    rw[k4,lk k0 hk,oG,← i2,show(k+1).toNat=k.toNat+1 by omega]
   by_cases ha:acc = []
   ·rw[if_pos ha,if_pos ha]
    simp[hi,ha]
    (with_reducible repeat' first|refine Xk ?_<;>try simp|refine Xs ?_ ?_<;>intro h<;>(try intro h')<;>(try simp[h])<;>(try omega)|refine Xg ?_|omega)
    refine LJ.i (k+1,[]) (by first|rfl|simp[dN]) (by first|rfl|simp[dN]) rfl rfl ?_
    rw[ha]at eR zp l9
    exact⟨by dsimp only;omega,by dsimp only;omega,by dsimp only;omega,eR,zp,l9⟩
   ·rw[if_neg ha,if_neg ha]
    have xm:iH acc=dN 8 eV.cells acc:=Hk ha
    simp[hi]
    (with_reducible repeat' first|refine Xk ?_<;>try simp|refine Xs ?_ ?_<;>intro h<;>(try intro h')<;>(try simp[h])<;>(try omega)|refine Xg ?_|omega)
    refine LJ.i (k+1,acc) (by first|rfl|simp[xm]) (by first|rfl|simp[xm]) rfl rfl ?_
    exact⟨by dsimp only;omega,by dsimp only;omega,by dsimp only;omega,eR,zp,l9⟩
 ·rw[bp (by omega)]at k4
  rw[k4,oG]at hO
  have h8:now.length≤10 ^ 8:=by omega
  simp[hk]
  (with_reducible repeat' first|refine Xk ?_<;>try simp|refine Xs ?_ ?_<;>intro h<;>(try intro h')<;>(try simp[h])<;>(try omega)|refine Xg ?_|omega)
  refine eW.e ((0,[]):Int×List fq) (fun y=>[(4,.fn (.func 122) [] [.ptr 1 0 0,.ptr 2 0 0]),(129,lW now),(130,.i now.length),(131,.i y.1)]) (fun y=>sk g p (iY p c) (if y.2 = []then .emp else .eN 10 (y.2.length-1) 6 0 y.2.length)++(if y.2 = []then []else [.row 113 (y.2.length-1) (cl fq.cells y.2)])) (fun y=>0≤y.1∧y.1≤now.length∧y.2=(now.take y.1.toNat).filterMap (ln p.side)) (fun y=>(now.length-y.1).toNat) ?_ ?_
  ·simp
  rintro⟨i,outs⟩ ⟨i0,i1,i2⟩
  dsimp only at i0 i1 i2 ⊢
  by_cases hi:i<now.length
  ·have ht:=k2 _ (eY i0 hi)
   have nc:outs.length≤now.length:=by
    rw[i2]
    refine Nat.le_trans (c7 ..) ?_
    rw[aT];omega
   have i3:(now.take (i+1).toNat).filterMap (ln p.side)=outs++(ln p.side (gt now i)).toList:=by
    rw[gx i0 hi,List.filterMap_append,← i2]
    cases hf:ln p.side (gt now i)<;>simp[hf]
   by_cases ho:outs = []
   ·rw[if_pos ho,if_pos ho]
    subst ho
    simp[hi]
    (with_reducible repeat' first|refine Xk ?_<;>try simp|refine Xs ?_ ?_<;>intro h<;>(try intro h')<;>(try simp[h])<;>(try omega)|refine Xg ?_|omega)
    refine fr.nj rfl rfl (Sq g hg p hp (iY p c) (gt now i) ht) ?_
    rintro d H' hH
    cases hf:ln p.side (gt now i)with
    | none=>
     rw[hf]at hH i3;dsimp only at hH;subst hH
     simp
     (with_reducible repeat' first|refine Xk ?_<;>try simp|refine Xs ?_ ?_<;>intro h<;>(try intro h')<;>(try simp[h])<;>(try omega)|refine Xg ?_|omega)
     refine LJ.e (i+1,[]) ?_
     exact⟨by dsimp only;omega,by dsimp only;omega,by dsimp only;omega,by rw[i3];rfl⟩
    | some o=>
     rw[hf]at hH i3;dsimp only at hH;subst hH
     simp
     (with_reducible repeat' first|refine Xk ?_<;>try simp|refine Xs ?_ ?_<;>intro h<;>(try intro h')<;>(try simp[h])<;>(try omega)|refine Xg ?_|omega)
     refine LJ.e (i+1,[o]) ?_
     exact⟨by dsimp only;omega,by dsimp only;omega,by dsimp only;omega,by rw[i3];rfl⟩
   ·rw[if_neg ho,if_neg ho]
    simp[hi]
    (with_reducible repeat' first|refine Xk ?_<;>try simp|refine Xs ?_ ?_<;>intro h<;>(try intro h')<;>(try simp[h])<;>(try omega)|refine Xg ?_|omega)
    refine fr.nj rfl rfl (Sr g hg p hp (iY p c) (gt now i) ht outs (by omega) (aA.2 ho)) ?_
    rintro d H' hH
    cases hf:ln p.side (gt now i)with
    | none=>
     rw[hf]at hH i3;dsimp only at hH;subst hH
     simp
     (with_reducible repeat' first|refine Xk ?_<;>try simp|refine Xs ?_ ?_<;>intro h<;>(try intro h')<;>(try simp[h])<;>(try omega)|refine Xg ?_|omega)
     refine LJ.i (i+1,outs) (by first|rfl|simp[ho]) (by first|rfl|simp[ho]) rfl rfl ?_
     exact⟨by dsimp only;omega,by dsimp only;omega,by dsimp only;omega,by rw[i3];simp⟩
    | some o=>
     rw[hf]at hH i3;dsimp only at hH;subst hH
     simp
     (with_reducible repeat' first|refine Xk ?_<;>try simp|refine Xs ?_ ?_<;>intro h<;>(try intro h')<;>(try simp[h])<;>(try omega)|refine Xg ?_|omega)
     refine LJ.e (i+1,outs ++ [o]) ?_
     exact⟨by dsimp only;omega,by dsimp only;omega,by dsimp only;omega,by rw[i3];rfl⟩
  ·rw[jg (by omega)]at i2
   rw[← i2]at hO
   subst hO
   by_cases ho:OO = []
   ·rw[if_pos ho,if_pos ho]
    simp[hi,ho]
   ·rw[if_neg ho,if_neg ho]
    simp[hi,ho]
