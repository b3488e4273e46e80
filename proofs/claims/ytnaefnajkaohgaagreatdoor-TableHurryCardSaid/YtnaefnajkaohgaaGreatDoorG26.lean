/- Part 26 of TableHurry. -/
import Derived.Test.YtnaefnajkaohgaaGreatDoorG24
import Derived.Test.YtnaefnajkaohgaaGreatDoorG25
set_option linter.all false
namespace Go.Proofs.YtnaefnajkaohgaaGreatDoor
open Go Go.AL Classical
set_option maxRecDepth 10000
set_option maxHeartbeats 8000000
abbrev vO(g:ey)(p:Pos)(x y:D):et:=[.row 41 0 g.cells,.row 44 0 p.cells,.row 45 0 [x],.row 45 0 [y],.jA,.fE 1664 [(7,.ptr 2 0 0),(8,.ptr 3 0 0)] .ready]
def js(os:List eY):List Pos:=os.map (·.p)
def ib(os:List eY):List Pos:=(os.filter (·.gO)).map (·.p)
def iu(g:ey)(p:Pos)(os:List eY):et:=
 if os = []then vO g p .U .U else if ib os = []then vO g p (.eu 6 (os.length-1) 5 0 os.length) .U ++ [.row 44 (os.length-1) (cl Pos.cells (js os))]
 else vO g p (.eu 6 (os.length-1) 5 0 os.length) (.eu 7 ((ib os).length-1) 5 0 (ib os).length) ++ [.row 44 (os.length-1) (cl Pos.cells (js os)),.row 44 ((ib os).length-1) (cl Pos.cells (ib os))]
theorem vX(g:ey)(p:Pos):iu g p []=vO g p .U .U:=rfl
theorem rv(g:ey)(p:Pos){os:List eY}(h:os≠[])(h2:ib os = []):iu g p os=vO g p (.eu 6 (os.length-1) 5 0 os.length) .U ++ [.row 44 (os.length-1) (cl Pos.cells (js os))]:=by
 unfold iu;rw[if_neg h,if_pos h2]
theorem oj(g:ey)(p:Pos){os:List eY}(h:os≠[])(h2:ib os≠[]):iu g p os=vO g p (.eu 6 (os.length-1) 5 0 os.length) (.eu 7 ((ib os).length-1) 5 0 (ib os).length) ++ [.row 44 (os.length-1) (cl Pos.cells (js os)),.row 44 ((ib os).length-1) (cl Pos.cells (ib os))]:=by
 unfold iu;rw[if_neg h,if_neg h2]
theorem lj(os:List eY)(o:eY):ib (os ++ [o])=ib os++(if o.gO then [o.p]else []):=by
 unfold ib
 rw[List.filter_append,List.map_append]
 cases h:o.gO<;>simp[h]
theorem r8(os:List eY)(o:eY):js (os ++ [o])=js os ++ [o.p]:=by simp[js]
theorem JC(os:List eY):(js os).length=os.length:=by simp[js]
theorem N9(os:List eY):(ib os).length≤os.length:=by unfold ib;rw[List.length_map];exact List.length_filter_le _ _
theorem GN(g:ey)(p:Pos)(os:List eY):(iu g p os).length=if os = []then 6 else if ib os = []then 7 else 8:=by
 unfold iu
 split
 ·rfl
 ·split<;>rfl
theorem GM(g:ey)(p:Pos)(os:List eY):6≤(iu g p os).length:=by rw[GN];split<;>(try split)<;>omega
theorem R7(g:ey)(p:Pos)(os:List eY)(o:eY):(iu g p os).length≤(iu g p (os ++ [o])).length:=by
 rw[GN,GN,if_neg (show os ++ [o]≠[]by simp)]
 by_cases h2:ib os = []
 ·rw[if_pos h2]
  split<;>split<;>omega
 ·rw[if_neg h2,if_neg (show ib (os ++ [o])≠[]by rw[lj];simp[h2])]
  split<;>omega
theorem LL{g:ey}{p:Pos}{os:List eY}{n:Nat}(h6:6≤n)(hn:n≤(iu g p os).length):dedup ((((iu g p os).take n).map (lU n)).flatten.filter (· < (iu g p os).length))=List.range' n ((iu g p os).length-n):=by
 by_cases h:os = []
 ·subst h
  have:n=6:=by rw[vX]at hn;simp at hn;omega
  subst this
  rw[vX];simp
 ·by_cases h2:ib os = []
  ·rw[rv g p h h2]at *
   have:n=6∨n=7:=by simp at hn;omega
   rcases this with rfl|rfl<;>simp<;>rfl
  ·rw[oj g p h h2]at *
   have:n=6∨n=7∨n=8:=by simp at hn;omega
   rcases this with rfl|rfl|rfl<;>simp<;>rfl
theorem LK(g:ey)(p:Pos)(os:List eY):oG (iu g p os).length (iu g p os):=by
 by_cases h:os = []
 ·subst h
  rw[vX];simp
 ·by_cases h2:ib os = []
  ·rw[rv g p h h2];simp
  ·rw[oj g p h h2];simp
theorem sP{g:ey}{p:Pos}{os:List eY}{n:Nat}{live:List Nat}{env:Env}{r:Bool}(h6:6≤n)(hn:n≤(iu g p os).length)(he:((forget live env).all fun p=>jx n p.2)=true) :
  cut n live { env:=env,H:=iu g p os,marks:=[],fV:=r } = { env:=forget live env,H:=iu g p os,marks:=[],fV:=r }:=Pw hn he (LL h6 hn) (LK g p os)
theorem R6{g:ey}{p:Pos}{os:List eY}{n:Nat}{d:D}(h6:6≤n)(hn:n≤(iu g p os).length)(he:jx n d=true):leave 0 n (iu g p os) d=(d,iu g p os):=TK hn he (LL h6 hn) (LK g p os)
theorem vY{g:ey}{p:Pos}(os:List eY){n:Nat}{live:List Nat}{env:Env}{H:et}{r:Bool}(hH:H=iu g p os)(h6:6≤n)(hn:n≤(iu g p os).length)(he:((forget live env).all fun p=>jx n p.2)=true) :
  cut n live { env:=env,H:=H,marks:=[],fV:=r } = { env:=forget live env,H:=H,marks:=[],fV:=r }:=by
 subst hH;exact sP h6 hn he
theorem f83(g:ey)(hg:eW g)(p:Pos)(hp:fo g p):Wf T 83 [.gy 5,.eG p.cells,.eG g.cells] (iu g p []) (fun _ H'=>∃ os,(∀ o,o∈os↔o∈mf g p)∧os.length≤3600000000∧H'=iu g p os):=by
 have hz:=hp.size
 have hb:=hg.gH.size
 have hk:=hg.kinds
 have gv:=hp.side
 have QD:(iu g p []).length=6:=rfl
 have vJ:=GM g p []
 have Df:5<(iu g p []).length:=vJ
 refine Yg B5 ?_
 simp[B5]
 refine eF.e ((0,[]):Int×List eY) (fun y=>[(0,.gy 5),(1,.eG p.cells),(2,.eG g.cells),(14,dI p.cs),(15,.i p.cs.length),(16,.i y.1)]) (fun y=>iu g p y.2) (fun y=>0≤y.1∧y.1≤p.cs.length∧(∀ o,o∈y.2↔o∈(upto y.1.toNat).flatMap (lX g p))∧y.2.length≤400000000*y.1.toNat) (fun y=>(p.cs.length-y.1).toNat) ?_ ?_
 ·simp
 rintro⟨i,os⟩ ⟨i0,i1,i2,i3⟩
 dsimp only at i0 i1 i2 i3 ⊢
 have h6:=GM g p os
 have h5:5<(iu g p os).length:=h6
 have xZ:(iu g p []).length≤(iu g p os).length:=by rw[QD];exact h6
 by_cases hi:i<p.cs.length
 ·have mm:∀ o,o∈(upto (i+1).toNat).flatMap (lX g p)↔o∈os∨o∈lX g p i:=fun o=>by
   rw[qJ i0,bp,List.mem_append,← i2];simp
  simp[hi]
  (with_reducible repeat' first|refine Xk ?_<;>try simp|refine Xs ?_ ?_<;>intro h<;>(try intro h')<;>(try simp[h])<;>(try omega)|refine Xg ?_|omega)
  refine Yc (f84 (gt p.cs i)) ?_
  simp
  by_cases hm:gV (gt p.cs i)=p.side
  ·obtain⟨m0,m1,m2,m3⟩:=yX gv.1 hm
   have gA:=hp.cs _ (eH i0 hi)
   have jG:eS (gt p.cs i)<g.kinds.length:=rH gA.2 hk.1
   have gL:(gt g.kinds (eS (gt p.cs i))).fZ.length≤4:=(hg.fZ _ (eH m0 jG)).1
   have ky:lX g p i=(gt g.kinds (eS (gt p.cs i))).fZ.flatMap (o7 g p i):=by unfold lX;rw[if_pos hm]
   simp[hm,show ¬ eS (gt p.cs i)<0 by omega]
   (with_reducible repeat' first|refine Xk ?_<;>try simp|refine Xs ?_ ?_<;>intro h<;>(try intro h')<;>(try simp[h])<;>(try omega)|refine Xg ?_|omega)
   refine eF.e ((0,os):Int×List eY) (fun y=>[(0,.gy 5),(1,.eG p.cells),(2,.eG g.cells),(4,.i i),(14,dI p.cs),(15,.i p.cs.length),(16,.i i),(40,.i (gt g.kinds (eS (gt p.cs i))).fZ.length),(41,.i y.1)]) (fun y=>iu g p y.2) (fun y=>0≤y.1∧y.1≤(gt g.kinds (eS (gt p.cs i))).fZ.length∧(iu g p os).length≤(iu g p y.2).length∧(∀ o,o∈y.2↔o∈os∨o∈((gt g.kinds (eS (gt p.cs i))).fZ.take y.1.toNat).flatMap (o7 g p i))∧y.2.length≤os.length+100000000*y.1.toNat) (fun y=>((gt g.kinds (eS (gt p.cs i))).fZ.length-y.1).toNat) ?_ ?_
   ·simp
   rintro⟨j,qF⟩ ⟨j0,j1,j2,j3,j4⟩
   dsimp only at j0 j1 j2 j3 j4 ⊢
   have sD:=GM g p qF
   have QN:5<(iu g p qF).length:=sD
   by_cases hj:j<(gt g.kinds (eS (gt p.cs i))).fZ.length
   ·simp[hj]
    refine Yq (f85 g hg p hp i j ⟨i0,hi⟩ hm ⟨j0,hj⟩) fun r hr=>?_
    simp
    refine eF.e ((0,qF):Int×List eY) (fun y=>[(0,.gy 5),(1,.eG p.cells),(2,.eG g.cells),(4,.i i),(14,dI p.cs),(15,.i p.cs.length),(16,.i i),(40,.i (gt g.kinds (eS (gt p.cs i))).fZ.length),(41,.i j),(52,dN 6 eY.cells r),(53,.i r.length),(54,.i y.1)]) (fun y=>iu g p y.2) (fun y=>0≤y.1∧y.1≤r.length∧(iu g p qF).length≤(iu g p y.2).length∧(∀ o,o∈y.2↔o∈qF∨o∈r.take y.1.toNat)∧y.2.length≤qF.length+y.1.toNat) (fun y=>(r.length-y.1).toNat) ?_ ?_
    ·simp
    rintro⟨k,ja⟩ ⟨k0,k1,k2,k3,k4⟩
    dsimp only at k0 k1 k2 k3 k4 ⊢
    by_cases jv:k<r.length
    ·have il:ja.length<2 ^ 39:=by have:=hr.2;omega
     have Ss:=N9 ja
     have fu:=JC ja
     have oW:=Nat.le_trans k2 (R7 g p ja (gt r k))
     have jT:∀ o,o∈ja ++ [gt r k]↔o∈qF∨o∈r.take (k+1).toNat:=fun o=>by
      rw[gj k0 jv,List.mem_append,List.mem_append,k3,or_assoc]
     by_cases h1:ja = []
     ·subst h1
      rw[vX g p]at *
      simp[jv]
      (with_reducible repeat' first|refine Xk ?_<;>try simp|refine Xs ?_ ?_<;>intro h<;>(try intro h')<;>(try simp[h])<;>(try omega)|refine Xg ?_|omega)
      refine nW.r (rf:=1664) (env0:=[(7,.ptr 2 0 0),(8,.ptr 3 0 0)]) (Rd:=mh) (by simp) rfl rfl mh.a mh.b (mg rfl) (mg rfl) ?_
      cases ht:(gt r k).gO
      ·simp[mh,ht,fu]
       (with_reducible repeat' first|refine Xk ?_<;>try simp[fu]|refine Xs ?_ ?_<;>intro h<;>(try intro h')<;>(try simp[h,fu])<;>(try omega)|refine Xg ?_|omega)
       rw[vY ([] ++ [gt r k]) ?_ sD oW ?_]
       ·simp
        refine LJ.i (k+1,[] ++ [gt r k]) rfl ?_ rfl rfl ?_
        ·dsimp only
         rw[rv g p (os:=[] ++ [gt r k]) (by simp) (by rw[lj,ht];simp;rfl)]
         simp[js,ib,ht,gZ]
        ·exact⟨by dsimp only;omega,by dsimp only;omega,by dsimp only;omega,oW,jT,by dsimp only at k4 ⊢;simp at k4 ⊢;omega⟩
       ·rw[rv g p (os:=[] ++ [gt r k]) (by simp) (by rw[lj,ht];simp;rfl)]
        simp[js,ib,ht,gZ]
       ·simp
        omega
      ·simp[mh,ht,fu]
       (with_reducible repeat' first|refine Xk ?_<;>try simp[fu]|refine Xs ?_ ?_<;>intro h<;>(try intro h')<;>(try simp[h,fu])<;>(try omega)|refine Xg ?_|omega)
       rw[vY ([] ++ [gt r k]) ?_ sD oW ?_]
       ·simp
        refine LJ.i (k+1,[] ++ [gt r k]) rfl ?_ rfl rfl ?_
        ·dsimp only
         rw[oj g p (os:=[] ++ [gt r k]) (by simp) (by rw[lj,ht];simp)]
         simp[js,ib,ht,gZ]
        ·exact⟨by dsimp only;omega,by dsimp only;omega,by dsimp only;omega,oW,jT,by dsimp only at k4 ⊢;simp at k4 ⊢;omega⟩
       ·rw[oj g p (os:=[] ++ [gt r k]) (by simp) (by rw[lj,ht];simp)]
        simp[js,ib,ht,gZ]
       ·simp
        omega
     ·by_cases h2:ib ja = []
      ·have qp:ja.length-1+1=ja.length:=by have:=aB.2 h1;omega
       rw[rv g p h1 h2]at *
       simp[jv]
       (with_reducible repeat' first|refine Xk ?_<;>try simp|refine Xs ?_ ?_<;>intro h<;>(try intro h')<;>(try simp[h])<;>(try omega)|refine Xg ?_|omega)
       refine nW.r (rf:=1664) (env0:=[(7,.ptr 2 0 0),(8,.ptr 3 0 0)]) (Rd:=mh) (by simp) rfl rfl mh.a mh.b (mg rfl) (mg rfl) ?_
       cases ht:(gt r k).gO
       ·simp[mh,ht,fu]
        (with_reducible repeat' first|refine Xk ?_<;>try simp[fu]|refine Xs ?_ ?_<;>intro h<;>(try intro h')<;>(try simp[h,fu])<;>(try omega)|refine Xg ?_|omega)
        rw[vY (ja ++ [gt r k]) ?_ sD oW ?_]
        ·simp
         refine LJ.i (k+1,ja ++ [gt r k]) rfl ?_ rfl rfl ?_
         ·dsimp only
          rw[rv g p (os:=ja ++ [gt r k]) (by simp) (by rw[lj,ht];simp;exact h2)]
          simp[r8,lj,ht,h2,gZ,qp]
         ·exact⟨by dsimp only;omega,by dsimp only;omega,by dsimp only;omega,oW,jT,by dsimp only at k4 ⊢;simp at k4 ⊢;omega⟩
        ·rw[rv g p (os:=ja ++ [gt r k]) (by simp) (by rw[lj,ht];simp;exact h2)]
         simp[r8,lj,ht,h2,gZ,qp]
        ·simp
         omega
       ·simp[mh,ht,fu]
        (with_reducible repeat' first|refine Xk ?_<;>try simp[fu]|refine Xs ?_ ?_<;>intro h<;>(try intro h')<;>(try simp[h,fu])<;>(try omega)|refine Xg ?_|omega)
        rw[vY (ja ++ [gt r k]) ?_ sD oW ?_]
        ·simp
         refine LJ.i (k+1,ja ++ [gt r k]) rfl ?_ rfl rfl ?_
         ·dsimp only
          rw[oj g p (os:=ja ++ [gt r k]) (by simp) (by rw[lj,ht];simp)]
          simp[r8,lj,ht,h2,gZ,qp]
         ·exact⟨by dsimp only;omega,by dsimp only;omega,by dsimp only;omega,oW,jT,by dsimp only at k4 ⊢;simp at k4 ⊢;omega⟩
        ·rw[oj g p (os:=ja ++ [gt r k]) (by simp) (by rw[lj,ht];simp)]
         simp[r8,lj,ht,h2,gZ,qp]
        ·simp
         omega
      ·have qp:ja.length-1+1=ja.length:=by have:=aB.2 h1;omega
       have yn:(ib ja).length-1+1=(ib ja).length:=by have:=aB.2 h2;omega
       rw[oj g p h1 h2]at *
       simp[jv]
       (with_reducible repeat' first|refine Xk ?_<;>try simp|refine Xs ?_ ?_<;>intro h<;>(try intro h')<;>(try simp[h])<;>(try omega)|refine Xg ?_|omega)
       refine nW.r (rf:=1664) (env0:=[(7,.ptr 2 0 0),(8,.ptr 3 0 0)]) (Rd:=mh) (by simp) rfl rfl mh.a mh.b (mg rfl) (mg rfl) ?_
       cases ht:(gt r k).gO
       ·simp[mh,ht,fu]
        (with_reducible repeat' first|refine Xk ?_<;>try simp[fu]|refine Xs ?_ ?_<;>intro h<;>(try intro h')<;>(try simp[h,fu])<;>(try omega)|refine Xg ?_|omega)
        rw[vY (ja ++ [gt r k]) ?_ sD oW ?_]
        ·simp
         refine LJ.i (k+1,ja ++ [gt r k]) rfl ?_ rfl rfl ?_
         ·dsimp only
          rw[oj g p (os:=ja ++ [gt r k]) (by simp) (by rw[lj,ht];simp;exact h2)]
          simp[r8,lj,ht,qp,yn]
         ·exact⟨by dsimp only;omega,by dsimp only;omega,by dsimp only;omega,oW,jT,by dsimp only at k4 ⊢;simp at k4 ⊢;omega⟩
        ·rw[oj g p (os:=ja ++ [gt r k]) (by simp) (by rw[lj,ht];simp;exact h2)]
         simp[r8,lj,ht,qp,yn]
        ·simp
         omega
       ·simp[mh,ht,fu]
        (with_reducible repeat' first|refine Xk ?_<;>try simp[fu]|refine Xs ?_ ?_<;>intro h<;>(try intro h')<;>(try simp[h,fu])<;>(try omega)|refine Xg ?_|omega)
        rw[vY (ja ++ [gt r k]) ?_ sD oW ?_]
        ·simp
         refine LJ.i (k+1,ja ++ [gt r k]) rfl ?_ rfl rfl ?_
         ·dsimp only
          rw[oj g p (os:=ja ++ [gt r k]) (by simp) (by rw[lj,ht];simp)]
          simp[r8,lj,ht,qp,yn]
         ·exact⟨by dsimp only;omega,by dsimp only;omega,by dsimp only;omega,oW,jT,by dsimp only at k4 ⊢;simp at k4 ⊢;omega⟩
        ·rw[oj g p (os:=ja ++ [gt r k]) (by simp) (by rw[lj,ht];simp)]
         simp[r8,lj,ht,qp,yn]
        ·simp
         omega
    ·have ix:r.take k.toNat=r:=iH (by omega)
     rw[ix]at k3
     have Dp:∀ o,o∈ja↔o∈os∨o∈((gt g.kinds (eS (gt p.cs i))).fZ.take (j+1).toNat).flatMap (o7 g p i):=fun o=>by
      rw[k3,j3,hr.1,gj j0 hj,bp,List.mem_append,or_assoc]
      simp
     simp[jv,sP (os:=ja) sD k2,sP (os:=ja) h6 (Nat.le_trans j2 k2),QN,h5]
     (with_reducible repeat' first|refine Xk ?_<;>try simp|refine Xs ?_ ?_<;>intro h<;>(try intro h')<;>(try simp[h])<;>(try omega)|refine Xg ?_|omega)
     refine LJ.i (j+1,ja) rfl rfl rfl rfl ?_
     have:=hr.2
     exact⟨by dsimp only;omega,by dsimp only;omega,by dsimp only;omega,Nat.le_trans j2 k2,Dp,by dsimp only at j4 k4 ⊢;omega⟩
   ·have ix:(gt g.kinds (eS (gt p.cs i))).fZ.take j.toNat=(gt g.kinds (eS (gt p.cs i))).fZ:=iH (by omega)
    rw[ix,← ky]at j3
    simp[hj,sP (os:=qF) h6 j2,h5]
    (with_reducible repeat' first|refine Xk ?_<;>try simp|refine Xs ?_ ?_<;>intro h<;>(try intro h')<;>(try simp[h])<;>(try omega)|refine Xg ?_|omega)
    simp[sP (os:=qF) vJ (Nat.le_trans xZ j2),Df]
    refine LJ.i (i+1,qF) rfl rfl rfl rfl ?_
    exact⟨by dsimp only;omega,by dsimp only;omega,by dsimp only;omega,fun o=>by rw[mm,j3],by dsimp only at j4 ⊢;omega⟩
  ·have ky:lX g p i = []:=by unfold lX;rw[if_neg hm]
   rw[ky]at mm
   have jR:0≤i+1∧i+1≤p.cs.length∧(∀ o,o∈os↔o∈(upto (i+1).toNat).flatMap (lX g p))∧os.length≤400000000*(i+1).toNat:=⟨by omega,by omega,fun o=>by rw[mm];simp,by omega⟩
   by_cases Ll:eS (gt p.cs i)<0
   ·simp[Ll]
    (with_reducible repeat' first|refine Xk ?_<;>try simp|refine Xs ?_ ?_<;>intro h<;>(try intro h')<;>(try simp[h])<;>(try omega)|refine Xg ?_|omega)
    simp[sP (os:=os) vJ xZ,Df]
    exact LJ.i (i+1,os) rfl rfl rfl rfl ⟨by dsimp only;omega,jR⟩
   ·simp[Ll,hm]
    (with_reducible repeat' first|refine Xk ?_<;>try simp|refine Xs ?_ ?_<;>intro h<;>(try intro h')<;>(try simp[h])<;>(try omega)|refine Xg ?_|omega)
    simp[sP (os:=os) vJ xZ,Df]
    exact LJ.i (i+1,os) rfl rfl rfl rfl ⟨by dsimp only;omega,jR⟩
 ·simp[hi,sP (os:=os) vJ xZ,Df]
  rw[R6 vJ xZ (by simp)]
  refine⟨os,fun o=>?_,by omega,rfl⟩
  rw[i2,mf,show i.toNat=p.cs.length by omega]
