/- 23 -/
import Derived.Test.YtnaefnajkaohgaaGreatDoorH21
import Derived.Test.YtnaefnajkaohgaaGreatDoorH22
set_option linter.all false
namespace Go.Proofs.YtnaefnajkaohgaaGreatDoor
open Go Go.AL Classical
set_option maxRecDepth 10000
set_option maxHeartbeats 8000000
abbrev zz(g:eH)(p:Pos)(x y:D):U:=[.row 41 0 g.cells,.row 44 0 p.cells,.row 45 0 [x],.row 45 0 [y],.jZ,.gu 1664 [(7,.ptr 2 0 0),(8,.ptr 3 0 0)] .ready]
def k7(os:List fD):List Pos:=os.map (·.p)
def ji(os:List fD):List Pos:=(os.filter (·.iL)).map (·.p)
def jw(g:eH)(p:Pos)(os:List fD):U:=
 if os = []then zz g p .eG .eG else if ji os = []then zz g p (.eF 6 (os.length-1) 5 0 os.length) .eG ++ [.row 44 (os.length-1) (cl Pos.cells (k7 os))]
 else zz g p (.eF 6 (os.length-1) 5 0 os.length) (.eF 7 ((ji os).length-1) 5 0 (ji os).length) ++ [.row 44 (os.length-1) (cl Pos.cells (k7 os)),.row 44 ((ji os).length-1) (cl Pos.cells (ji os))]
def zM(g:eH)(p:Pos):jw g p []=zz g p .eG .eG:=rfl
def uQ(g:eH)(p:Pos){os:List fD}(h:os≠[])(h2:ji os = []):jw g p os=zz g p (.eF 6 (os.length-1) 5 0 os.length) .eG ++ [.row 44 (os.length-1) (cl Pos.cells (k7 os))]:=by
 unfold jw;rw[if_neg h,if_pos h2]
def qP(g:eH)(p:Pos){os:List fD}(h:os≠[])(h2:ji os≠[]):jw g p os=zz g p (.eF 6 (os.length-1) 5 0 os.length) (.eF 7 ((ji os).length-1) 5 0 (ji os).length) ++ [.row 44 (os.length-1) (cl Pos.cells (k7 os)),.row 44 ((ji os).length-1) (cl Pos.cells (ji os))]:=by
 unfold jw;rw[if_neg h,if_neg h2]
def nz(os:List fD)(o:fD):ji (os ++ [o])=ji os++(if o.iL then [o.p]else []):=by
 unfold ji
 rw[br,List.map_append]
 cases h:o.iL<;>simp[h]
def vw(os:List fD)(o:fD):k7 (os ++ [o])=k7 os ++ [o.p]:=by simp[k7]
def NZ(os:List fD):(k7 os).length=os.length:=by simp[k7]
def Td(os:List fD):(ji os).length≤os.length:=by unfold ji;rw[List.length_map];exact List.length_filter_le _ _
def Lr(g:eH)(p:Pos)(os:List fD):(jw g p os).length=if os = []then 6 else if ji os = []then 7 else 8:=by
 unfold jw
 split
 ·rfl
 ·split<;>rfl
def Lq(g:eH)(p:Pos)(os:List fD):6≤(jw g p os).length:=by rw[Lr];split<;>(try split)<;>omega
def Yi(g:eH)(p:Pos)(os:List fD)(o:fD):(jw g p os).length≤(jw g p (os ++ [o])).length:=by
 rw[Lr,Lr,if_neg (show os ++ [o]≠[]by simp)]
 by_cases h2:ji os = []
 ·rw[if_pos h2]
  split<;>split<;>omega
 ·rw[if_neg h2,if_neg (show ji (os ++ [o])≠[]by rw[nz];simp[h2])]
  split<;>omega
def Qp{g:eH}{p:Pos}{os:List fD}{n:Nat}(h6:6≤n)(hn:n≤(jw g p os).length):dedup ((((jw g p os).take n).map (mT n)).flatten.filter (· < (jw g p os).length))=List.range' n ((jw g p os).length-n):=by
 by_cases h:os = []
 ·subst h
  have:n=6:=by rw[zM]at hn;simp at hn;omega
  subst this
  rw[zM];simp
 ·by_cases h2:ji os = []
  ·rw[uQ g p h h2]at *
   have:n=6∨n=7:=by simp at hn;omega
   rcases this with rfl|rfl<;>simp<;>rfl
  ·rw[qP g p h h2]at *
   have:n=6∨n=7∨n=8:=by simp at hn;omega
   rcases this with rfl|rfl|rfl<;>simp<;>rfl
def Qo(g:eH)(p:Pos)(os:List fD):q8 (jw g p os).length (jw g p os):=by
 by_cases h:os = []
 ·subst h
  rw[zM];simp
 ·by_cases h2:ji os = []
  ·rw[uQ g p h h2];simp
  ·rw[qP g p h h2];simp
def vY{g:eH}{p:Pos}{os:List fD}{n:Nat}{live:List Nat}{env:Env}{r:Bool}(h6:6≤n)(hn:n≤(jw g p os).length)(he:((forget live env).all fun p=>lh n p.2)=true) :
  cut n live { env:=env,H:=jw g p os,marks:=[],fW:=r } = { env:=forget live env,H:=jw g p os,marks:=[],fW:=r }:=UT hn he (Qp h6 hn) (Qo g p os)
def Yh{g:eH}{p:Pos}{os:List fD}{n:Nat}{d:D}(h6:6≤n)(hn:n≤(jw g p os).length)(he:lh n d=true):leave 0 n (jw g p os) d=(d,jw g p os):=Z8 hn he (Qp h6 hn) (Qo g p os)
def zN{g:eH}{p:Pos}(os:List fD){n:Nat}{live:List Nat}{env:Env}{H:U}{r:Bool}(hH:H=jw g p os)(h6:6≤n)(hn:n≤(jw g p os).length)(he:((forget live env).all fun p=>lh n p.2)=true) :
  cut n live { env:=env,H:=H,marks:=[],fW:=r } = { env:=forget live env,H:=H,marks:=[],fW:=r }:=by
 subst hH;exact vY h6 hn he
def f83(g:eH)(hg:fe g)(p:Pos)(hp:fO g p):Wf T 83 [.ic 5,.eW p.cells,.eW g.cells] (jw g p []) (fun _ H'=>∃ os,(∀ o,o∈os↔o∈oN g p)∧os.length≤3600000000∧H'=jw g p os):=by
 have hz:=hp.size
 have hb:=hg.iw.size
 have hk:=hg.kinds
 have ik:=hp.side
 have Wu:(jw g p []).length=6:=rfl
 have zr:=Lq g p []
 have Hy:5<(jw g p []).length:=zr
 refine Yg Gb ?_
 simp[Gb]
 refine eN.e ((0,[]):Int×List fD) (fun y=>[(0,.ic 5),(1,.eW p.cells),(2,.eW g.cells),(14,dI p.cs),(15,.i p.cs.length),(16,.i y.1)]) (fun y=>jw g p y.2) (fun y=>0≤y.1∧y.1≤p.cs.length∧(∀ o,o∈y.2↔o∈(upto y.1.toNat).flatMap (ox g p))∧y.2.length≤400000000*y.1.toNat) (fun y=>(p.cs.length-y.1).toNat) ?_ ?_
 ·simp
 rintro⟨i,os⟩ ⟨i0,i1,i2,i3⟩
 dsimp only at i0 i1 i2 i3 ⊢
 have h6:=Lq g p os
 have h5:5<(jw g p os).length:=h6
 have BM:(jw g p []).length≤(jw g p os).length:=by rw[Wu];exact h6
 by_cases hi:i<p.cs.length
 ·have kI:∀ o,o∈(upto (i+1).toNat).flatMap (ox g p)↔o∈os∨o∈ox g p i:=fun o=>by
   rw[sQ i0,bA,List.mem_append,← i2];simp
  simp[hi]
  (with_reducible repeat' first|refine Xk ?_<;>try simp|refine Xs ?_ ?_<;>intro h<;>(try intro h')<;>(try simp[h])<;>try omega|refine Xg ?_|omega)
  refine Yc (f84 (gt p.cs i)) ?_
  simp
  by_cases hm:iU (gt p.cs i)=p.side
  ·obtain⟨m0,m1,m2,m3⟩:=CJ ik.1 hm
   have im:=hp.cs _ (eQ i0 hi)
   have ky:fm (gt p.cs i)<g.kinds.length:=u0 im.2 hk.1
   have gK:(gt g.kinds (fm (gt p.cs i))).gT.length≤4:=(hg.gT _ (eQ m0 ky)).1
   have lT:ox g p i=(gt g.kinds (fm (gt p.cs i))).gT.flatMap (rS g p i):=by unfold ox;rw[if_pos hm]
   simp[hm,show ¬ fm (gt p.cs i)<0 by omega]
   (with_reducible repeat' first|refine Xk ?_<;>try simp|refine Xs ?_ ?_<;>intro h<;>(try intro h')<;>(try simp[h])<;>try omega|refine Xg ?_|omega)
   refine eN.e ((0,os):Int×List fD) (fun y=>[(0,.ic 5),(1,.eW p.cells),(2,.eW g.cells),(4,.i i),(14,dI p.cs),(15,.i p.cs.length),(16,.i i),(40,.i (gt g.kinds (fm (gt p.cs i))).gT.length),(41,.i y.1)]) (fun y=>jw g p y.2) (fun y=>0≤y.1∧y.1≤(gt g.kinds (fm (gt p.cs i))).gT.length∧(jw g p os).length≤(jw g p y.2).length∧(∀ o,o∈y.2↔o∈os∨o∈((gt g.kinds (fm (gt p.cs i))).gT.take y.1.toNat).flatMap (rS g p i))∧y.2.length≤os.length+100000000*y.1.toNat) (fun y=>((gt g.kinds (fm (gt p.cs i))).gT.length-y.1).toNat) ?_ ?_
   ·simp
   rintro⟨j,tQ⟩ ⟨j0,j1,j2,j3,j4⟩
   dsimp only at j0 j1 j2 j3 j4 ⊢
   have vN:=Lq g p tQ
   have WE:5<(jw g p tQ).length:=vN
   by_cases hj:j<(gt g.kinds (fm (gt p.cs i))).gT.length
   ·simp[hj]
    refine Yq (f85 g hg p hp i j ⟨i0,hi⟩ hm ⟨j0,hj⟩) fun r hr=>?_
    simp
    refine eN.e ((0,tQ):Int×List fD) (fun y=>[(0,.ic 5),(1,.eW p.cells),(2,.eW g.cells),(4,.i i),(14,dI p.cs),(15,.i p.cs.length),(16,.i i),(40,.i (gt g.kinds (fm (gt p.cs i))).gT.length),(41,.i j),(52,dN 6 fD.cells r),(53,.i r.length),(54,.i y.1)]) (fun y=>jw g p y.2) (fun y=>0≤y.1∧y.1≤r.length∧(jw g p tQ).length≤(jw g p y.2).length∧(∀ o,o∈y.2↔o∈tQ∨o∈r.take y.1.toNat)∧y.2.length≤tQ.length+y.1.toNat) (fun y=>(r.length-y.1).toNat) ?_ ?_
    ·simp
    rintro⟨k,kA⟩ ⟨k0,k1,k2,k3,k4⟩
    dsimp only at k0 k1 k2 k3 k4 ⊢
    by_cases kH:k<r.length
    ·have iA:kA.length<2 ^ 39:=by have:=hr.2;omega
     have YM:=Td kA
     have gg:=NZ kA
     have rJ:=Nat.le_trans k2 (Yi g p kA (gt r k))
     have lW:∀ o,o∈kA ++ [gt r k]↔o∈tQ∨o∈r.take (k+1).toNat:=fun o=>by
      rw[gx k0 kH,List.mem_append,List.mem_append,k3,or_assoc]
     by_cases h1:kA = []
     ·subst h1
      rw[zM g p]at *
      simp[kH]
      (with_reducible repeat' first|refine Xk ?_<;>try simp|refine Xs ?_ ?_<;>intro h<;>(try intro h')<;>(try simp[h])<;>try omega|refine Xg ?_|omega)
      refine oU.r (rf:=1664) (env0:=[(7,.ptr 2 0 0),(8,.ptr 3 0 0)]) (Rd:=oS) (by simp) rfl rfl oS.a oS.b (mE rfl) (mE rfl) ?_
      cases ht:(gt r k).iL
      ·simp[oS,ht,gg]
       (with_reducible repeat' first|refine Xk ?_<;>try simp[gg]|refine Xs ?_ ?_<;>intro h<;>(try intro h')<;>(try simp[h,gg])<;>try omega|refine Xg ?_|omega)
       rw[zN ([] ++ [gt r k]) ?_ vN rJ ?_]
       ·simp
        refine LJ.i (k+1,[] ++ [gt r k]) rfl ?_ rfl rfl ?_
        ·dsimp only
         rw[uQ g p (os:=[] ++ [gt r k]) (by simp) (by rw[nz,ht];simp;rfl)]
         simp[k7,ji,ht,ix]
        ·exact eY ⟨rJ,lW,by dsimp only at k4 ⊢;simp at k4 ⊢;omega⟩
       ·rw[uQ g p (os:=[] ++ [gt r k]) (by simp) (by rw[nz,ht];simp;rfl)]
        simp[k7,ji,ht,ix]
       ·simp
        omega
      ·simp[oS,ht,gg]
       (with_reducible repeat' first|refine Xk ?_<;>try simp[gg]|refine Xs ?_ ?_<;>intro h<;>(try intro h')<;>(try simp[h,gg])<;>try omega|refine Xg ?_|omega)
       rw[zN ([] ++ [gt r k]) ?_ vN rJ ?_]
       ·simp
        refine LJ.i (k+1,[] ++ [gt r k]) rfl ?_ rfl rfl ?_
        ·dsimp only
         rw[qP g p (os:=[] ++ [gt r k]) (by simp) (by rw[nz,ht];simp)]
         simp[k7,ji,ht,ix]
        ·exact eY ⟨rJ,lW,by dsimp only at k4 ⊢;simp at k4 ⊢;omega⟩
       ·rw[qP g p (os:=[] ++ [gt r k]) (by simp) (by rw[nz,ht];simp)]
        simp[k7,ji,ht,ix]
       ·simp
        omega
     ·by_cases h2:ji kA = []
      ·have sA:kA.length-1+1=kA.length:=by have:=az.2 h1;omega
       rw[uQ g p h1 h2]at *
       simp[kH]
       (with_reducible repeat' first|refine Xk ?_<;>try simp|refine Xs ?_ ?_<;>intro h<;>(try intro h')<;>(try simp[h])<;>try omega|refine Xg ?_|omega)
       refine oU.r (rf:=1664) (env0:=[(7,.ptr 2 0 0),(8,.ptr 3 0 0)]) (Rd:=oS) (by simp) rfl rfl oS.a oS.b (mE rfl) (mE rfl) ?_
       cases ht:(gt r k).iL
       ·simp[oS,ht,gg]
        (with_reducible repeat' first|refine Xk ?_<;>try simp[gg]|refine Xs ?_ ?_<;>intro h<;>(try intro h')<;>(try simp[h,gg])<;>try omega|refine Xg ?_|omega)
        rw[zN (kA ++ [gt r k]) ?_ vN rJ ?_]
        ·simp
         refine LJ.i (k+1,kA ++ [gt r k]) rfl ?_ rfl rfl ?_
         ·dsimp only
          rw[uQ g p (os:=kA ++ [gt r k]) (by simp) (by rw[nz,ht];simp;exact h2)]
          simp[vw,nz,ht,h2,ix,sA]
         ·exact eY ⟨rJ,lW,by dsimp only at k4 ⊢;simp at k4 ⊢;omega⟩
        ·rw[uQ g p (os:=kA ++ [gt r k]) (by simp) (by rw[nz,ht];simp;exact h2)]
         simp[vw,nz,ht,h2,ix,sA]
        ·simp
         omega
       ·simp[oS,ht,gg]
        (with_reducible repeat' first|refine Xk ?_<;>try simp[gg]|refine Xs ?_ ?_<;>intro h<;>(try intro h')<;>(try simp[h,gg])<;>try omega|refine Xg ?_|omega)
        rw[zN (kA ++ [gt r k]) ?_ vN rJ ?_]
        ·simp
         refine LJ.i (k+1,kA ++ [gt r k]) rfl ?_ rfl rfl ?_
         ·dsimp only
          rw[qP g p (os:=kA ++ [gt r k]) (by simp) (by rw[nz,ht];simp)]
          simp[vw,nz,ht,h2,ix,sA]
         ·exact eY ⟨rJ,lW,by dsimp only at k4 ⊢;simp at k4 ⊢;omega⟩
        ·rw[qP g p (os:=kA ++ [gt r k]) (by simp) (by rw[nz,ht];simp)]
         simp[vw,nz,ht,h2,ix,sA]
        ·simp
         omega
      ·have sA:kA.length-1+1=kA.length:=by have:=az.2 h1;omega
       have B6:(ji kA).length-1+1=(ji kA).length:=by have:=az.2 h2;omega
       rw[qP g p h1 h2]at *
       simp[kH]
       (with_reducible repeat' first|refine Xk ?_<;>try simp|refine Xs ?_ ?_<;>intro h<;>(try intro h')<;>(try simp[h])<;>try omega|refine Xg ?_|omega)
       refine oU.r (rf:=1664) (env0:=[(7,.ptr 2 0 0),(8,.ptr 3 0 0)]) (Rd:=oS) (by simp) rfl rfl oS.a oS.b (mE rfl) (mE rfl) ?_
       cases ht:(gt r k).iL
       ·simp[oS,ht,gg]
        (with_reducible repeat' first|refine Xk ?_<;>try simp[gg]|refine Xs ?_ ?_<;>intro h<;>(try intro h')<;>(try simp[h,gg])<;>try omega|refine Xg ?_|omega)
        rw[zN (kA ++ [gt r k]) ?_ vN rJ ?_]
        ·simp
         refine LJ.i (k+1,kA ++ [gt r k]) rfl ?_ rfl rfl ?_
         ·dsimp only
          rw[qP g p (os:=kA ++ [gt r k]) (by simp) (by rw[nz,ht];simp;exact h2)]
          simp[vw,nz,ht,sA,B6]
         ·exact eY ⟨rJ,lW,by dsimp only at k4 ⊢;simp at k4 ⊢;omega⟩
        ·rw[qP g p (os:=kA ++ [gt r k]) (by simp) (by rw[nz,ht];simp;exact h2)]
         simp[vw,nz,ht,sA,B6]
        ·simp
         omega
       ·simp[oS,ht,gg]
        (with_reducible repeat' first|refine Xk ?_<;>try simp[gg]|refine Xs ?_ ?_<;>intro h<;>(try intro h')<;>(try simp[h,gg])<;>try omega|refine Xg ?_|omega)
        rw[zN (kA ++ [gt r k]) ?_ vN rJ ?_]
        ·simp
         refine LJ.i (k+1,kA ++ [gt r k]) rfl ?_ rfl rfl ?_
         ·dsimp only
          rw[qP g p (os:=kA ++ [gt r k]) (by simp) (by rw[nz,ht];simp)]
          simp[vw,nz,ht,sA,B6]
         ·exact eY ⟨rJ,lW,by dsimp only at k4 ⊢;simp at k4 ⊢;omega⟩
        ·rw[qP g p (os:=kA ++ [gt r k]) (by simp) (by rw[nz,ht];simp)]
         simp[vw,nz,ht,sA,B6]
        ·simp
         omega
    ·have iF:r.take k.toNat=r:=jh (by omega)
     rw[iF]at k3
     have HN:∀ o,o∈kA↔o∈os∨o∈((gt g.kinds (fm (gt p.cs i))).gT.take (j+1).toNat).flatMap (rS g p i):=fun o=>by
      rw[k3,j3,hr.1,gx j0 hj,bA,List.mem_append,or_assoc]
      simp
     simp[kH,vY (os:=kA) vN k2,vY (os:=kA) h6 (Nat.le_trans j2 k2),WE,h5]
     (with_reducible repeat' first|refine Xk ?_<;>try simp|refine Xs ?_ ?_<;>intro h<;>(try intro h')<;>(try simp[h])<;>try omega|refine Xg ?_|omega)
     refine LJ.i (j+1,kA) rfl rfl rfl rfl ?_
     have:=hr.2
     exact eY ⟨Nat.le_trans j2 k2,HN,by dsimp only at j4 k4 ⊢;omega⟩
   ·have iF:(gt g.kinds (fm (gt p.cs i))).gT.take j.toNat=(gt g.kinds (fm (gt p.cs i))).gT:=jh (by omega)
    rw[iF,← lT]at j3
    simp[hj,vY (os:=tQ) h6 j2,h5]
    (with_reducible repeat' first|refine Xk ?_<;>try simp|refine Xs ?_ ?_<;>intro h<;>(try intro h')<;>(try simp[h])<;>try omega|refine Xg ?_|omega)
    simp[vY (os:=tQ) zr (Nat.le_trans BM j2),Hy]
    refine LJ.i (i+1,tQ) rfl rfl rfl rfl ?_
    exact⟨by dsimp only;omega,by dsimp only;omega,by dsimp only;omega,fun o=>by rw[kI,j3],by dsimp only at j4 ⊢;omega⟩
  ·have lT:ox g p i = []:=by unfold ox;rw[if_neg hm]
   rw[lT]at kI
   have lU:0≤i+1∧i+1≤p.cs.length∧(∀ o,o∈os↔o∈(upto (i+1).toNat).flatMap (ox g p))∧os.length≤400000000*(i+1).toNat:=⟨by omega,by omega,fun o=>by rw[kI];simp,by omega⟩
   by_cases P7:fm (gt p.cs i)<0
   ·simp[P7]
    (with_reducible repeat' first|refine Xk ?_<;>try simp|refine Xs ?_ ?_<;>intro h<;>(try intro h')<;>(try simp[h])<;>try omega|refine Xg ?_|omega)
    simp[vY (os:=os) zr BM,Hy]
    exact LJ.i (i+1,os) rfl rfl rfl rfl (nj lU)
   ·simp[P7,hm]
    (with_reducible repeat' first|refine Xk ?_<;>try simp|refine Xs ?_ ?_<;>intro h<;>(try intro h')<;>(try simp[h])<;>try omega|refine Xg ?_|omega)
    simp[vY (os:=os) zr BM,Hy]
    exact LJ.i (i+1,os) rfl rfl rfl rfl (nj lU)
 ·simp[hi,vY (os:=os) zr BM,Hy]
  rw[Yh zr BM (by simp)]
  refine⟨os,fun o=>?_,by omega,rfl⟩
  rw[i2,oN,show i.toNat=p.cs.length by omega]
