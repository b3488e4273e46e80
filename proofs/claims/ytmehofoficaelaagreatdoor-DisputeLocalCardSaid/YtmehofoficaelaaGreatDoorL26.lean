/- Part 26 of DisputeLocal. -/
import Derived.Test.YtmehofoficaelaaGreatDoorL24
import Derived.Test.YtmehofoficaelaaGreatDoorL25
set_option linter.all false
namespace Go.Proofs.YtmehofoficaelaaGreatDoor
open Go Go.AL Classical
set_option maxRecDepth 10000
set_option maxHeartbeats 8000000
abbrev zC(g:eY)(p:Pos)(x y:D):U:=[.row 43 0 g.cells,.row 46 0 p.cells,.row 47 0 [x],.row 47 0 [y],.kJ,.gL 6016 [(7,.ptr 2 0 0),(8,.ptr 3 0 0)] .ready]
def lj(os:List fV):List Pos:=os.map (·.p)
def jx(os:List fV):List Pos:=(os.filter (·.jb)).map (·.p)
def jI(g:eY)(p:Pos)(os:List fV):U:=
 if os = []then zC g p .eU .eU else if jx os = []then zC g p (.eX 6 (os.length-1) 5 0 os.length) .eU ++ [.row 46 (os.length-1) (cl Pos.cells (lj os))]
 else zC g p (.eX 6 (os.length-1) 5 0 os.length) (.eX 7 ((jx os).length-1) 5 0 (jx os).length) ++ [.row 46 (os.length-1) (cl Pos.cells (lj os)),.row 46 ((jx os).length-1) (cl Pos.cells (jx os))]
def zM(g:eY)(p:Pos):jI g p []=zC g p .eU .eU:=rfl
def uq(g:eY)(p:Pos){os:List fV}(h:os≠[])(h2:jx os = []):jI g p os=zC g p (.eX 6 (os.length-1) 5 0 os.length) .eU ++ [.row 46 (os.length-1) (cl Pos.cells (lj os))]:=by
 unfold jI;rw[if_neg h,if_pos h2]
def qC(g:eY)(p:Pos){os:List fV}(h:os≠[])(h2:jx os≠[]):jI g p os=zC g p (.eX 6 (os.length-1) 5 0 os.length) (.eX 7 ((jx os).length-1) 5 0 (jx os).length) ++ [.row 46 (os.length-1) (cl Pos.cells (lj os)),.row 46 ((jx os).length-1) (cl Pos.cells (jx os))]:=by
 unfold jI;rw[if_neg h,if_neg h2]
def nz(os:List fV)(o:fV):jx (os ++ [o])=jx os++(if o.jb then [o.p]else []):=by
 unfold jx
 rw[List.filter_append,List.map_append]
 cases h:o.jb<;>simp[h]
def vd(os:List fV)(o:fV):lj (os ++ [o])=lj os ++ [o.p]:=by simp[lj]
def Oq(os:List fV):(lj os).length=os.length:=by simp[lj]
def Ty(os:List fV):(jx os).length≤os.length:=by unfold jx;rw[List.length_map];exact List.length_filter_le _ _
def Le(g:eY)(p:Pos)(os:List fV):(jI g p os).length=if os = []then 6 else if jx os = []then 7 else 8:=by
 unfold jI
 split
 ·rfl
 ·split<;>rfl
def Ld(g:eY)(p:Pos)(os:List fV):6≤(jI g p os).length:=by rw[Le];split<;>(try split)<;>omega
def Yi(g:eY)(p:Pos)(os:List fV)(o:fV):(jI g p os).length≤(jI g p (os ++ [o])).length:=by
 rw[Le,Le,if_neg (show os ++ [o]≠[]by simp)]
 by_cases h2:jx os = []
 ·rw[if_pos h2]
  split<;>split<;>omega
 ·rw[if_neg h2,if_neg (show jx (os ++ [o])≠[]by rw[nz];simp[h2])]
  split<;>omega
def QS{g:eY}{p:Pos}{os:List fV}{n:Nat}(h6:6≤n)(hn:n≤(jI g p os).length):dedup ((((jI g p os).take n).map (oo n)).flatten.filter (· < (jI g p os).length))=List.range' n ((jI g p os).length-n):=by
 by_cases h:os = []
 ·subst h
  have:n=6:=by rw[zM]at hn;simp at hn;omega
  subst this
  rw[zM];simp
 ·by_cases h2:jx os = []
  ·rw[uq g p h h2]at *
   have:n=6∨n=7:=by simp at hn;omega
   rcases this with rfl|rfl<;>simp<;>rfl
  ·rw[qC g p h h2]at *
   have:n=6∨n=7∨n=8:=by simp at hn;omega
   rcases this with rfl|rfl|rfl<;>simp<;>rfl
def QR(g:eY)(p:Pos)(os:List fV):qM (jI g p os).length (jI g p os):=by
 by_cases h:os = []
 ·subst h
  rw[zM];simp
 ·by_cases h2:jx os = []
  ·rw[uq g p h h2];simp
  ·rw[qC g p h h2];simp
def vQ{g:eY}{p:Pos}{os:List fV}{n:Nat}{live:List Nat}{env:Env}{r:Bool}(h6:6≤n)(hn:n≤(jI g p os).length)(he:((forget live env).all fun p=>lr n p.2)=true) :
  cut n live { env:=env,H:=jI g p os,marks:=[],gZ:=r } = { env:=forget live env,H:=jI g p os,marks:=[],gZ:=r }:=Vj hn he (QS h6 hn) (QR g p os)
def Yh{g:eY}{p:Pos}{os:List fV}{n:Nat}{d:D}(h6:6≤n)(hn:n≤(jI g p os).length)(he:lr n d=true):leave 0 n (jI g p os) d=(d,jI g p os):=ZO hn he (QS h6 hn) (QR g p os)
def zN{g:eY}{p:Pos}(os:List fV){n:Nat}{live:List Nat}{env:Env}{H:U}{r:Bool}(hH:H=jI g p os)(h6:6≤n)(hn:n≤(jI g p os).length)(he:((forget live env).all fun p=>lr n p.2)=true) :
  cut n live { env:=env,H:=H,marks:=[],gZ:=r } = { env:=forget live env,H:=H,marks:=[],gZ:=r }:=by
 subst hH;exact vQ h6 hn he
def f83(g:eY)(hg:gh g)(p:Pos)(hp:gG g p):Wf T 213 [.iA 5,.fj p.cells,.fj g.cells] (jI g p []) (fun _ H'=>∃ os,(∀ o,o∈os↔o∈oJ g p)∧os.length≤3600000000∧H'=jI g p os):=by
 have hz:=hp.size
 have hb:=hg.iY.size
 have hk:=hg.kinds
 have iE:=hp.side
 have WY:(jI g p []).length=6:=rfl
 have zu:=Ld g p []
 have Hm:5<(jI g p []).length:=zu
 refine Yg F1 ?_
 simp[F1]
 refine fh.e ((0,[]):Int×List fV) (fun y=>[(0,.iA 5),(1,.fj p.cells),(2,.fj g.cells),(14,dI p.cs),(15,.i p.cs.length),(16,.i y.1)]) (fun y=>jI g p y.2) (fun y=>0≤y.1∧y.1≤p.cs.length∧(∀ o,o∈y.2↔o∈(upto y.1.toNat).flatMap (oq g p))∧y.2.length≤400000000*y.1.toNat) (fun y=>(p.cs.length-y.1).toNat) ?_ ?_
 ·simp
 rintro⟨i,os⟩ ⟨i0,i1,i2,i3⟩
 dsimp only at i0 i1 i2 i3 ⊢
 have h6:=Ld g p os
 have h5:5<(jI g p os).length:=h6
 have BG:(jI g p []).length≤(jI g p os).length:=by rw[WY];exact h6
 by_cases hi:i<p.cs.length
 ·have mu:∀ o,o∈(upto (i+1).toNat).flatMap (oq g p)↔o∈os∨o∈oq g p i:=fun o=>by
   rw[tA i0,bx,List.mem_append,← i2];simp
  simp[hi]
  (with_reducible repeat' first|refine Xk ?_<;>try simp|refine Xs ?_ ?_<;>intro h<;>(try intro h')<;>(try simp[h])<;>try omega|refine Xg ?_|omega)
  refine Yc (f84 (gt p.cs i)) ?_
  simp
  by_cases hm:jo (gt p.cs i)=p.side
  ·obtain⟨m0,m1,m2,m3⟩:=CJ iE.1 hm
   have iL:=hp.cs _ (ft i0 hi)
   have ko:fF (gt p.cs i)<g.kinds.length:=uI iL.2 hk.1
   have iP:(gt g.kinds (fF (gt p.cs i))).iG.length≤4:=(hg.iG _ (ft m0 ko)).1
   have kf:oq g p i=(gt g.kinds (fF (gt p.cs i))).iG.flatMap (rz g p i):=by unfold oq;rw[if_pos hm]
   simp[hm,show ¬ fF (gt p.cs i)<0 by omega]
   (with_reducible repeat' first|refine Xk ?_<;>try simp|refine Xs ?_ ?_<;>intro h<;>(try intro h')<;>(try simp[h])<;>try omega|refine Xg ?_|omega)
   refine fh.e ((0,os):Int×List fV) (fun y=>[(0,.iA 5),(1,.fj p.cells),(2,.fj g.cells),(4,.i i),(14,dI p.cs),(15,.i p.cs.length),(16,.i i),(40,.i (gt g.kinds (fF (gt p.cs i))).iG.length),(41,.i y.1)]) (fun y=>jI g p y.2) (fun y=>0≤y.1∧y.1≤(gt g.kinds (fF (gt p.cs i))).iG.length∧(jI g p os).length≤(jI g p y.2).length∧(∀ o,o∈y.2↔o∈os∨o∈((gt g.kinds (fF (gt p.cs i))).iG.take y.1.toNat).flatMap (rz g p i))∧y.2.length≤os.length+100000000*y.1.toNat) (fun y=>((gt g.kinds (fF (gt p.cs i))).iG.length-y.1).toNat) ?_ ?_
   ·simp
   rintro⟨j,tv⟩ ⟨j0,j1,j2,j3,j4⟩
   dsimp only at j0 j1 j2 j3 j4 ⊢
   have vC:=Ld g p tv
   have W5:5<(jI g p tv).length:=vC
   by_cases hj:j<(gt g.kinds (fF (gt p.cs i))).iG.length
   ·simp[hj]
    refine Yq (f85 g hg p hp i j ⟨i0,hi⟩ hm ⟨j0,hj⟩) fun r hr=>?_
    simp
    refine fh.e ((0,tv):Int×List fV) (fun y=>[(0,.iA 5),(1,.fj p.cells),(2,.fj g.cells),(4,.i i),(14,dI p.cs),(15,.i p.cs.length),(16,.i i),(40,.i (gt g.kinds (fF (gt p.cs i))).iG.length),(41,.i j),(52,dN 6 fV.cells r),(53,.i r.length),(54,.i y.1)]) (fun y=>jI g p y.2) (fun y=>0≤y.1∧y.1≤r.length∧(jI g p tv).length≤(jI g p y.2).length∧(∀ o,o∈y.2↔o∈tv∨o∈r.take y.1.toNat)∧y.2.length≤tv.length+y.1.toNat) (fun y=>(r.length-y.1).toNat) ?_ ?_
    ·simp
    rintro⟨k,kM⟩ ⟨k0,k1,k2,k3,k4⟩
    dsimp only at k0 k1 k2 k3 k4 ⊢
    by_cases kL:k<r.length
    ·have iZ:kM.length<2 ^ 39:=by have:=hr.2;omega
     have HQ:=Ty kM
     have gu:=Oq kM
     have rj:=Nat.le_trans k2 (Yi g p kM (gt r k))
     have lS:∀ o,o∈kM ++ [gt r k]↔o∈tv∨o∈r.take (k+1).toNat:=fun o=>by
      rw[iD k0 kL,List.mem_append,List.mem_append,k3,or_assoc]
     by_cases h1:kM = []
     ·subst h1
      rw[zM g p]at *
      simp[kL]
      (with_reducible repeat' first|refine Xk ?_<;>try simp|refine Xs ?_ ?_<;>intro h<;>(try intro h')<;>(try simp[h])<;>try omega|refine Xg ?_|omega)
      refine pU.r (rf:=6016) (env0:=[(7,.ptr 2 0 0),(8,.ptr 3 0 0)]) (Rd:=oQ) (by simp) rfl rfl oQ.a oQ.b (nY rfl) (nY rfl) ?_
      cases ht:(gt r k).jb
      ·simp[oQ,ht,gu]
       (with_reducible repeat' first|refine Xk ?_<;>try simp[gu]|refine Xs ?_ ?_<;>intro h<;>(try intro h')<;>(try simp[h,gu])<;>try omega|refine Xg ?_|omega)
       rw[zN ([] ++ [gt r k]) ?_ vC rj ?_]
       ·simp
        refine LJ.i (k+1,[] ++ [gt r k]) rfl ?_ rfl rfl ?_
        ·dsimp only
         rw[uq g p (os:=[] ++ [gt r k]) (by simp) (by rw[nz,ht];simp;rfl)]
         simp[lj,jx,ht,jg]
        ·exact fQ ⟨rj,lS,by dsimp only at k4 ⊢;simp at k4 ⊢;omega⟩
       ·rw[uq g p (os:=[] ++ [gt r k]) (by simp) (by rw[nz,ht];simp;rfl)]
        simp[lj,jx,ht,jg]
       ·simp
        omega
      ·simp[oQ,ht,gu]
       (with_reducible repeat' first|refine Xk ?_<;>try simp[gu]|refine Xs ?_ ?_<;>intro h<;>(try intro h')<;>(try simp[h,gu])<;>try omega|refine Xg ?_|omega)
       rw[zN ([] ++ [gt r k]) ?_ vC rj ?_]
       ·simp
        refine LJ.i (k+1,[] ++ [gt r k]) rfl ?_ rfl rfl ?_
        ·dsimp only
         rw[qC g p (os:=[] ++ [gt r k]) (by simp) (by rw[nz,ht];simp)]
         simp[lj,jx,ht,jg]
        ·exact fQ ⟨rj,lS,by dsimp only at k4 ⊢;simp at k4 ⊢;omega⟩
       ·rw[qC g p (os:=[] ++ [gt r k]) (by simp) (by rw[nz,ht];simp)]
        simp[lj,jx,ht,jg]
       ·simp
        omega
     ·by_cases h2:jx kM = []
      ·have s9:kM.length-1+1=kM.length:=by have:=ay.2 h1;omega
       rw[uq g p h1 h2]at *
       simp[kL]
       (with_reducible repeat' first|refine Xk ?_<;>try simp|refine Xs ?_ ?_<;>intro h<;>(try intro h')<;>(try simp[h])<;>try omega|refine Xg ?_|omega)
       refine pU.r (rf:=6016) (env0:=[(7,.ptr 2 0 0),(8,.ptr 3 0 0)]) (Rd:=oQ) (by simp) rfl rfl oQ.a oQ.b (nY rfl) (nY rfl) ?_
       cases ht:(gt r k).jb
       ·simp[oQ,ht,gu]
        (with_reducible repeat' first|refine Xk ?_<;>try simp[gu]|refine Xs ?_ ?_<;>intro h<;>(try intro h')<;>(try simp[h,gu])<;>try omega|refine Xg ?_|omega)
        rw[zN (kM ++ [gt r k]) ?_ vC rj ?_]
        ·simp
         refine LJ.i (k+1,kM ++ [gt r k]) rfl ?_ rfl rfl ?_
         ·dsimp only
          rw[uq g p (os:=kM ++ [gt r k]) (by simp) (by rw[nz,ht];simp;exact h2)]
          simp[vd,nz,ht,h2,jg,s9]
         ·exact fQ ⟨rj,lS,by dsimp only at k4 ⊢;simp at k4 ⊢;omega⟩
        ·rw[uq g p (os:=kM ++ [gt r k]) (by simp) (by rw[nz,ht];simp;exact h2)]
         simp[vd,nz,ht,h2,jg,s9]
        ·simp
         omega
       ·simp[oQ,ht,gu]
        (with_reducible repeat' first|refine Xk ?_<;>try simp[gu]|refine Xs ?_ ?_<;>intro h<;>(try intro h')<;>(try simp[h,gu])<;>try omega|refine Xg ?_|omega)
        rw[zN (kM ++ [gt r k]) ?_ vC rj ?_]
        ·simp
         refine LJ.i (k+1,kM ++ [gt r k]) rfl ?_ rfl rfl ?_
         ·dsimp only
          rw[qC g p (os:=kM ++ [gt r k]) (by simp) (by rw[nz,ht];simp)]
          simp[vd,nz,ht,h2,jg,s9]
         ·exact fQ ⟨rj,lS,by dsimp only at k4 ⊢;simp at k4 ⊢;omega⟩
        ·rw[qC g p (os:=kM ++ [gt r k]) (by simp) (by rw[nz,ht];simp)]
         simp[vd,nz,ht,h2,jg,s9]
        ·simp
         omega
      ·have s9:kM.length-1+1=kM.length:=by have:=ay.2 h1;omega
       have B4:(jx kM).length-1+1=(jx kM).length:=by have:=ay.2 h2;omega
       rw[qC g p h1 h2]at *
       simp[kL]
       (with_reducible repeat' first|refine Xk ?_<;>try simp|refine Xs ?_ ?_<;>intro h<;>(try intro h')<;>(try simp[h])<;>try omega|refine Xg ?_|omega)
       refine pU.r (rf:=6016) (env0:=[(7,.ptr 2 0 0),(8,.ptr 3 0 0)]) (Rd:=oQ) (by simp) rfl rfl oQ.a oQ.b (nY rfl) (nY rfl) ?_
       cases ht:(gt r k).jb
       ·simp[oQ,ht,gu]
        (with_reducible repeat' first|refine Xk ?_<;>try simp[gu]|refine Xs ?_ ?_<;>intro h<;>(try intro h')<;>(try simp[h,gu])<;>try omega|refine Xg ?_|omega)
        rw[zN (kM ++ [gt r k]) ?_ vC rj ?_]
        ·simp
         refine LJ.i (k+1,kM ++ [gt r k]) rfl ?_ rfl rfl ?_
         ·dsimp only
          rw[qC g p (os:=kM ++ [gt r k]) (by simp) (by rw[nz,ht];simp;exact h2)]
          simp[vd,nz,ht,s9,B4]
         ·exact fQ ⟨rj,lS,by dsimp only at k4 ⊢;simp at k4 ⊢;omega⟩
        ·rw[qC g p (os:=kM ++ [gt r k]) (by simp) (by rw[nz,ht];simp;exact h2)]
         simp[vd,nz,ht,s9,B4]
        ·simp
         omega
       ·simp[oQ,ht,gu]
        (with_reducible repeat' first|refine Xk ?_<;>try simp[gu]|refine Xs ?_ ?_<;>intro h<;>(try intro h')<;>(try simp[h,gu])<;>try omega|refine Xg ?_|omega)
        rw[zN (kM ++ [gt r k]) ?_ vC rj ?_]
        ·simp
         refine LJ.i (k+1,kM ++ [gt r k]) rfl ?_ rfl rfl ?_
         ·dsimp only
          rw[qC g p (os:=kM ++ [gt r k]) (by simp) (by rw[nz,ht];simp)]
          simp[vd,nz,ht,s9,B4]
         ·exact fQ ⟨rj,lS,by dsimp only at k4 ⊢;simp at k4 ⊢;omega⟩
        ·rw[qC g p (os:=kM ++ [gt r k]) (by simp) (by rw[nz,ht];simp)]
         simp[vd,nz,ht,s9,B4]
        ·simp
         omega
    ·have jO:r.take k.toNat=r:=ky (by omega)
     rw[jO]at k3
     have Hy:∀ o,o∈kM↔o∈os∨o∈((gt g.kinds (fF (gt p.cs i))).iG.take (j+1).toNat).flatMap (rz g p i):=fun o=>by
      rw[k3,j3,hr.1,iD j0 hj,bx,List.mem_append,or_assoc]
      simp
     simp[kL,vQ (os:=kM) vC k2,vQ (os:=kM) h6 (Nat.le_trans j2 k2),W5,h5]
     (with_reducible repeat' first|refine Xk ?_<;>try simp|refine Xs ?_ ?_<;>intro h<;>(try intro h')<;>(try simp[h])<;>try omega|refine Xg ?_|omega)
     refine LJ.i (j+1,kM) rfl rfl rfl rfl ?_
     have:=hr.2
     exact fQ ⟨Nat.le_trans j2 k2,Hy,by dsimp only at j4 k4 ⊢;omega⟩
   ·have jO:(gt g.kinds (fF (gt p.cs i))).iG.take j.toNat=(gt g.kinds (fF (gt p.cs i))).iG:=ky (by omega)
    rw[jO,← kf]at j3
    simp[hj,vQ (os:=tv) h6 j2,h5]
    (with_reducible repeat' first|refine Xk ?_<;>try simp|refine Xs ?_ ?_<;>intro h<;>(try intro h')<;>(try simp[h])<;>try omega|refine Xg ?_|omega)
    simp[vQ (os:=tv) zu (Nat.le_trans BG j2),Hm]
    refine LJ.i (i+1,tv) rfl rfl rfl rfl ?_
    exact⟨by dsimp only;omega,by dsimp only;omega,by dsimp only;omega,fun o=>by rw[mu,j3],by dsimp only at j4 ⊢;omega⟩
  ·have kf:oq g p i = []:=by unfold oq;rw[if_neg hm]
   rw[kf]at mu
   have lD:0≤i+1∧i+1≤p.cs.length∧(∀ o,o∈os↔o∈(upto (i+1).toNat).flatMap (oq g p))∧os.length≤400000000*(i+1).toNat:=⟨by omega,by omega,fun o=>by rw[mu];simp,by omega⟩
   by_cases QB:fF (gt p.cs i)<0
   ·simp[QB]
    (with_reducible repeat' first|refine Xk ?_<;>try simp|refine Xs ?_ ?_<;>intro h<;>(try intro h')<;>(try simp[h])<;>try omega|refine Xg ?_|omega)
    simp[vQ (os:=os) zu BG,Hm]
    exact LJ.i (i+1,os) rfl rfl rfl rfl (ot lD)
   ·simp[QB,hm]
    (with_reducible repeat' first|refine Xk ?_<;>try simp|refine Xs ?_ ?_<;>intro h<;>(try intro h')<;>(try simp[h])<;>try omega|refine Xg ?_|omega)
    simp[vQ (os:=os) zu BG,Hm]
    exact LJ.i (i+1,os) rfl rfl rfl rfl (ot lD)
 ·simp[hi,vQ (os:=os) zu BG,Hm]
  rw[Yh zu BG (by simp)]
  refine⟨os,fun o=>?_,by omega,rfl⟩
  rw[i2,oJ,show i.toNat=p.cs.length by omega]
