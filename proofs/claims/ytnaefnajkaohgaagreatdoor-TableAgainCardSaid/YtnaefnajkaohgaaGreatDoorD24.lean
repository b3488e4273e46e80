/- Part 24 of the proof of skewer.skewerlaw15.TableAgain. -/
import Derived.Test.YtnaefnajkaohgaaGreatDoorD22
import Derived.Test.YtnaefnajkaohgaaGreatDoorD23
set_option linter.all false
namespace Go.Proofs.YtnaefnajkaohgaaGreatDoor
open Go Go.AL Classical
set_option maxRecDepth 10000
set_option maxHeartbeats 8000000
abbrev w8(g:eO)(p:Pos)(x y:D):U:=[.row 41 0 g.cells,.row 44 0 p.cells,.row 45 0 [x],.row 45 0 [y],.jL,.fZ 1664 [(7,.ptr 2 0 0),(8,.ptr 3 0 0)] .ready]
def jJ(os:List fq):List Pos:=os.map (·.p)
def iB(os:List fq):List Pos:=(os.filter (·.ig)).map (·.p)
def iI(g:eO)(p:Pos)(os:List fq):U:=
 if os = []then w8 g p .emp .emp else if iB os = []then w8 g p (.eN 6 (os.length-1) 5 0 os.length) .emp ++ [.row 44 (os.length-1) (cl Pos.cells (jJ os))]
 else w8 g p (.eN 6 (os.length-1) 5 0 os.length) (.eN 7 ((iB os).length-1) 5 0 (iB os).length) ++ [.row 44 (os.length-1) (cl Pos.cells (jJ os)),.row 44 ((iB os).length-1) (cl Pos.cells (iB os))]
theorem xj(g:eO)(p:Pos):iI g p []=w8 g p .emp .emp:=rfl
theorem sA(g:eO)(p:Pos){os:List fq}(h:os≠[])(h2:iB os = []):iI g p os=w8 g p (.eN 6 (os.length-1) 5 0 os.length) .emp ++ [.row 44 (os.length-1) (cl Pos.cells (jJ os))]:=by
 unfold iI;rw[if_neg h,if_pos h2]
theorem pc(g:eO)(p:Pos){os:List fq}(h:os≠[])(h2:iB os≠[]):iI g p os=w8 g p (.eN 6 (os.length-1) 5 0 os.length) (.eN 7 ((iB os).length-1) 5 0 (iB os).length) ++ [.row 44 (os.length-1) (cl Pos.cells (jJ os)),.row 44 ((iB os).length-1) (cl Pos.cells (iB os))]:=by
 unfold iI;rw[if_neg h,if_neg h2]
theorem lT(os:List fq)(o:fq):iB (os ++ [o])=iB os++(if o.ig then [o.p]else []):=by
 unfold iB
 rw[cv,List.map_append]
 cases h:o.ig<;>simp[h]
theorem tb(os:List fq)(o:fq):jJ (os ++ [o])=jJ os ++ [o.p]:=by simp[jJ]
theorem Lt(os:List fq):(jJ os).length=os.length:=by simp[jJ]
theorem Qw(os:List fq):(iB os).length≤os.length:=by unfold iB;rw[List.length_map];exact List.length_filter_le _ _
theorem IL(g:eO)(p:Pos)(os:List fq):(iI g p os).length=if os = []then 6 else if iB os = []then 7 else 8:=by
 unfold iI
 split
 ·rfl
 ·split<;>rfl
theorem IK(g:eO)(p:Pos)(os:List fq):6≤(iI g p os).length:=by rw[IL];split<;>(try split)<;>omega
theorem UJ(g:eO)(p:Pos)(os:List fq)(o:fq):(iI g p os).length≤(iI g p (os ++ [o])).length:=by
 rw[IL,IL,if_neg (show os ++ [o]≠[]by simp)]
 by_cases h2:iB os = []
 ·rw[if_pos h2]
  split<;>split<;>omega
 ·rw[if_neg h2,if_neg (show iB (os ++ [o])≠[]by rw[lT];simp[h2])]
  split<;>omega
theorem NO{g:eO}{p:Pos}{os:List fq}{n:Nat}(h6:6≤n)(hn:n≤(iI g p os).length):dedup ((((iI g p os).take n).map (mc n)).flatten.filter (· < (iI g p os).length))=List.range' n ((iI g p os).length-n):=by
 by_cases h:os = []
 ·subst h
  have:n=6:=by rw[xj]at hn;simp at hn;omega
  subst this
  rw[xj];simp
 ·by_cases h2:iB os = []
  ·rw[sA g p h h2]at *
   have:n=6∨n=7:=by simp at hn;omega
   rcases this with rfl|rfl<;>simp<;>rfl
  ·rw[pc g p h h2]at *
   have:n=6∨n=7∨n=8:=by simp at hn;omega
   rcases this with rfl|rfl|rfl<;>simp<;>rfl
theorem NN(g:eO)(p:Pos)(os:List fq):pr (iI g p os).length (iI g p os):=by
 by_cases h:os = []
 ·subst h
  rw[xj];simp
 ·by_cases h2:iB os = []
  ·rw[sA g p h h2];simp
  ·rw[pc g p h h2];simp
theorem tP{g:eO}{p:Pos}{os:List fq}{n:Nat}{live:List Nat}{env:Env}{r:Bool}(h6:6≤n)(hn:n≤(iI g p os).length)(he:((forget live env).all fun p=>jQ n p.2)=true) :
  cut n live { env:=env,H:=iI g p os,marks:=[],fL:=r } = { env:=forget live env,H:=iI g p os,marks:=[],fL:=r }:=RY hn he (NO h6 hn) (NN g p os)
theorem UI{g:eO}{p:Pos}{os:List fq}{n:Nat}{d:D}(h6:6≤n)(hn:n≤(iI g p os).length)(he:jQ n d=true):leave 0 n (iI g p os) d=(d,iI g p os):=Wl hn he (NO h6 hn) (NN g p os)
theorem xk{g:eO}{p:Pos}(os:List fq){n:Nat}{live:List Nat}{env:Env}{H:U}{r:Bool}(hH:H=iI g p os)(h6:6≤n)(hn:n≤(iI g p os).length)(he:((forget live env).all fun p=>jQ n p.2)=true) :
  cut n live { env:=env,H:=H,marks:=[],fL:=r } = { env:=forget live env,H:=H,marks:=[],fL:=r }:=by
 subst hH;exact tP h6 hn he
theorem f83(g:eO)(hg:fi g)(p:Pos)(hp:fF g p):Wf T 83 [.gO 5,.eZ p.cells,.eZ g.cells] (iI g p []) (fun _ H'=>∃ os,(∀ o,o∈os↔o∈mE g p)∧os.length≤3600000000∧H'=iI g p os):=by
 have hz:=hp.size
 have hb:=hg.gV.size
 have hk:=hg.kinds
 have gA:=hp.side
 have Tf:(iI g p []).length=6:=rfl
 have wW:=IK g p []
 have EB:5<(iI g p []).length:=wW
 refine Yg Df ?_
 simp[Df]
 refine eW.e ((0,[]):Int×List fq) (fun y=>[(0,.gO 5),(1,.eZ p.cells),(2,.eZ g.cells),(14,dI p.cs),(15,.i p.cs.length),(16,.i y.1)]) (fun y=>iI g p y.2) (fun y=>0≤y.1∧y.1≤p.cs.length∧(∀ o,o∈y.2↔o∈(upto y.1.toNat).flatMap (me g p))∧y.2.length≤400000000*y.1.toNat) (fun y=>(p.cs.length-y.1).toNat) ?_ ?_
 ·simp
 rintro⟨i,os⟩ ⟨i0,i1,i2,i3⟩
 dsimp only at i0 i1 i2 i3 ⊢
 have h6:=IK g p os
 have h5:5<(iI g p os).length:=h6
 have zo:(iI g p []).length≤(iI g p os).length:=by rw[Tf];exact h6
 by_cases hi:i<p.cs.length
 ·have l9:∀ o,o∈(upto (i+1).toNat).flatMap (me g p)↔o∈os∨o∈me g p i:=fun o=>by
   rw[qF i0,bA,List.mem_append,← i2];simp
  simp[hi]
  (with_reducible repeat' first|refine Xk ?_<;>try simp|refine Xs ?_ ?_<;>intro h<;>(try intro h')<;>(try simp[h])<;>(try omega)|refine Xg ?_|omega)
  refine Yc (f84 (gt p.cs i)) ?_
  simp
  by_cases hm:iu (gt p.cs i)=p.side
  ·obtain⟨m0,m1,m2,m3⟩:=vJ gA.1 hm
   have gQ:=hp.cs _ (eY i0 hi)
   have jc:ff (gt p.cs i)<g.kinds.length:=ru gQ.2 hk.1
   have lM:(gt g.kinds (ff (gt p.cs i))).gu.length≤4:=(hg.gu _ (eY m0 jc)).1
   have lZ:me g p i=(gt g.kinds (ff (gt p.cs i))).gu.flatMap (pT g p i):=by unfold me;rw[if_pos hm]
   simp[hm,show ¬ ff (gt p.cs i)<0 by omega]
   (with_reducible repeat' first|refine Xk ?_<;>try simp|refine Xs ?_ ?_<;>intro h<;>(try intro h')<;>(try simp[h])<;>(try omega)|refine Xg ?_|omega)
   refine eW.e ((0,os):Int×List fq) (fun y=>[(0,.gO 5),(1,.eZ p.cells),(2,.eZ g.cells),(4,.i i),(14,dI p.cs),(15,.i p.cs.length),(16,.i i),(40,.i (gt g.kinds (ff (gt p.cs i))).gu.length),(41,.i y.1)]) (fun y=>iI g p y.2) (fun y=>0≤y.1∧y.1≤(gt g.kinds (ff (gt p.cs i))).gu.length∧(iI g p os).length≤(iI g p y.2).length∧(∀ o,o∈y.2↔o∈os∨o∈((gt g.kinds (ff (gt p.cs i))).gu.take y.1.toNat).flatMap (pT g p i))∧y.2.length≤os.length+100000000*y.1.toNat) (fun y=>((gt g.kinds (ff (gt p.cs i))).gu.length-y.1).toNat) ?_ ?_
   ·simp
   rintro⟨j,rz⟩ ⟨j0,j1,j2,j3,j4⟩
   dsimp only at j0 j1 j2 j3 j4 ⊢
   have tC:=IK g p rz
   have Tp:5<(iI g p rz).length:=tC
   by_cases hj:j<(gt g.kinds (ff (gt p.cs i))).gu.length
   ·simp[hj]
    refine Yq (f85 g hg p hp i j ⟨i0,hi⟩ hm ⟨j0,hj⟩) fun r hr=>?_
    simp
    refine eW.e ((0,rz):Int×List fq) (fun y=>[(0,.gO 5),(1,.eZ p.cells),(2,.eZ g.cells),(4,.i i),(14,dI p.cs),(15,.i p.cs.length),(16,.i i),(40,.i (gt g.kinds (ff (gt p.cs i))).gu.length),(41,.i j),(52,dN 6 fq.cells r),(53,.i r.length),(54,.i y.1)]) (fun y=>iI g p y.2) (fun y=>0≤y.1∧y.1≤r.length∧(iI g p rz).length≤(iI g p y.2).length∧(∀ o,o∈y.2↔o∈rz∨o∈r.take y.1.toNat)∧y.2.length≤rz.length+y.1.toNat) (fun y=>(r.length-y.1).toNat) ?_ ?_
    ·simp
    rintro⟨k,ju⟩ ⟨k0,k1,k2,k3,k4⟩
    dsimp only at k0 k1 k2 k3 k4 ⊢
    by_cases jk:k<r.length
    ·have gS:ju.length<2 ^ 39:=by have:=hr.2;omega
     have U5:=Qw ju
     have fO:=Lt ju
     have om:=Nat.le_trans k2 (UJ g p ju (gt r k))
     have kC:∀ o,o∈ju ++ [gt r k]↔o∈rz∨o∈r.take (k+1).toNat:=fun o=>by
      rw[gx k0 jk,List.mem_append,List.mem_append,k3,or_assoc]
     by_cases h1:ju = []
     ·subst h1
      rw[xj g p]at *
      simp[jk]
      (with_reducible repeat' first|refine Xk ?_<;>try simp|refine Xs ?_ ?_<;>intro h<;>(try intro h')<;>(try simp[h])<;>(try omega)|refine Xg ?_|omega)
      refine n5.r (rf:=1664) (env0:=[(7,.ptr 2 0 0),(8,.ptr 3 0 0)]) (Rd:=mV) (by simp) rfl rfl mV.a mV.b (mh rfl) (mh rfl) ?_
      cases ht:(gt r k).ig
      ·simp[mV,ht,fO]
       (with_reducible repeat' first|refine Xk ?_<;>try simp[fO]|refine Xs ?_ ?_<;>intro h<;>(try intro h')<;>(try simp[h,fO])<;>(try omega)|refine Xg ?_|omega)
       rw[xk ([] ++ [gt r k]) ?_ tC om ?_]
       ·simp
        refine LJ.i (k+1,[] ++ [gt r k]) rfl ?_ rfl rfl ?_
        ·dsimp only
         rw[sA g p (os:=[] ++ [gt r k]) (by simp) (by rw[lT,ht];simp;rfl)]
         simp[jJ,iB,ht,gW]
        ·exact⟨by dsimp only;omega,by dsimp only;omega,by dsimp only;omega,om,kC,by dsimp only at k4 ⊢;simp at k4 ⊢;omega⟩
       ·rw[sA g p (os:=[] ++ [gt r k]) (by simp) (by rw[lT,ht];simp;rfl)]
        simp[jJ,iB,ht,gW]
       ·simp
        omega
      ·simp[mV,ht,fO]
       (with_reducible repeat' first|refine Xk ?_<;>try simp[fO]|refine Xs ?_ ?_<;>intro h<;>(try intro h')<;>(try simp[h,fO])<;>(try omega)|refine Xg ?_|omega)
       rw[xk ([] ++ [gt r k]) ?_ tC om ?_]
       ·simp
        refine LJ.i (k+1,[] ++ [gt r k]) rfl ?_ rfl rfl ?_
        ·dsimp only
         rw[pc g p (os:=[] ++ [gt r k]) (by simp) (by rw[lT,ht];simp)]
         simp[jJ,iB,ht,gW]
        ·exact⟨by dsimp only;omega,by dsimp only;omega,by dsimp only;omega,om,kC,by dsimp only at k4 ⊢;simp at k4 ⊢;omega⟩
       ·rw[pc g p (os:=[] ++ [gt r k]) (by simp) (by rw[lT,ht];simp)]
        simp[jJ,iB,ht,gW]
       ·simp
        omega
     ·by_cases h2:iB ju = []
      ·have q9:ju.length-1+1=ju.length:=by have:=aA.2 h1;omega
       rw[sA g p h1 h2]at *
       simp[jk]
       (with_reducible repeat' first|refine Xk ?_<;>try simp|refine Xs ?_ ?_<;>intro h<;>(try intro h')<;>(try simp[h])<;>(try omega)|refine Xg ?_|omega)
       refine n5.r (rf:=1664) (env0:=[(7,.ptr 2 0 0),(8,.ptr 3 0 0)]) (Rd:=mV) (by simp) rfl rfl mV.a mV.b (mh rfl) (mh rfl) ?_
       cases ht:(gt r k).ig
       ·simp[mV,ht,fO]
        (with_reducible repeat' first|refine Xk ?_<;>try simp[fO]|refine Xs ?_ ?_<;>intro h<;>(try intro h')<;>(try simp[h,fO])<;>(try omega)|refine Xg ?_|omega)
        rw[xk (ju ++ [gt r k]) ?_ tC om ?_]
        ·simp
         refine LJ.i (k+1,ju ++ [gt r k]) rfl ?_ rfl rfl ?_
         ·dsimp only
          rw[sA g p (os:=ju ++ [gt r k]) (by simp) (by rw[lT,ht];simp;exact h2)]
          simp[tb,lT,ht,h2,gW,q9]
         ·exact⟨by dsimp only;omega,by dsimp only;omega,by dsimp only;omega,om,kC,by dsimp only at k4 ⊢;simp at k4 ⊢;omega⟩
        ·rw[sA g p (os:=ju ++ [gt r k]) (by simp) (by rw[lT,ht];simp;exact h2)]
         simp[tb,lT,ht,h2,gW,q9]
        ·simp
         omega
       ·simp[mV,ht,fO]
        (with_reducible repeat' first|refine Xk ?_<;>try simp[fO]|refine Xs ?_ ?_<;>intro h<;>(try intro h')<;>(try simp[h,fO])<;>(try omega)|refine Xg ?_|omega)
        rw[xk (ju ++ [gt r k]) ?_ tC om ?_]
        ·simp
         refine LJ.i (k+1,ju ++ [gt r k]) rfl ?_ rfl rfl ?_
         ·dsimp only
          rw[pc g p (os:=ju ++ [gt r k]) (by simp) (by rw[lT,ht];simp)]
          simp[tb,lT,ht,h2,gW,q9]
         ·exact⟨by dsimp only;omega,by dsimp only;omega,by dsimp only;omega,om,kC,by dsimp only at k4 ⊢;simp at k4 ⊢;omega⟩
        ·rw[pc g p (os:=ju ++ [gt r k]) (by simp) (by rw[lT,ht];simp)]
         simp[tb,lT,ht,h2,gW,q9]
        ·simp
         omega
      ·have q9:ju.length-1+1=ju.length:=by have:=aA.2 h1;omega
       have zQ:(iB ju).length-1+1=(iB ju).length:=by have:=aA.2 h2;omega
       rw[pc g p h1 h2]at *
       simp[jk]
       (with_reducible repeat' first|refine Xk ?_<;>try simp|refine Xs ?_ ?_<;>intro h<;>(try intro h')<;>(try simp[h])<;>(try omega)|refine Xg ?_|omega)
       refine n5.r (rf:=1664) (env0:=[(7,.ptr 2 0 0),(8,.ptr 3 0 0)]) (Rd:=mV) (by simp) rfl rfl mV.a mV.b (mh rfl) (mh rfl) ?_
       cases ht:(gt r k).ig
       ·simp[mV,ht,fO]
        (with_reducible repeat' first|refine Xk ?_<;>try simp[fO]|refine Xs ?_ ?_<;>intro h<;>(try intro h')<;>(try simp[h,fO])<;>(try omega)|refine Xg ?_|omega)
        rw[xk (ju ++ [gt r k]) ?_ tC om ?_]
        ·simp
         refine LJ.i (k+1,ju ++ [gt r k]) rfl ?_ rfl rfl ?_
         ·dsimp only
          rw[pc g p (os:=ju ++ [gt r k]) (by simp) (by rw[lT,ht];simp;exact h2)]
          simp[tb,lT,ht,q9,zQ]
         ·exact⟨by dsimp only;omega,by dsimp only;omega,by dsimp only;omega,om,kC,by dsimp only at k4 ⊢;simp at k4 ⊢;omega⟩
        ·rw[pc g p (os:=ju ++ [gt r k]) (by simp) (by rw[lT,ht];simp;exact h2)]
         simp[tb,lT,ht,q9,zQ]
        ·simp
         omega
       ·simp[mV,ht,fO]
        (with_reducible repeat' first|refine Xk ?_<;>try simp[fO]|refine Xs ?_ ?_<;>intro h<;>(try intro h')<;>(try simp[h,fO])<;>(try omega)|refine Xg ?_|omega)
        rw[xk (ju ++ [gt r k]) ?_ tC om ?_]
        ·simp
         refine LJ.i (k+1,ju ++ [gt r k]) rfl ?_ rfl rfl ?_
         ·dsimp only
          rw[pc g p (os:=ju ++ [gt r k]) (by simp) (by rw[lT,ht];simp)]
          simp[tb,lT,ht,q9,zQ]
         ·exact⟨by dsimp only;omega,by dsimp only;omega,by dsimp only;omega,om,kC,by dsimp only at k4 ⊢;simp at k4 ⊢;omega⟩
        ·rw[pc g p (os:=ju ++ [gt r k]) (by simp) (by rw[lT,ht];simp)]
         simp[tb,lT,ht,q9,zQ]
        ·simp
         omega
    ·have gy:r.take k.toNat=r:=jg (by omega)
     rw[gy]at k3
     have EM:∀ o,o∈ju↔o∈os∨o∈((gt g.kinds (ff (gt p.cs i))).gu.take (j+1).toNat).flatMap (pT g p i):=fun o=>by
      rw[k3,j3,hr.1,gx j0 hj,bA,List.mem_append,or_assoc]
      simp
     simp[jk,tP (os:=ju) tC k2,tP (os:=ju) h6 (Nat.le_trans j2 k2),Tp,h5]
     (with_reducible repeat' first|refine Xk ?_<;>try simp|refine Xs ?_ ?_<;>intro h<;>(try intro h')<;>(try simp[h])<;>(try omega)|refine Xg ?_|omega)
     refine LJ.i (j+1,ju) rfl rfl rfl rfl ?_
     have:=hr.2
     exact⟨by dsimp only;omega,by dsimp only;omega,by dsimp only;omega,Nat.le_trans j2 k2,EM,by dsimp only at j4 k4 ⊢;omega⟩
   ·have gy:(gt g.kinds (ff (gt p.cs i))).gu.take j.toNat=(gt g.kinds (ff (gt p.cs i))).gu:=jg (by omega)
    rw[gy,← lZ]at j3
    simp[hj,tP (os:=rz) h6 j2,h5]
    (with_reducible repeat' first|refine Xk ?_<;>try simp|refine Xs ?_ ?_<;>intro h<;>(try intro h')<;>(try simp[h])<;>(try omega)|refine Xg ?_|omega)
    simp[tP (os:=rz) wW (Nat.le_trans zo j2),EB]
    refine LJ.i (i+1,rz) rfl rfl rfl rfl ?_
    exact⟨by dsimp only;omega,by dsimp only;omega,by dsimp only;omega,fun o=>by rw[l9,j3],by dsimp only at j4 ⊢;omega⟩
  ·have lZ:me g p i = []:=by unfold me;rw[if_neg hm]
   rw[lZ]at l9
   have kA:0≤i+1∧i+1≤p.cs.length∧(∀ o,o∈os↔o∈(upto (i+1).toNat).flatMap (me g p))∧os.length≤400000000*(i+1).toNat:=⟨by omega,by omega,fun o=>by rw[l9];simp,by omega⟩
   by_cases NA:ff (gt p.cs i)<0
   ·simp[NA]
    (with_reducible repeat' first|refine Xk ?_<;>try simp|refine Xs ?_ ?_<;>intro h<;>(try intro h')<;>(try simp[h])<;>(try omega)|refine Xg ?_|omega)
    simp[tP (os:=os) wW zo,EB]
    exact LJ.i (i+1,os) rfl rfl rfl rfl ⟨by dsimp only;omega,kA⟩
   ·simp[NA,hm]
    (with_reducible repeat' first|refine Xk ?_<;>try simp|refine Xs ?_ ?_<;>intro h<;>(try intro h')<;>(try simp[h])<;>(try omega)|refine Xg ?_|omega)
    simp[tP (os:=os) wW zo,EB]
    exact LJ.i (i+1,os) rfl rfl rfl rfl ⟨by dsimp only;omega,kA⟩
 ·simp[hi,tP (os:=os) wW zo,EB]
  rw[UI wW zo (by simp)]
  refine⟨os,fun o=>?_,by omega,rfl⟩
  rw[i2,mE,show i.toNat=p.cs.length by omega]
