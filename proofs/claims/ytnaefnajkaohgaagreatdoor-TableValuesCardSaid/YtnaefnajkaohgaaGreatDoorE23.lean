/- Part 23 of the proof of skewer.skewerlaw15.TableValues. -/
import Derived.Test.YtnaefnajkaohgaaGreatDoorE21
import Derived.Test.YtnaefnajkaohgaaGreatDoorE22
set_option linter.all false
namespace Go.Proofs.YtnaefnajkaohgaaGreatDoor
open Go Go.AL Classical
set_option maxRecDepth 10000
set_option maxHeartbeats 8000000
abbrev xQ(g:eU)(p:Pos)(x y:D):U:=[.row 41 0 g.cells,.row 44 0 p.cells,.row 45 0 [x],.row 45 0 [y],.jv,.gg 1664 [(7,.ptr 2 0 0),(8,.ptr 3 0 0)] .ready]
def jY(os:List fD):List Pos:=os.map (·.p)
def iI(os:List fD):List Pos:=(os.filter (·.iu)).map (·.p)
def iU(g:eU)(p:Pos)(os:List fD):U:=
 if os = []then xQ g p .emp .emp else if iI os = []then xQ g p (.eT 6 (os.length-1) 5 0 os.length) .emp ++ [.row 44 (os.length-1) (cl Pos.cells (jY os))]
 else xQ g p (.eT 6 (os.length-1) 5 0 os.length) (.eT 7 ((iI os).length-1) 5 0 (iI os).length) ++ [.row 44 (os.length-1) (cl Pos.cells (jY os)),.row 44 ((iI os).length-1) (cl Pos.cells (iI os))]
theorem x4(g:eU)(p:Pos):iU g p []=xQ g p .emp .emp:=rfl
theorem s5(g:eU)(p:Pos){os:List fD}(h:os≠[])(h2:iI os = []):iU g p os=xQ g p (.eT 6 (os.length-1) 5 0 os.length) .emp ++ [.row 44 (os.length-1) (cl Pos.cells (jY os))]:=by
 unfold iU;rw[if_neg h,if_pos h2]
theorem pG(g:eU)(p:Pos){os:List fD}(h:os≠[])(h2:iI os≠[]):iU g p os=xQ g p (.eT 6 (os.length-1) 5 0 os.length) (.eT 7 ((iI os).length-1) 5 0 (iI os).length) ++ [.row 44 (os.length-1) (cl Pos.cells (jY os)),.row 44 ((iI os).length-1) (cl Pos.cells (iI os))]:=by
 unfold iU;rw[if_neg h,if_neg h2]
theorem mo(os:List fD)(o:fD):iI (os ++ [o])=iI os++(if o.iu then [o.p]else []):=by
 unfold iI
 rw[cj,List.map_append]
 cases h:o.iu<;>simp[h]
theorem tK(os:List fD)(o:fD):jY (os ++ [o])=jY os ++ [o.p]:=by simp[jY]
theorem Mc(os:List fD):(jY os).length=os.length:=by simp[jY]
theorem Rk(os:List fD):(iI os).length≤os.length:=by unfold iI;rw[List.length_map];exact List.length_filter_le _ _
theorem Js(g:eU)(p:Pos)(os:List fD):(iU g p os).length=if os = []then 6 else if iI os = []then 7 else 8:=by
 unfold iU
 split
 ·rfl
 ·split<;>rfl
theorem Jr(g:eU)(p:Pos)(os:List fD):6≤(iU g p os).length:=by rw[Js];split<;>(try split)<;>omega
theorem VT(g:eU)(p:Pos)(os:List fD)(o:fD):(iU g p os).length≤(iU g p (os ++ [o])).length:=by
 rw[Js,Js,if_neg (show os ++ [o]≠[]by simp)]
 by_cases h2:iI os = []
 ·rw[if_pos h2]
  split<;>split<;>omega
 ·rw[if_neg h2,if_neg (show iI (os ++ [o])≠[]by rw[mo];simp[h2])]
  split<;>omega
theorem OB{g:eU}{p:Pos}{os:List fD}{n:Nat}(h6:6≤n)(hn:n≤(iU g p os).length):dedup ((((iU g p os).take n).map (lU n)).flatten.filter (· < (iU g p os).length))=List.range' n ((iU g p os).length-n):=by
 by_cases h:os = []
 ·subst h
  have:n=6:=by rw[x4]at hn;simp at hn;omega
  subst this
  rw[x4];simp
 ·by_cases h2:iI os = []
  ·rw[s5 g p h h2]at *
   have:n=6∨n=7:=by simp at hn;omega
   rcases this with rfl|rfl<;>simp<;>rfl
  ·rw[pG g p h h2]at *
   have:n=6∨n=7∨n=8:=by simp at hn;omega
   rcases this with rfl|rfl|rfl<;>simp<;>rfl
theorem OA(g:eU)(p:Pos)(os:List fD):pQ (iU g p os).length (iU g p os):=by
 by_cases h:os = []
 ·subst h
  rw[x4];simp
 ·by_cases h2:iI os = []
  ·rw[s5 g p h h2];simp
  ·rw[pG g p h h2];simp
theorem uv{g:eU}{p:Pos}{os:List fD}{n:Nat}{live:List Nat}{env:Env}{r:Bool}(h6:6≤n)(hn:n≤(iU g p os).length)(he:((forget live env).all fun p=>kh n p.2)=true) :
  cut n live { env:=env,H:=iU g p os,marks:=[],fG:=r } = { env:=forget live env,H:=iU g p os,marks:=[],fG:=r }:=SY hn he (OB h6 hn) (OA g p os)
theorem VR{g:eU}{p:Pos}{os:List fD}{n:Nat}{d:D}(h6:6≤n)(hn:n≤(iU g p os).length)(he:kh n d=true):leave 0 n (iU g p os) d=(d,iU g p os):=XK hn he (OB h6 hn) (OA g p os)
theorem x5{g:eU}{p:Pos}(os:List fD){n:Nat}{live:List Nat}{env:Env}{H:U}{r:Bool}(hH:H=iU g p os)(h6:6≤n)(hn:n≤(iU g p os).length)(he:((forget live env).all fun p=>kh n p.2)=true) :
  cut n live { env:=env,H:=H,marks:=[],fG:=r } = { env:=forget live env,H:=H,marks:=[],fG:=r }:=by
 subst hH;exact uv h6 hn he
theorem f83(g:eU)(hg:fr g)(p:Pos)(hp:fR g p):Wf T 83 [.gP 5,.fh p.cells,.fh g.cells] (iU g p []) (fun _ H'=>∃ os,(∀ o,o∈os↔o∈nc g p)∧os.length≤3600000000∧H'=iU g p os):=by
 have hz:=hp.size
 have hb:=hg.ib.size
 have hk:=hg.kinds
 have gH:=hp.side
 have Uk:(iU g p []).length=6:=rfl
 have xM:=Jr g p []
 have Fq:5<(iU g p []).length:=xM
 refine Yg D4 ?_
 simp[D4]
 refine fe.e ((0,[]):Int×List fD) (fun y=>[(0,.gP 5),(1,.fh p.cells),(2,.fh g.cells),(14,dI p.cs),(15,.i p.cs.length),(16,.i y.1)]) (fun y=>iU g p y.2) (fun y=>0≤y.1∧y.1≤p.cs.length∧(∀ o,o∈y.2↔o∈(upto y.1.toNat).flatMap (mO g p))∧y.2.length≤400000000*y.1.toNat) (fun y=>(p.cs.length-y.1).toNat) ?_ ?_
 ·simp
 rintro⟨i,os⟩ ⟨i0,i1,i2,i3⟩
 dsimp only at i0 i1 i2 i3 ⊢
 have h6:=Jr g p os
 have h5:5<(iU g p os).length:=h6
 have Af:(iU g p []).length≤(iU g p os).length:=by rw[Uk];exact h6
 by_cases hi:i<p.cs.length
 ·have mJ:∀ o,o∈(upto (i+1).toNat).flatMap (mO g p)↔o∈os∨o∈mO g p i:=fun o=>by
   rw[q8 i0,bC,List.mem_append,← i2];simp
  simp[hi]
  (with_reducible repeat' first|refine Xk ?_<;>try simp|refine Xs ?_ ?_<;>intro h<;>(try intro h')<;>(try simp[h])<;>(try omega)|refine Xg ?_|omega)
  refine Yc (f84 (gt p.cs i)) ?_
  simp
  by_cases hm:iA (gt p.cs i)=p.side
  ·obtain⟨m0,m1,m2,m3⟩:=wz gH.1 hm
   have ic:=hp.cs _ (ff i0 hi)
   have jK:fo (gt p.cs i)<g.kinds.length:=r7 ic.2 hk.1
   have kU:(gt g.kinds (fo (gt p.cs i))).gD.length≤4:=(hg.gD _ (ff m0 jK)).1
   have lZ:mO g p i=(gt g.kinds (fo (gt p.cs i))).gD.flatMap (qo g p i):=by unfold mO;rw[if_pos hm]
   simp[hm,show ¬ fo (gt p.cs i)<0 by omega]
   (with_reducible repeat' first|refine Xk ?_<;>try simp|refine Xs ?_ ?_<;>intro h<;>(try intro h')<;>(try simp[h])<;>(try omega)|refine Xg ?_|omega)
   refine fe.e ((0,os):Int×List fD) (fun y=>[(0,.gP 5),(1,.fh p.cells),(2,.fh g.cells),(4,.i i),(14,dI p.cs),(15,.i p.cs.length),(16,.i i),(40,.i (gt g.kinds (fo (gt p.cs i))).gD.length),(41,.i y.1)]) (fun y=>iU g p y.2) (fun y=>0≤y.1∧y.1≤(gt g.kinds (fo (gt p.cs i))).gD.length∧(iU g p os).length≤(iU g p y.2).length∧(∀ o,o∈y.2↔o∈os∨o∈((gt g.kinds (fo (gt p.cs i))).gD.take y.1.toNat).flatMap (qo g p i))∧y.2.length≤os.length+100000000*y.1.toNat) (fun y=>((gt g.kinds (fo (gt p.cs i))).gD.length-y.1).toNat) ?_ ?_
   ·simp
   rintro⟨j,sc⟩ ⟨j0,j1,j2,j3,j4⟩
   dsimp only at j0 j1 j2 j3 j4 ⊢
   have ue:=Jr g p sc
   have Uu:5<(iU g p sc).length:=ue
   by_cases hj:j<(gt g.kinds (fo (gt p.cs i))).gD.length
   ·simp[hj]
    refine Yq (f85 g hg p hp i j ⟨i0,hi⟩ hm ⟨j0,hj⟩) fun r hr=>?_
    simp
    refine fe.e ((0,sc):Int×List fD) (fun y=>[(0,.gP 5),(1,.fh p.cells),(2,.fh g.cells),(4,.i i),(14,dI p.cs),(15,.i p.cs.length),(16,.i i),(40,.i (gt g.kinds (fo (gt p.cs i))).gD.length),(41,.i j),(52,dN 6 fD.cells r),(53,.i r.length),(54,.i y.1)]) (fun y=>iU g p y.2) (fun y=>0≤y.1∧y.1≤r.length∧(iU g p sc).length≤(iU g p y.2).length∧(∀ o,o∈y.2↔o∈sc∨o∈r.take y.1.toNat)∧y.2.length≤sc.length+y.1.toNat) (fun y=>(r.length-y.1).toNat) ?_ ?_
    ·simp
    rintro⟨k,jF⟩ ⟨k0,k1,k2,k3,k4⟩
    dsimp only at k0 k1 k2 k3 k4 ⊢
    by_cases ja:k<r.length
    ·have hJ:jF.length<2 ^ 39:=by have:=hr.2;omega
     have Wg:=Rk jF
     have fZ:=Mc jF
     have oJ:=Nat.le_trans k2 (VT g p jF (gt r k))
     have kT:∀ o,o∈jF ++ [gt r k]↔o∈sc∨o∈r.take (k+1).toNat:=fun o=>by
      rw[gE k0 ja,List.mem_append,List.mem_append,k3,or_assoc]
     by_cases h1:jF = []
     ·subst h1
      rw[x4 g p]at *
      simp[ja]
      (with_reducible repeat' first|refine Xk ?_<;>try simp|refine Xs ?_ ?_<;>intro h<;>(try intro h')<;>(try simp[h])<;>(try omega)|refine Xg ?_|omega)
      refine nJ.r (rf:=1664) (env0:=[(7,.ptr 2 0 0),(8,.ptr 3 0 0)]) (Rd:=nH) (by simp) rfl rfl nH.a nH.b (lJ rfl) (lJ rfl) ?_
      cases ht:(gt r k).iu
      ·simp[nH,ht,fZ]
       (with_reducible repeat' first|refine Xk ?_<;>try simp[fZ]|refine Xs ?_ ?_<;>intro h<;>(try intro h')<;>(try simp[h,fZ])<;>(try omega)|refine Xg ?_|omega)
       rw[x5 ([] ++ [gt r k]) ?_ ue oJ ?_]
       ·simp
        refine LJ.i (k+1,[] ++ [gt r k]) rfl ?_ rfl rfl ?_
        ·dsimp only
         rw[s5 g p (os:=[] ++ [gt r k]) (by simp) (by rw[mo,ht];simp;rfl)]
         simp[jY,iI,ht,gL]
        ·exact⟨by dsimp only;omega,by dsimp only;omega,by dsimp only;omega,oJ,kT,by dsimp only at k4 ⊢;simp at k4 ⊢;omega⟩
       ·rw[s5 g p (os:=[] ++ [gt r k]) (by simp) (by rw[mo,ht];simp;rfl)]
        simp[jY,iI,ht,gL]
       ·simp
        omega
      ·simp[nH,ht,fZ]
       (with_reducible repeat' first|refine Xk ?_<;>try simp[fZ]|refine Xs ?_ ?_<;>intro h<;>(try intro h')<;>(try simp[h,fZ])<;>(try omega)|refine Xg ?_|omega)
       rw[x5 ([] ++ [gt r k]) ?_ ue oJ ?_]
       ·simp
        refine LJ.i (k+1,[] ++ [gt r k]) rfl ?_ rfl rfl ?_
        ·dsimp only
         rw[pG g p (os:=[] ++ [gt r k]) (by simp) (by rw[mo,ht];simp)]
         simp[jY,iI,ht,gL]
        ·exact⟨by dsimp only;omega,by dsimp only;omega,by dsimp only;omega,oJ,kT,by dsimp only at k4 ⊢;simp at k4 ⊢;omega⟩
       ·rw[pG g p (os:=[] ++ [gt r k]) (by simp) (by rw[mo,ht];simp)]
        simp[jY,iI,ht,gL]
       ·simp
        omega
     ·by_cases h2:iI jF = []
      ·have mH:jF.length-1+1=jF.length:=by have:=az.2 h1;omega
       rw[s5 g p h1 h2]at *
       simp[ja]
       (with_reducible repeat' first|refine Xk ?_<;>try simp|refine Xs ?_ ?_<;>intro h<;>(try intro h')<;>(try simp[h])<;>(try omega)|refine Xg ?_|omega)
       refine nJ.r (rf:=1664) (env0:=[(7,.ptr 2 0 0),(8,.ptr 3 0 0)]) (Rd:=nH) (by simp) rfl rfl nH.a nH.b (lJ rfl) (lJ rfl) ?_
       cases ht:(gt r k).iu
       ·simp[nH,ht,fZ]
        (with_reducible repeat' first|refine Xk ?_<;>try simp[fZ]|refine Xs ?_ ?_<;>intro h<;>(try intro h')<;>(try simp[h,fZ])<;>(try omega)|refine Xg ?_|omega)
        rw[x5 (jF ++ [gt r k]) ?_ ue oJ ?_]
        ·simp
         refine LJ.i (k+1,jF ++ [gt r k]) rfl ?_ rfl rfl ?_
         ·dsimp only
          rw[s5 g p (os:=jF ++ [gt r k]) (by simp) (by rw[mo,ht];simp;exact h2)]
          simp[tK,mo,ht,h2,gL,mH]
         ·exact⟨by dsimp only;omega,by dsimp only;omega,by dsimp only;omega,oJ,kT,by dsimp only at k4 ⊢;simp at k4 ⊢;omega⟩
        ·rw[s5 g p (os:=jF ++ [gt r k]) (by simp) (by rw[mo,ht];simp;exact h2)]
         simp[tK,mo,ht,h2,gL,mH]
        ·simp
         omega
       ·simp[nH,ht,fZ]
        (with_reducible repeat' first|refine Xk ?_<;>try simp[fZ]|refine Xs ?_ ?_<;>intro h<;>(try intro h')<;>(try simp[h,fZ])<;>(try omega)|refine Xg ?_|omega)
        rw[x5 (jF ++ [gt r k]) ?_ ue oJ ?_]
        ·simp
         refine LJ.i (k+1,jF ++ [gt r k]) rfl ?_ rfl rfl ?_
         ·dsimp only
          rw[pG g p (os:=jF ++ [gt r k]) (by simp) (by rw[mo,ht];simp)]
          simp[tK,mo,ht,h2,gL,mH]
         ·exact⟨by dsimp only;omega,by dsimp only;omega,by dsimp only;omega,oJ,kT,by dsimp only at k4 ⊢;simp at k4 ⊢;omega⟩
        ·rw[pG g p (os:=jF ++ [gt r k]) (by simp) (by rw[mo,ht];simp)]
         simp[tK,mo,ht,h2,gL,mH]
        ·simp
         omega
      ·have mH:jF.length-1+1=jF.length:=by have:=az.2 h1;omega
       have sW:(iI jF).length-1+1=(iI jF).length:=by have:=az.2 h2;omega
       rw[pG g p h1 h2]at *
       simp[ja]
       (with_reducible repeat' first|refine Xk ?_<;>try simp|refine Xs ?_ ?_<;>intro h<;>(try intro h')<;>(try simp[h])<;>(try omega)|refine Xg ?_|omega)
       refine nJ.r (rf:=1664) (env0:=[(7,.ptr 2 0 0),(8,.ptr 3 0 0)]) (Rd:=nH) (by simp) rfl rfl nH.a nH.b (lJ rfl) (lJ rfl) ?_
       cases ht:(gt r k).iu
       ·simp[nH,ht,fZ]
        (with_reducible repeat' first|refine Xk ?_<;>try simp[fZ]|refine Xs ?_ ?_<;>intro h<;>(try intro h')<;>(try simp[h,fZ])<;>(try omega)|refine Xg ?_|omega)
        rw[x5 (jF ++ [gt r k]) ?_ ue oJ ?_]
        ·simp
         refine LJ.i (k+1,jF ++ [gt r k]) rfl ?_ rfl rfl ?_
         ·dsimp only
          rw[pG g p (os:=jF ++ [gt r k]) (by simp) (by rw[mo,ht];simp;exact h2)]
          simp[tK,mo,ht,mH,sW]
         ·exact⟨by dsimp only;omega,by dsimp only;omega,by dsimp only;omega,oJ,kT,by dsimp only at k4 ⊢;simp at k4 ⊢;omega⟩
        ·rw[pG g p (os:=jF ++ [gt r k]) (by simp) (by rw[mo,ht];simp;exact h2)]
         simp[tK,mo,ht,mH,sW]
        ·simp
         omega
       ·simp[nH,ht,fZ]
        (with_reducible repeat' first|refine Xk ?_<;>try simp[fZ]|refine Xs ?_ ?_<;>intro h<;>(try intro h')<;>(try simp[h,fZ])<;>(try omega)|refine Xg ?_|omega)
        rw[x5 (jF ++ [gt r k]) ?_ ue oJ ?_]
        ·simp
         refine LJ.i (k+1,jF ++ [gt r k]) rfl ?_ rfl rfl ?_
         ·dsimp only
          rw[pG g p (os:=jF ++ [gt r k]) (by simp) (by rw[mo,ht];simp)]
          simp[tK,mo,ht,mH,sW]
         ·exact⟨by dsimp only;omega,by dsimp only;omega,by dsimp only;omega,oJ,kT,by dsimp only at k4 ⊢;simp at k4 ⊢;omega⟩
        ·rw[pG g p (os:=jF ++ [gt r k]) (by simp) (by rw[mo,ht];simp)]
         simp[tK,mo,ht,mH,sW]
        ·simp
         omega
    ·have gu:r.take k.toNat=r:=js (by omega)
     rw[gu]at k3
     have FD:∀ o,o∈jF↔o∈os∨o∈((gt g.kinds (fo (gt p.cs i))).gD.take (j+1).toNat).flatMap (qo g p i):=fun o=>by
      rw[k3,j3,hr.1,gE j0 hj,bC,List.mem_append,or_assoc]
      simp
     simp[ja,uv (os:=jF) ue k2,uv (os:=jF) h6 (Nat.le_trans j2 k2),Uu,h5]
     (with_reducible repeat' first|refine Xk ?_<;>try simp|refine Xs ?_ ?_<;>intro h<;>(try intro h')<;>(try simp[h])<;>(try omega)|refine Xg ?_|omega)
     refine LJ.i (j+1,jF) rfl rfl rfl rfl ?_
     have:=hr.2
     exact⟨by dsimp only;omega,by dsimp only;omega,by dsimp only;omega,Nat.le_trans j2 k2,FD,by dsimp only at j4 k4 ⊢;omega⟩
   ·have gu:(gt g.kinds (fo (gt p.cs i))).gD.take j.toNat=(gt g.kinds (fo (gt p.cs i))).gD:=js (by omega)
    rw[gu,← lZ]at j3
    simp[hj,uv (os:=sc) h6 j2,h5]
    (with_reducible repeat' first|refine Xk ?_<;>try simp|refine Xs ?_ ?_<;>intro h<;>(try intro h')<;>(try simp[h])<;>(try omega)|refine Xg ?_|omega)
    simp[uv (os:=sc) xM (Nat.le_trans Af j2),Fq]
    refine LJ.i (i+1,sc) rfl rfl rfl rfl ?_
    exact⟨by dsimp only;omega,by dsimp only;omega,by dsimp only;omega,fun o=>by rw[mJ,j3],by dsimp only at j4 ⊢;omega⟩
  ·have lZ:mO g p i = []:=by unfold mO;rw[if_neg hm]
   rw[lZ]at mJ
   have kR:0≤i+1∧i+1≤p.cs.length∧(∀ o,o∈os↔o∈(upto (i+1).toNat).flatMap (mO g p))∧os.length≤400000000*(i+1).toNat:=⟨by omega,by omega,fun o=>by rw[mJ];simp,by omega⟩
   by_cases Oj:fo (gt p.cs i)<0
   ·simp[Oj]
    (with_reducible repeat' first|refine Xk ?_<;>try simp|refine Xs ?_ ?_<;>intro h<;>(try intro h')<;>(try simp[h])<;>(try omega)|refine Xg ?_|omega)
    simp[uv (os:=os) xM Af,Fq]
    exact LJ.i (i+1,os) rfl rfl rfl rfl ⟨by dsimp only;omega,kR⟩
   ·simp[Oj,hm]
    (with_reducible repeat' first|refine Xk ?_<;>try simp|refine Xs ?_ ?_<;>intro h<;>(try intro h')<;>(try simp[h])<;>(try omega)|refine Xg ?_|omega)
    simp[uv (os:=os) xM Af,Fq]
    exact LJ.i (i+1,os) rfl rfl rfl rfl ⟨by dsimp only;omega,kR⟩
 ·simp[hi,uv (os:=os) xM Af,Fq]
  rw[VR xM Af (by simp)]
  refine⟨os,fun o=>?_,by omega,rfl⟩
  rw[i2,nc,show i.toNat=p.cs.length by omega]
