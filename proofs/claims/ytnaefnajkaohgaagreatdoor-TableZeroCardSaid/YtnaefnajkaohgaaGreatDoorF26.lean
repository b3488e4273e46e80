/- Part 26 of the proof of skewer.skewerlaw15.TableZero. -/
import Derived.Test.YtnaefnajkaohgaaGreatDoorF24
import Derived.Test.YtnaefnajkaohgaaGreatDoorF25
set_option linter.all false
namespace Go.Proofs.YtnaefnajkaohgaaGreatDoor
open Go Go.AL Classical
set_option maxRecDepth 10000
set_option maxHeartbeats 8000000
abbrev vC(g:ew)(p:Pos)(x y:D):U:=[.row 41 0 g.cells,.row 44 0 p.cells,.row 45 0 [x],.row 45 0 [y],.jv,.fy 1664 [(7,.ptr 2 0 0),(8,.ptr 3 0 0)] .ready]
def jn(os:List eW):List Pos:=os.map (·.p)
def gY(os:List eW):List Pos:=(os.filter (·.gL)).map (·.p)
def ik(g:ew)(p:Pos)(os:List eW):U:=
 if os = []then vC g p .emp .emp else if gY os = []then vC g p (.et 6 (os.length-1) 5 0 os.length) .emp ++ [.row 44 (os.length-1) (cl Pos.cells (jn os))]
 else vC g p (.et 6 (os.length-1) 5 0 os.length) (.et 7 ((gY os).length-1) 5 0 (gY os).length) ++ [.row 44 (os.length-1) (cl Pos.cells (jn os)),.row 44 ((gY os).length-1) (cl Pos.cells (gY os))]
theorem vL(g:ew)(p:Pos):ik g p []=vC g p .emp .emp:=rfl
theorem q'(g:ew)(p:Pos){os:List eW}(h:os≠[])(h2:gY os = []):ik g p os=vC g p (.et 6 (os.length-1) 5 0 os.length) .emp ++ [.row 44 (os.length-1) (cl Pos.cells (jn os))]:=by
 unfold ik;rw[if_neg h,if_pos h2]
theorem n9(g:ew)(p:Pos){os:List eW}(h:os≠[])(h2:gY os≠[]):ik g p os=vC g p (.et 6 (os.length-1) 5 0 os.length) (.et 7 ((gY os).length-1) 5 0 (gY os).length) ++ [.row 44 (os.length-1) (cl Pos.cells (jn os)),.row 44 ((gY os).length-1) (cl Pos.cells (gY os))]:=by
 unfold ik;rw[if_neg h,if_neg h2]
theorem k6(os:List eW)(o:eW):gY (os ++ [o])=gY os++(if o.gL then [o.p]else []):=by
 unfold gY
 rw[List.filter_append,List.map_append]
 cases h:o.gL<;>simp[h]
theorem rO(os:List eW)(o:eW):jn (os ++ [o])=jn os ++ [o.p]:=by simp[jn]
theorem Jm(os:List eW):(jn os).length=os.length:=by simp[jn]
theorem NO(os:List eW):(gY os).length≤os.length:=by unfold gY;rw[List.length_map];exact List.length_filter_le _ _
theorem Gv(g:ew)(p:Pos)(os:List eW):(ik g p os).length=if os = []then 6 else if gY os = []then 7 else 8:=by
 unfold ik
 split
 ·rfl
 ·split<;>rfl
theorem Gu(g:ew)(p:Pos)(os:List eW):6≤(ik g p os).length:=by rw[Gv];split<;>(try split)<;>omega
theorem RJ(g:ew)(p:Pos)(os:List eW)(o:eW):(ik g p os).length≤(ik g p (os ++ [o])).length:=by
 rw[Gv,Gv,if_neg (show os ++ [o]≠[]by simp)]
 by_cases h2:gY os = []
 ·rw[if_pos h2]
  split<;>split<;>omega
 ·rw[if_neg h2,if_neg (show gY (os ++ [o])≠[]by rw[k6];simp[h2])]
  split<;>omega
theorem Lp{g:ew}{p:Pos}{os:List eW}{n:Nat}(h6:6≤n)(hn:n≤(ik g p os).length):dedup ((((ik g p os).take n).map (lM n)).flatten.filter (· < (ik g p os).length))=List.range' n ((ik g p os).length-n):=by
 by_cases h:os = []
 ·subst h
  have:n=6:=by rw[vL]at hn;simp at hn;omega
  subst this
  rw[vL];simp
 ·by_cases h2:gY os = []
  ·rw[q' g p h h2]at *
   have:n=6∨n=7:=by simp at hn;omega
   rcases this with rfl|rfl<;>simp<;>rfl
  ·rw[n9 g p h h2]at *
   have:n=6∨n=7∨n=8:=by simp at hn;omega
   rcases this with rfl|rfl|rfl<;>simp<;>rfl
theorem Lo(g:ew)(p:Pos)(os:List eW):ow (ik g p os).length (ik g p os):=by
 by_cases h:os = []
 ·subst h
  rw[vL];simp
 ·by_cases h2:gY os = []
  ·rw[q' g p h h2];simp
  ·rw[n9 g p h h2];simp
theorem sD{g:ew}{p:Pos}{os:List eW}{n:Nat}{live:List Nat}{env:Env}{r:Bool}(h6:6≤n)(hn:n≤(ik g p os).length)(he:((forget live env).all fun p=>js n p.2)=true) :
  cut n live { env:=env,H:=ik g p os,marks:=[],fM:=r } = { env:=forget live env,H:=ik g p os,marks:=[],fM:=r }:=O' hn he (Lp h6 hn) (Lo g p os)
theorem RI{g:ew}{p:Pos}{os:List eW}{n:Nat}{d:D}(h6:6≤n)(hn:n≤(ik g p os).length)(he:js n d=true):leave 0 n (ik g p os) d=(d,ik g p os):=To hn he (Lp h6 hn) (Lo g p os)
theorem vM{g:ew}{p:Pos}(os:List eW){n:Nat}{live:List Nat}{env:Env}{H:U}{r:Bool}(hH:H=ik g p os)(h6:6≤n)(hn:n≤(ik g p os).length)(he:((forget live env).all fun p=>js n p.2)=true) :
  cut n live { env:=env,H:=H,marks:=[],fM:=r } = { env:=forget live env,H:=H,marks:=[],fM:=r }:=by
 subst hH;exact sD h6 hn he
theorem f83(g:ew)(hg:eU g)(p:Pos)(hp:fj g p):Wf T 83 [.gv 5,.eF p.cells,.eF g.cells] (ik g p []) (fun _ H'=>∃ os,(∀ o,o∈os↔o∈l7 g p)∧os.length≤3600000000∧H'=ik g p os):=by
 have hz:=hp.size
 have hb:=hg.gF.size
 have hk:=hg.kinds
 have gp:=hp.side
 have Qi:(ik g p []).length=6:=rfl
 have vw:=Gu g p []
 have C5:5<(ik g p []).length:=vw
 refine Yg BV ?_
 simp[BV]
 refine eE.e ((0,[]):Int×List eW) (fun y=>[(0,.gv 5),(1,.eF p.cells),(2,.eF g.cells),(14,dI p.cs),(15,.i p.cs.length),(16,.i y.1)]) (fun y=>ik g p y.2) (fun y=>0≤y.1∧y.1≤p.cs.length∧(∀ o,o∈y.2↔o∈(upto y.1.toNat).flatMap (lP g p))∧y.2.length≤400000000*y.1.toNat) (fun y=>(p.cs.length-y.1).toNat) ?_ ?_
 ·simp
 rintro⟨i,os⟩ ⟨i0,i1,i2,i3⟩
 dsimp only at i0 i1 i2 i3 ⊢
 have h6:=Gu g p os
 have h5:5<(ik g p os).length:=h6
 have xO:(ik g p []).length≤(ik g p os).length:=by rw[Qi];exact h6
 by_cases hi:i<p.cs.length
 ·have mg:∀ o,o∈(upto (i+1).toNat).flatMap (lP g p)↔o∈os∨o∈lP g p i:=fun o=>by
   rw[qz i0,bp,List.mem_append,← i2];simp
  simp[hi]
  (with_reducible repeat' first|refine Xk ?_<;>try simp|refine Xs ?_ ?_<;>intro h<;>(try intro h')<;>(try simp[h])<;>(try omega)|refine Xg ?_|omega)
  refine Yc (f84 (gt p.cs i)) ?_
  simp
  by_cases hm:gR (gt p.cs i)=p.side
  ·obtain⟨m0,m1,m2,m3⟩:=yN gp.1 hm
   have gC:=hp.cs _ (eI i0 hi)
   have jY:eR (gt p.cs i)<g.kinds.length:=rp gC.2 hk.1
   have gI:(gt g.kinds (eR (gt p.cs i))).fW.length≤4:=(hg.fW _ (eI m0 jY)).1
   have kj:lP g p i=(gt g.kinds (eR (gt p.cs i))).fW.flatMap (oT g p i):=by unfold lP;rw[if_pos hm]
   simp[hm,show ¬ eR (gt p.cs i)<0 by omega]
   (with_reducible repeat' first|refine Xk ?_<;>try simp|refine Xs ?_ ?_<;>intro h<;>(try intro h')<;>(try simp[h])<;>(try omega)|refine Xg ?_|omega)
   refine eE.e ((0,os):Int×List eW) (fun y=>[(0,.gv 5),(1,.eF p.cells),(2,.eF g.cells),(4,.i i),(14,dI p.cs),(15,.i p.cs.length),(16,.i i),(40,.i (gt g.kinds (eR (gt p.cs i))).fW.length),(41,.i y.1)]) (fun y=>ik g p y.2) (fun y=>0≤y.1∧y.1≤(gt g.kinds (eR (gt p.cs i))).fW.length∧(ik g p os).length≤(ik g p y.2).length∧(∀ o,o∈y.2↔o∈os∨o∈((gt g.kinds (eR (gt p.cs i))).fW.take y.1.toNat).flatMap (oT g p i))∧y.2.length≤os.length+100000000*y.1.toNat) (fun y=>((gt g.kinds (eR (gt p.cs i))).fW.length-y.1).toNat) ?_ ?_
   ·simp
   rintro⟨j,qw⟩ ⟨j0,j1,j2,j3,j4⟩
   dsimp only at j0 j1 j2 j3 j4 ⊢
   have sj:=Gu g p qw
   have Qs:5<(ik g p qw).length:=sj
   by_cases hj:j<(gt g.kinds (eR (gt p.cs i))).fW.length
   ·simp[hj]
    refine Yq (f85 g hg p hp i j ⟨i0,hi⟩ hm ⟨j0,hj⟩) fun r hr=>?_
    simp
    refine eE.e ((0,qw):Int×List eW) (fun y=>[(0,.gv 5),(1,.eF p.cells),(2,.eF g.cells),(4,.i i),(14,dI p.cs),(15,.i p.cs.length),(16,.i i),(40,.i (gt g.kinds (eR (gt p.cs i))).fW.length),(41,.i j),(52,dN 6 eW.cells r),(53,.i r.length),(54,.i y.1)]) (fun y=>ik g p y.2) (fun y=>0≤y.1∧y.1≤r.length∧(ik g p qw).length≤(ik g p y.2).length∧(∀ o,o∈y.2↔o∈qw∨o∈r.take y.1.toNat)∧y.2.length≤qw.length+y.1.toNat) (fun y=>(r.length-y.1).toNat) ?_ ?_
    ·simp
    rintro⟨k,iX⟩ ⟨k0,k1,k2,k3,k4⟩
    dsimp only at k0 k1 k2 k3 k4 ⊢
    by_cases jr:k<r.length
    ·have ig:iX.length<2 ^ 39:=by have:=hr.2;omega
     have R6:=NO iX
     have fr:=Jm iX
     have oN:=Nat.le_trans k2 (RJ g p iX (gt r k))
     have jM:∀ o,o∈iX ++ [gt r k]↔o∈qw∨o∈r.take (k+1).toNat:=fun o=>by
      rw[gg k0 jr,List.mem_append,List.mem_append,k3,or_assoc]
     by_cases h1:iX = []
     ·subst h1
      rw[vL g p]at *
      simp[jr]
      (with_reducible repeat' first|refine Xk ?_<;>try simp|refine Xs ?_ ?_<;>intro h<;>(try intro h')<;>(try simp[h])<;>(try omega)|refine Xg ?_|omega)
      refine nQ.r (rf:=1664) (env0:=[(7,.ptr 2 0 0),(8,.ptr 3 0 0)]) (Rd:=ma) (by simp) rfl rfl ma.a ma.b (l9 rfl) (l9 rfl) ?_
      cases ht:(gt r k).gL
      ·simp[ma,ht,fr]
       (with_reducible repeat' first|refine Xk ?_<;>try simp[fr]|refine Xs ?_ ?_<;>intro h<;>(try intro h')<;>(try simp[h,fr])<;>(try omega)|refine Xg ?_|omega)
       rw[vM ([] ++ [gt r k]) ?_ sj oN ?_]
       ·simp
        refine LJ.i (k+1,[] ++ [gt r k]) rfl ?_ rfl rfl ?_
        ·dsimp only
         rw[q' g p (os:=[] ++ [gt r k]) (by simp) (by rw[k6,ht];simp;rfl)]
         simp[jn,gY,ht,gV]
        ·exact⟨by dsimp only;omega,by dsimp only;omega,by dsimp only;omega,oN,jM,by dsimp only at k4 ⊢;simp at k4 ⊢;omega⟩
       ·rw[q' g p (os:=[] ++ [gt r k]) (by simp) (by rw[k6,ht];simp;rfl)]
        simp[jn,gY,ht,gV]
       ·simp
        omega
      ·simp[ma,ht,fr]
       (with_reducible repeat' first|refine Xk ?_<;>try simp[fr]|refine Xs ?_ ?_<;>intro h<;>(try intro h')<;>(try simp[h,fr])<;>(try omega)|refine Xg ?_|omega)
       rw[vM ([] ++ [gt r k]) ?_ sj oN ?_]
       ·simp
        refine LJ.i (k+1,[] ++ [gt r k]) rfl ?_ rfl rfl ?_
        ·dsimp only
         rw[n9 g p (os:=[] ++ [gt r k]) (by simp) (by rw[k6,ht];simp)]
         simp[jn,gY,ht,gV]
        ·exact⟨by dsimp only;omega,by dsimp only;omega,by dsimp only;omega,oN,jM,by dsimp only at k4 ⊢;simp at k4 ⊢;omega⟩
       ·rw[n9 g p (os:=[] ++ [gt r k]) (by simp) (by rw[k6,ht];simp)]
        simp[jn,gY,ht,gV]
       ·simp
        omega
     ·by_cases h2:gY iX = []
      ·have qg:iX.length-1+1=iX.length:=by have:=aB.2 h1;omega
       rw[q' g p h1 h2]at *
       simp[jr]
       (with_reducible repeat' first|refine Xk ?_<;>try simp|refine Xs ?_ ?_<;>intro h<;>(try intro h')<;>(try simp[h])<;>(try omega)|refine Xg ?_|omega)
       refine nQ.r (rf:=1664) (env0:=[(7,.ptr 2 0 0),(8,.ptr 3 0 0)]) (Rd:=ma) (by simp) rfl rfl ma.a ma.b (l9 rfl) (l9 rfl) ?_
       cases ht:(gt r k).gL
       ·simp[ma,ht,fr]
        (with_reducible repeat' first|refine Xk ?_<;>try simp[fr]|refine Xs ?_ ?_<;>intro h<;>(try intro h')<;>(try simp[h,fr])<;>(try omega)|refine Xg ?_|omega)
        rw[vM (iX ++ [gt r k]) ?_ sj oN ?_]
        ·simp
         refine LJ.i (k+1,iX ++ [gt r k]) rfl ?_ rfl rfl ?_
         ·dsimp only
          rw[q' g p (os:=iX ++ [gt r k]) (by simp) (by rw[k6,ht];simp;exact h2)]
          simp[rO,k6,ht,h2,gV,qg]
         ·exact⟨by dsimp only;omega,by dsimp only;omega,by dsimp only;omega,oN,jM,by dsimp only at k4 ⊢;simp at k4 ⊢;omega⟩
        ·rw[q' g p (os:=iX ++ [gt r k]) (by simp) (by rw[k6,ht];simp;exact h2)]
         simp[rO,k6,ht,h2,gV,qg]
        ·simp
         omega
       ·simp[ma,ht,fr]
        (with_reducible repeat' first|refine Xk ?_<;>try simp[fr]|refine Xs ?_ ?_<;>intro h<;>(try intro h')<;>(try simp[h,fr])<;>(try omega)|refine Xg ?_|omega)
        rw[vM (iX ++ [gt r k]) ?_ sj oN ?_]
        ·simp
         refine LJ.i (k+1,iX ++ [gt r k]) rfl ?_ rfl rfl ?_
         ·dsimp only
          rw[n9 g p (os:=iX ++ [gt r k]) (by simp) (by rw[k6,ht];simp)]
          simp[rO,k6,ht,h2,gV,qg]
         ·exact⟨by dsimp only;omega,by dsimp only;omega,by dsimp only;omega,oN,jM,by dsimp only at k4 ⊢;simp at k4 ⊢;omega⟩
        ·rw[n9 g p (os:=iX ++ [gt r k]) (by simp) (by rw[k6,ht];simp)]
         simp[rO,k6,ht,h2,gV,qg]
        ·simp
         omega
      ·have qg:iX.length-1+1=iX.length:=by have:=aB.2 h1;omega
       have yf:(gY iX).length-1+1=(gY iX).length:=by have:=aB.2 h2;omega
       rw[n9 g p h1 h2]at *
       simp[jr]
       (with_reducible repeat' first|refine Xk ?_<;>try simp|refine Xs ?_ ?_<;>intro h<;>(try intro h')<;>(try simp[h])<;>(try omega)|refine Xg ?_|omega)
       refine nQ.r (rf:=1664) (env0:=[(7,.ptr 2 0 0),(8,.ptr 3 0 0)]) (Rd:=ma) (by simp) rfl rfl ma.a ma.b (l9 rfl) (l9 rfl) ?_
       cases ht:(gt r k).gL
       ·simp[ma,ht,fr]
        (with_reducible repeat' first|refine Xk ?_<;>try simp[fr]|refine Xs ?_ ?_<;>intro h<;>(try intro h')<;>(try simp[h,fr])<;>(try omega)|refine Xg ?_|omega)
        rw[vM (iX ++ [gt r k]) ?_ sj oN ?_]
        ·simp
         refine LJ.i (k+1,iX ++ [gt r k]) rfl ?_ rfl rfl ?_
         ·dsimp only
          rw[n9 g p (os:=iX ++ [gt r k]) (by simp) (by rw[k6,ht];simp;exact h2)]
          simp[rO,k6,ht,qg,yf]
         ·exact⟨by dsimp only;omega,by dsimp only;omega,by dsimp only;omega,oN,jM,by dsimp only at k4 ⊢;simp at k4 ⊢;omega⟩
        ·rw[n9 g p (os:=iX ++ [gt r k]) (by simp) (by rw[k6,ht];simp;exact h2)]
         simp[rO,k6,ht,qg,yf]
        ·simp
         omega
       ·simp[ma,ht,fr]
        (with_reducible repeat' first|refine Xk ?_<;>try simp[fr]|refine Xs ?_ ?_<;>intro h<;>(try intro h')<;>(try simp[h,fr])<;>(try omega)|refine Xg ?_|omega)
        rw[vM (iX ++ [gt r k]) ?_ sj oN ?_]
        ·simp
         refine LJ.i (k+1,iX ++ [gt r k]) rfl ?_ rfl rfl ?_
         ·dsimp only
          rw[n9 g p (os:=iX ++ [gt r k]) (by simp) (by rw[k6,ht];simp)]
          simp[rO,k6,ht,qg,yf]
         ·exact⟨by dsimp only;omega,by dsimp only;omega,by dsimp only;omega,oN,jM,by dsimp only at k4 ⊢;simp at k4 ⊢;omega⟩
        ·rw[n9 g p (os:=iX ++ [gt r k]) (by simp) (by rw[k6,ht];simp)]
         simp[rO,k6,ht,qg,yf]
        ·simp
         omega
    ·have iq:r.take k.toNat=r:=iD (by omega)
     rw[iq]at k3
     have Db:∀ o,o∈iX↔o∈os∨o∈((gt g.kinds (eR (gt p.cs i))).fW.take (j+1).toNat).flatMap (oT g p i):=fun o=>by
      rw[k3,j3,hr.1,gg j0 hj,bp,List.mem_append,or_assoc]
      simp
     simp[jr,sD (os:=iX) sj k2,sD (os:=iX) h6 (Nat.le_trans j2 k2),Qs,h5]
     (with_reducible repeat' first|refine Xk ?_<;>try simp|refine Xs ?_ ?_<;>intro h<;>(try intro h')<;>(try simp[h])<;>(try omega)|refine Xg ?_|omega)
     refine LJ.i (j+1,iX) rfl rfl rfl rfl ?_
     have:=hr.2
     exact⟨by dsimp only;omega,by dsimp only;omega,by dsimp only;omega,Nat.le_trans j2 k2,Db,by dsimp only at j4 k4 ⊢;omega⟩
   ·have iq:(gt g.kinds (eR (gt p.cs i))).fW.take j.toNat=(gt g.kinds (eR (gt p.cs i))).fW:=iD (by omega)
    rw[iq,← kj]at j3
    simp[hj,sD (os:=qw) h6 j2,h5]
    (with_reducible repeat' first|refine Xk ?_<;>try simp|refine Xs ?_ ?_<;>intro h<;>(try intro h')<;>(try simp[h])<;>(try omega)|refine Xg ?_|omega)
    simp[sD (os:=qw) vw (Nat.le_trans xO j2),C5]
    refine LJ.i (i+1,qw) rfl rfl rfl rfl ?_
    exact⟨by dsimp only;omega,by dsimp only;omega,by dsimp only;omega,fun o=>by rw[mg,j3],by dsimp only at j4 ⊢;omega⟩
  ·have kj:lP g p i = []:=by unfold lP;rw[if_neg hm]
   rw[kj]at mg
   have jK:0≤i+1∧i+1≤p.cs.length∧(∀ o,o∈os↔o∈(upto (i+1).toNat).flatMap (lP g p))∧os.length≤400000000*(i+1).toNat:=⟨by omega,by omega,fun o=>by rw[mg];simp,by omega⟩
   by_cases K5:eR (gt p.cs i)<0
   ·simp[K5]
    (with_reducible repeat' first|refine Xk ?_<;>try simp|refine Xs ?_ ?_<;>intro h<;>(try intro h')<;>(try simp[h])<;>(try omega)|refine Xg ?_|omega)
    simp[sD (os:=os) vw xO,C5]
    exact LJ.i (i+1,os) rfl rfl rfl rfl ⟨by dsimp only;omega,jK⟩
   ·simp[K5,hm]
    (with_reducible repeat' first|refine Xk ?_<;>try simp|refine Xs ?_ ?_<;>intro h<;>(try intro h')<;>(try simp[h])<;>(try omega)|refine Xg ?_|omega)
    simp[sD (os:=os) vw xO,C5]
    exact LJ.i (i+1,os) rfl rfl rfl rfl ⟨by dsimp only;omega,jK⟩
 ·simp[hi,sD (os:=os) vw xO,C5]
  rw[RI vw xO (by simp)]
  refine⟨os,fun o=>?_,by omega,rfl⟩
  rw[i2,l7,show i.toNat=p.cs.length by omega]
