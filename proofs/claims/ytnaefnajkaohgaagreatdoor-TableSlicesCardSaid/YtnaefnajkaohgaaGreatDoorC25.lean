/- Part 25 of the proof of skewer.skewerlaw15.TableSlices. -/
import Derived.Test.YtnaefnajkaohgaaGreatDoorC23
import Derived.Test.YtnaefnajkaohgaaGreatDoorC24
set_option linter.all false
namespace Go.Proofs.YtnaefnajkaohgaaGreatDoor
open Go Go.AL Classical
set_option maxRecDepth 10000
set_option maxHeartbeats 8000000
abbrev hb26(g:Game)(p:Pos)(x y:D):Heap:=[.row 41 0 g.cells,.row 44 0 p.cells,.row 45 0 [x],.row 45 0 [y],.dfr,.rcd 1664 [(7,.ptr 2 0 0),(8,.ptr 3 0 0)] .ready]
def allP(os:List Outc):List Pos:=os.map (·.p)
def tkP(os:List Outc):List Pos:=(os.filter (·.took)).map (·.p)
def hpM(g:Game)(p:Pos)(os:List Outc):Heap:=
 if os = []then hb26 g p .emp .emp else if tkP os = []then hb26 g p (.osl 6 (os.length-1) 5 0 os.length) .emp ++ [.row 44 (os.length-1) (cl Pos.cells (allP os))]
 else hb26 g p (.osl 6 (os.length-1) 5 0 os.length) (.osl 7 ((tkP os).length-1) 5 0 (tkP os).length) ++ [.row 44 (os.length-1) (cl Pos.cells (allP os)),.row 44 ((tkP os).length-1) (cl Pos.cells (tkP os))]
theorem hpM_0(g:Game)(p:Pos):hpM g p []=hb26 g p .emp .emp:=rfl
theorem hpM_1(g:Game)(p:Pos){os:List Outc}(h:os≠[])(h2:tkP os = []):hpM g p os=hb26 g p (.osl 6 (os.length-1) 5 0 os.length) .emp ++ [.row 44 (os.length-1) (cl Pos.cells (allP os))]:=by
 unfold hpM;rw[if_neg h,if_pos h2]
theorem hpM_2(g:Game)(p:Pos){os:List Outc}(h:os≠[])(h2:tkP os≠[]):hpM g p os=hb26 g p (.osl 6 (os.length-1) 5 0 os.length) (.osl 7 ((tkP os).length-1) 5 0 (tkP os).length) ++ [.row 44 (os.length-1) (cl Pos.cells (allP os)),.row 44 ((tkP os).length-1) (cl Pos.cells (tkP os))]:=by
 unfold hpM;rw[if_neg h,if_neg h2]
theorem tkP_snoc(os:List Outc)(o:Outc):tkP (os ++ [o])=tkP os++(if o.took then [o.p]else []):=by
 unfold tkP
 rw[List.filter_append,List.map_append]
 cases h:o.took<;>simp[h]
theorem allP_snoc(os:List Outc)(o:Outc):allP (os ++ [o])=allP os ++ [o.p]:=by simp[allP]
theorem allP_len(os:List Outc):(allP os).length=os.length:=by simp[allP]
theorem tkP_len(os:List Outc):(tkP os).length≤os.length:=by unfold tkP;rw[List.length_map];exact List.length_filter_le _ _
theorem hpM_len(g:Game)(p:Pos)(os:List Outc):(hpM g p os).length=if os = []then 6 else if tkP os = []then 7 else 8:=by
 unfold hpM
 split
 ·rfl
 ·split<;>rfl
theorem hpM_6(g:Game)(p:Pos)(os:List Outc):6≤(hpM g p os).length:=by rw[hpM_len];split<;>(try split)<;>omega
theorem hpM_mono(g:Game)(p:Pos)(os:List Outc)(o:Outc):(hpM g p os).length≤(hpM g p (os ++ [o])).length:=by
 rw[hpM_len,hpM_len,if_neg (show os ++ [o]≠[]by simp)]
 by_cases h2:tkP os = []
 ·rw[if_pos h2]
  split<;>split<;>omega
 ·rw[if_neg h2,if_neg (show tkP (os ++ [o])≠[]by rw[tkP_snoc];simp[h2])]
  split<;>omega
theorem hpM_refs{g:Game}{p:Pos}{os:List Outc}{n:Nat}(h6:6≤n)(hn:n≤(hpM g p os).length):dedup ((((hpM g p os).take n).map (obRefs n)).flatten.filter (· < (hpM g p os).length))=List.range' n ((hpM g p os).length-n):=by
 by_cases h:os = []
 ·subst h
  have:n=6:=by rw[hpM_0]at hn;simp at hn;omega
  subst this
  rw[hpM_0];simp
 ·by_cases h2:tkP os = []
  ·rw[hpM_1 g p h h2]at *
   have:n=6∨n=7:=by simp at hn;omega
   rcases this with rfl|rfl<;>simp<;>rfl
  ·rw[hpM_2 g p h h2]at *
   have:n=6∨n=7∨n=8:=by simp at hn;omega
   rcases this with rfl|rfl|rfl<;>simp<;>rfl
theorem hpM_ok(g:Game)(p:Pos)(os:List Outc):okH (hpM g p os).length (hpM g p os):=by
 by_cases h:os = []
 ·subst h
  rw[hpM_0];simp
 ·by_cases h2:tkP os = []
  ·rw[hpM_1 g p h h2];simp
  ·rw[hpM_2 g p h h2];simp
theorem hpM_cut{g:Game}{p:Pos}{os:List Outc}{n:Nat}{live:List Nat}{env:Env}{r:Bool}(h6:6≤n)(hn:n≤(hpM g p os).length)(he:((forget live env).all fun p=>simA n p.2)=true) :
  cut n live { env:=env,H:=hpM g p os,marks:=[],rnd:=r } = { env:=forget live env,H:=hpM g p os,marks:=[],rnd:=r }:=cut_all hn he (hpM_refs h6 hn) (hpM_ok g p os)
theorem hpM_leave{g:Game}{p:Pos}{os:List Outc}{n:Nat}{d:D}(h6:6≤n)(hn:n≤(hpM g p os).length)(he:simA n d=true):leave 0 n (hpM g p os) d=(d,hpM g p os):=leave_all hn he (hpM_refs h6 hn) (hpM_ok g p os)
theorem hpM_cut'{g:Game}{p:Pos}(os:List Outc){n:Nat}{live:List Nat}{env:Env}{H:Heap}{r:Bool}(hH:H=hpM g p os)(h6:6≤n)(hn:n≤(hpM g p os).length)(he:((forget live env).all fun p=>simA n p.2)=true) :
  cut n live { env:=env,H:=H,marks:=[],rnd:=r } = { env:=forget live env,H:=H,marks:=[],rnd:=r }:=by
 subst hH;exact hpM_cut h6 hn he
theorem f83(g:Game)(hg:GameOK g)(p:Pos)(hp:PosOK g p):Wf T 83 [.yld 5,.fptr p.cells,.fptr g.cells] (hpM g p []) (fun _ H'=>∃ os,(∀ o,o∈os↔o∈outsL g p)∧os.length≤3600000000∧H'=hpM g p os):=by
 have hz:=hp.size
 have hb:=hg.board.size
 have hk:=hg.kinds
 have hsd:=hp.side
 have h06:(hpM g p []).length=6:=rfl
 have h60:=hpM_6 g p []
 have h50:5<(hpM g p []).length:=h60
 refine Yg F83 ?_
 simp[F83]
 refine XLoop.e ((0,[]):Int×List Outc) (fun y=>[(0,.yld 5),(1,.fptr p.cells),(2,.fptr g.cells),(14,dI p.cs),(15,.i p.cs.length),(16,.i y.1)]) (fun y=>hpM g p y.2) (fun y=>0≤y.1∧y.1≤p.cs.length∧(∀ o,o∈y.2↔o∈(upto y.1.toNat).flatMap (outsAt g p))∧y.2.length≤400000000*y.1.toNat) (fun y=>(p.cs.length-y.1).toNat) ?_ ?_
 ·simp
 rintro⟨i,os⟩ ⟨i0,i1,i2,i3⟩
 dsimp only at i0 i1 i2 i3 ⊢
 have h6:=hpM_6 g p os
 have h5:5<(hpM g p os).length:=h6
 have h0le:(hpM g p []).length≤(hpM g p os).length:=by rw[h06];exact h6
 by_cases hi:i<p.cs.length
 ·have hnext:∀ o,o∈(upto (i+1).toNat).flatMap (outsAt g p)↔o∈os∨o∈outsAt g p i:=fun o=>by
   rw[upto_succ i0,List.flatMap_append,List.mem_append,← i2];simp
  simp[hi]
  (with_reducible repeat' first|refine Xk ?_<;>try simp|refine Xs ?_ ?_<;>intro h<;>(try intro h')<;>(try simp[h])<;>(try omega)|refine Xg ?_|omega)
  refine Yc (f84 (gt p.cs i)) ?_
  simp
  by_cases hm:manS (gt p.cs i)=p.side
  ·obtain⟨m0,m1,m2,m3⟩:=manS_side hsd.1 hm
   have hcs:=hp.cs _ (gt_mem i0 hi)
   have hkk:manK (gt p.cs i)<g.kinds.length:=manK_le hcs.2 hk.1
   have hpl:(gt g.kinds (manK (gt p.cs i))).progs.length≤4:=(hg.progs _ (gt_mem m0 hkk)).1
   have hat:outsAt g p i=(gt g.kinds (manK (gt p.cs i))).progs.flatMap (outs1 g p i):=by unfold outsAt;rw[if_pos hm]
   simp[hm,show ¬ manK (gt p.cs i)<0 by omega]
   (with_reducible repeat' first|refine Xk ?_<;>try simp|refine Xs ?_ ?_<;>intro h<;>(try intro h')<;>(try simp[h])<;>(try omega)|refine Xg ?_|omega)
   refine XLoop.e ((0,os):Int×List Outc) (fun y=>[(0,.yld 5),(1,.fptr p.cells),(2,.fptr g.cells),(4,.i i),(14,dI p.cs),(15,.i p.cs.length),(16,.i i),(40,.i (gt g.kinds (manK (gt p.cs i))).progs.length),(41,.i y.1)]) (fun y=>hpM g p y.2) (fun y=>0≤y.1∧y.1≤(gt g.kinds (manK (gt p.cs i))).progs.length∧(hpM g p os).length≤(hpM g p y.2).length∧(∀ o,o∈y.2↔o∈os∨o∈((gt g.kinds (manK (gt p.cs i))).progs.take y.1.toNat).flatMap (outs1 g p i))∧y.2.length≤os.length+100000000*y.1.toNat) (fun y=>((gt g.kinds (manK (gt p.cs i))).progs.length-y.1).toNat) ?_ ?_
   ·simp
   rintro⟨j,os1⟩ ⟨j0,j1,j2,j3,j4⟩
   dsimp only at j0 j1 j2 j3 j4 ⊢
   have h61:=hpM_6 g p os1
   have h51:5<(hpM g p os1).length:=h61
   by_cases hj:j<(gt g.kinds (manK (gt p.cs i))).progs.length
   ·simp[hj]
    refine Yq (f85 g hg p hp i j ⟨i0,hi⟩ hm ⟨j0,hj⟩) fun r hr=>?_
    simp
    refine XLoop.e ((0,os1):Int×List Outc) (fun y=>[(0,.yld 5),(1,.fptr p.cells),(2,.fptr g.cells),(4,.i i),(14,dI p.cs),(15,.i p.cs.length),(16,.i i),(40,.i (gt g.kinds (manK (gt p.cs i))).progs.length),(41,.i j),(52,dN 6 Outc.cells r),(53,.i r.length),(54,.i y.1)]) (fun y=>hpM g p y.2) (fun y=>0≤y.1∧y.1≤r.length∧(hpM g p os1).length≤(hpM g p y.2).length∧(∀ o,o∈y.2↔o∈os1∨o∈r.take y.1.toNat)∧y.2.length≤os1.length+y.1.toNat) (fun y=>(r.length-y.1).toNat) ?_ ?_
    ·simp
    rintro⟨k,os2⟩ ⟨k0,k1,k2,k3,k4⟩
    dsimp only at k0 k1 k2 k3 k4 ⊢
    by_cases hk2:k<r.length
    ·have hl2:os2.length<2 ^ 39:=by have:=hr.2;omega
     have htl:=tkP_len os2
     have hal:=allP_len os2
     have hmono:=Nat.le_trans k2 (hpM_mono g p os2 (gt r k))
     have hnew:∀ o,o∈os2 ++ [gt r k]↔o∈os1∨o∈r.take (k+1).toNat:=fun o=>by
      rw[take_gt k0 hk2,List.mem_append,List.mem_append,k3,or_assoc]
     by_cases h1:os2 = []
     ·subst h1
      rw[hpM_0 g p]at *
      simp[hk2]
      (with_reducible repeat' first|refine Xk ?_<;>try simp|refine Xs ?_ ?_<;>intro h<;>(try intro h')<;>(try simp[h])<;>(try omega)|refine Xg ?_|omega)
      refine XYield.r (rf:=1664) (env0:=[(7,.ptr 2 0 0),(8,.ptr 3 0 0)]) (Rd:=R1664) (by simp) rfl rfl R1664.a R1664.b (unfz_no rfl) (unfz_no rfl) ?_
      cases ht:(gt r k).took
      ·simp[R1664,ht,hal]
       (with_reducible repeat' first|refine Xk ?_<;>try simp[hal]|refine Xs ?_ ?_<;>intro h<;>(try intro h')<;>(try simp[h,hal])<;>(try omega)|refine Xg ?_|omega)
       rw[hpM_cut' ([] ++ [gt r k]) ?_ h61 hmono ?_]
       ·simp
        refine LJ.i (k+1,[] ++ [gt r k]) rfl ?_ rfl rfl ?_
        ·dsimp only
         rw[hpM_1 g p (os:=[] ++ [gt r k]) (by simp) (by rw[tkP_snoc,ht];simp;rfl)]
         simp[allP,tkP,ht,cl_one]
        ·exact⟨by dsimp only;omega,by dsimp only;omega,by dsimp only;omega,hmono,hnew,by dsimp only at k4 ⊢;simp at k4 ⊢;omega⟩
       ·rw[hpM_1 g p (os:=[] ++ [gt r k]) (by simp) (by rw[tkP_snoc,ht];simp;rfl)]
        simp[allP,tkP,ht,cl_one]
       ·simp
        omega
      ·simp[R1664,ht,hal]
       (with_reducible repeat' first|refine Xk ?_<;>try simp[hal]|refine Xs ?_ ?_<;>intro h<;>(try intro h')<;>(try simp[h,hal])<;>(try omega)|refine Xg ?_|omega)
       rw[hpM_cut' ([] ++ [gt r k]) ?_ h61 hmono ?_]
       ·simp
        refine LJ.i (k+1,[] ++ [gt r k]) rfl ?_ rfl rfl ?_
        ·dsimp only
         rw[hpM_2 g p (os:=[] ++ [gt r k]) (by simp) (by rw[tkP_snoc,ht];simp)]
         simp[allP,tkP,ht,cl_one]
        ·exact⟨by dsimp only;omega,by dsimp only;omega,by dsimp only;omega,hmono,hnew,by dsimp only at k4 ⊢;simp at k4 ⊢;omega⟩
       ·rw[hpM_2 g p (os:=[] ++ [gt r k]) (by simp) (by rw[tkP_snoc,ht];simp)]
        simp[allP,tkP,ht,cl_one]
       ·simp
        omega
     ·by_cases h2:tkP os2 = []
      ·have hm1:os2.length-1+1=os2.length:=by have:=List.length_pos_iff.2 h1;omega
       rw[hpM_1 g p h1 h2]at *
       simp[hk2]
       (with_reducible repeat' first|refine Xk ?_<;>try simp|refine Xs ?_ ?_<;>intro h<;>(try intro h')<;>(try simp[h])<;>(try omega)|refine Xg ?_|omega)
       refine XYield.r (rf:=1664) (env0:=[(7,.ptr 2 0 0),(8,.ptr 3 0 0)]) (Rd:=R1664) (by simp) rfl rfl R1664.a R1664.b (unfz_no rfl) (unfz_no rfl) ?_
       cases ht:(gt r k).took
       ·simp[R1664,ht,hal]
        (with_reducible repeat' first|refine Xk ?_<;>try simp[hal]|refine Xs ?_ ?_<;>intro h<;>(try intro h')<;>(try simp[h,hal])<;>(try omega)|refine Xg ?_|omega)
        rw[hpM_cut' (os2 ++ [gt r k]) ?_ h61 hmono ?_]
        ·simp
         refine LJ.i (k+1,os2 ++ [gt r k]) rfl ?_ rfl rfl ?_
         ·dsimp only
          rw[hpM_1 g p (os:=os2 ++ [gt r k]) (by simp) (by rw[tkP_snoc,ht];simp;exact h2)]
          simp[allP_snoc,tkP_snoc,ht,h2,cl_one,hm1]
         ·exact⟨by dsimp only;omega,by dsimp only;omega,by dsimp only;omega,hmono,hnew,by dsimp only at k4 ⊢;simp at k4 ⊢;omega⟩
        ·rw[hpM_1 g p (os:=os2 ++ [gt r k]) (by simp) (by rw[tkP_snoc,ht];simp;exact h2)]
         simp[allP_snoc,tkP_snoc,ht,h2,cl_one,hm1]
        ·simp
         omega
       ·simp[R1664,ht,hal]
        (with_reducible repeat' first|refine Xk ?_<;>try simp[hal]|refine Xs ?_ ?_<;>intro h<;>(try intro h')<;>(try simp[h,hal])<;>(try omega)|refine Xg ?_|omega)
        rw[hpM_cut' (os2 ++ [gt r k]) ?_ h61 hmono ?_]
        ·simp
         refine LJ.i (k+1,os2 ++ [gt r k]) rfl ?_ rfl rfl ?_
         ·dsimp only
          rw[hpM_2 g p (os:=os2 ++ [gt r k]) (by simp) (by rw[tkP_snoc,ht];simp)]
          simp[allP_snoc,tkP_snoc,ht,h2,cl_one,hm1]
         ·exact⟨by dsimp only;omega,by dsimp only;omega,by dsimp only;omega,hmono,hnew,by dsimp only at k4 ⊢;simp at k4 ⊢;omega⟩
        ·rw[hpM_2 g p (os:=os2 ++ [gt r k]) (by simp) (by rw[tkP_snoc,ht];simp)]
         simp[allP_snoc,tkP_snoc,ht,h2,cl_one,hm1]
        ·simp
         omega
      ·have hm1:os2.length-1+1=os2.length:=by have:=List.length_pos_iff.2 h1;omega
       have hm2:(tkP os2).length-1+1=(tkP os2).length:=by have:=List.length_pos_iff.2 h2;omega
       rw[hpM_2 g p h1 h2]at *
       simp[hk2]
       (with_reducible repeat' first|refine Xk ?_<;>try simp|refine Xs ?_ ?_<;>intro h<;>(try intro h')<;>(try simp[h])<;>(try omega)|refine Xg ?_|omega)
       refine XYield.r (rf:=1664) (env0:=[(7,.ptr 2 0 0),(8,.ptr 3 0 0)]) (Rd:=R1664) (by simp) rfl rfl R1664.a R1664.b (unfz_no rfl) (unfz_no rfl) ?_
       cases ht:(gt r k).took
       ·simp[R1664,ht,hal]
        (with_reducible repeat' first|refine Xk ?_<;>try simp[hal]|refine Xs ?_ ?_<;>intro h<;>(try intro h')<;>(try simp[h,hal])<;>(try omega)|refine Xg ?_|omega)
        rw[hpM_cut' (os2 ++ [gt r k]) ?_ h61 hmono ?_]
        ·simp
         refine LJ.i (k+1,os2 ++ [gt r k]) rfl ?_ rfl rfl ?_
         ·dsimp only
          rw[hpM_2 g p (os:=os2 ++ [gt r k]) (by simp) (by rw[tkP_snoc,ht];simp;exact h2)]
          simp[allP_snoc,tkP_snoc,ht,hm1,hm2]
         ·exact⟨by dsimp only;omega,by dsimp only;omega,by dsimp only;omega,hmono,hnew,by dsimp only at k4 ⊢;simp at k4 ⊢;omega⟩
        ·rw[hpM_2 g p (os:=os2 ++ [gt r k]) (by simp) (by rw[tkP_snoc,ht];simp;exact h2)]
         simp[allP_snoc,tkP_snoc,ht,hm1,hm2]
        ·simp
         omega
       ·simp[R1664,ht,hal]
        (with_reducible repeat' first|refine Xk ?_<;>try simp[hal]|refine Xs ?_ ?_<;>intro h<;>(try intro h')<;>(try simp[h,hal])<;>(try omega)|refine Xg ?_|omega)
        rw[hpM_cut' (os2 ++ [gt r k]) ?_ h61 hmono ?_]
        ·simp
         refine LJ.i (k+1,os2 ++ [gt r k]) rfl ?_ rfl rfl ?_
         ·dsimp only
          rw[hpM_2 g p (os:=os2 ++ [gt r k]) (by simp) (by rw[tkP_snoc,ht];simp)]
          simp[allP_snoc,tkP_snoc,ht,hm1,hm2]
         ·exact⟨by dsimp only;omega,by dsimp only;omega,by dsimp only;omega,hmono,hnew,by dsimp only at k4 ⊢;simp at k4 ⊢;omega⟩
        ·rw[hpM_2 g p (os:=os2 ++ [gt r k]) (by simp) (by rw[tkP_snoc,ht];simp)]
         simp[allP_snoc,tkP_snoc,ht,hm1,hm2]
        ·simp
         omega
    ·have hall:r.take k.toNat=r:=take_all (by omega)
     rw[hall]at k3
     have hj2:∀ o,o∈os2↔o∈os∨o∈((gt g.kinds (manK (gt p.cs i))).progs.take (j+1).toNat).flatMap (outs1 g p i):=fun o=>by
      rw[k3,j3,hr.1,take_gt j0 hj,List.flatMap_append,List.mem_append,or_assoc]
      simp
     simp[hk2,hpM_cut (os:=os2) h61 k2,hpM_cut (os:=os2) h6 (Nat.le_trans j2 k2),h51,h5]
     (with_reducible repeat' first|refine Xk ?_<;>try simp|refine Xs ?_ ?_<;>intro h<;>(try intro h')<;>(try simp[h])<;>(try omega)|refine Xg ?_|omega)
     refine LJ.i (j+1,os2) rfl rfl rfl rfl ?_
     have:=hr.2
     exact⟨by dsimp only;omega,by dsimp only;omega,by dsimp only;omega,Nat.le_trans j2 k2,hj2,by dsimp only at j4 k4 ⊢;omega⟩
   ·have hall:(gt g.kinds (manK (gt p.cs i))).progs.take j.toNat=(gt g.kinds (manK (gt p.cs i))).progs:=take_all (by omega)
    rw[hall,← hat]at j3
    simp[hj,hpM_cut (os:=os1) h6 j2,h5]
    (with_reducible repeat' first|refine Xk ?_<;>try simp|refine Xs ?_ ?_<;>intro h<;>(try intro h')<;>(try simp[h])<;>(try omega)|refine Xg ?_|omega)
    simp[hpM_cut (os:=os1) h60 (Nat.le_trans h0le j2),h50]
    refine LJ.i (i+1,os1) rfl rfl rfl rfl ?_
    exact⟨by dsimp only;omega,by dsimp only;omega,by dsimp only;omega,fun o=>by rw[hnext,j3],by dsimp only at j4 ⊢;omega⟩
  ·have hat:outsAt g p i = []:=by unfold outsAt;rw[if_neg hm]
   rw[hat]at hnext
   have hfin:0≤i+1∧i+1≤p.cs.length∧(∀ o,o∈os↔o∈(upto (i+1).toNat).flatMap (outsAt g p))∧os.length≤400000000*(i+1).toNat:=⟨by omega,by omega,fun o=>by rw[hnext];simp,by omega⟩
   by_cases hk0:manK (gt p.cs i)<0
   ·simp[hk0]
    (with_reducible repeat' first|refine Xk ?_<;>try simp|refine Xs ?_ ?_<;>intro h<;>(try intro h')<;>(try simp[h])<;>(try omega)|refine Xg ?_|omega)
    simp[hpM_cut (os:=os) h60 h0le,h50]
    exact LJ.i (i+1,os) rfl rfl rfl rfl ⟨by dsimp only;omega,hfin⟩
   ·simp[hk0,hm]
    (with_reducible repeat' first|refine Xk ?_<;>try simp|refine Xs ?_ ?_<;>intro h<;>(try intro h')<;>(try simp[h])<;>(try omega)|refine Xg ?_|omega)
    simp[hpM_cut (os:=os) h60 h0le,h50]
    exact LJ.i (i+1,os) rfl rfl rfl rfl ⟨by dsimp only;omega,hfin⟩
 ·simp[hi,hpM_cut (os:=os) h60 h0le,h50]
  rw[hpM_leave h60 h0le (by simp)]
  refine⟨os,fun o=>?_,by omega,rfl⟩
  rw[i2,outsL,show i.toNat=p.cs.length by omega]
end Go.Proofs.YtnaefnajkaohgaaGreatDoor
