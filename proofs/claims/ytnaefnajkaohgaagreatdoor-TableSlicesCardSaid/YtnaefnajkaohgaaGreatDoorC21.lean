/- Part 21 of the proof of skewer.skewerlaw15.TableSlices. -/
import Derived.Test.YtnaefnajkaohgaaGreatDoorC19
import Derived.Test.YtnaefnajkaohgaaGreatDoorC20
import Derived.Test.YtnaefnajkaohgaaGreatDoorC18
import Derived.Test.YtnaefnajkaohgaaGreatDoorC13
set_option linter.all false
namespace Go.Proofs.YtnaefnajkaohgaaGreatDoor
open Go Go.AL Classical
set_option maxRecDepth 10000
set_option maxHeartbeats 8000000
attribute [local simp] dSn
@[simp] theorem closed_dN8(l:List Sta):closed (dN 8 Sta.cells l)=true:=closed_dSn l
def seen(l:List Sta):Ob:=.map .str (l.map fun s=>(.string (keyS s),.b true))
theorem keyL_len{g:Game}(hg:GameOK g){p:Pos}(hp:PosOK g p):(keyL p).length<1000:=by
 have h1:=hp.size;have h2:=hp.h0.len;have h3:=hp.h1.len;have h4:=hg.board.size;have h5:=hg.kinds
 rw[keyL_def,fl_def]
 simp
 omega
theorem addL_snoc(x:Sta):∀ (l a:List Sta),addL a (l ++ [x])=if x∈addL a l then addL a l else addL a l ++ [x]
 | [],a=>rfl
 | y::l,a=>by rw[List.cons_append,addL,addL_snoc x l,addL]
@[simp] theorem shed_seen(ρ:Nat→Option Nat)(H:Heap)(n:Nat):((fun x:Value×D=>(x.1,shed ρ H n x.2)) ∘ fun s:Sta=>((.string (keyS s):Value),D.b true))=fun s:Sta=>((.string (keyS s):Value),D.b true):=by
 funext s;simp
@[simp] theorem top_seen(n:Nat)(f:List Nat→List Nat):(f ∘ (fun x:Value×D=>topRef n x.2) ∘ fun s:Sta=>((.string (keyS s):Value),D.b true))=fun _:Sta=>f []:=by
 funext s;rfl
@[simp] theorem flat_const(l:List Sta):(l.map fun _=>([]:List Nat)).flatten = []:=by
 induction l<;>simp_all
theorem nextL_snoc(g:Game)(x:Stp)(l:List Sta)(s:Sta):nextL g x (l ++ [s])=addL (nextL g x l) (stepL g s x):=by
 simp[nextL]
def afterL(g:Game):List Stp→List Sta→List Sta
 | [],now=>now
 | x::r,now=>afterL g r (nextL g x now)
def outs31(g:Game)(p:Pos)(c n:Int):List Outc:=(afterL g (gt (gt g.kinds (manK (gt p.cs c))).progs n) [startS p c]).filterMap (finS p.side)
theorem f121(g:Game)(hg:GameOK g)(p:Pos)(hp:PosOK g p)(c n:Int)(hc:0≤c∧c<p.cs.length)(hs:manS (gt p.cs c)=p.side)(hn:0≤n∧n<(gt g.kinds (manK (gt p.cs c))).progs.length) :
  Wf T 121 [dG g,dP p,.i c,.i n,.fn (.func 122) [] [.ptr 1 0 0,.ptr 2 0 0]] [.row 41 0 g.cells,.row 44 0 p.cells,.row 164 0 [.emp]] (fun d H'=>d = .i 0∧H'=if outs31 g p c n = []then [.row 41 0 g.cells,.row 44 0 p.cells,.row 164 0 [.emp]]else [.row 41 0 g.cells,.row 44 0 p.cells,.row 164 0 [.osl 3 ((outs31 g p c n).length-1) 6 0 (outs31 g p c n).length],.row 113 ((outs31 g p c n).length-1) (cl Outc.cells (outs31 g p c n))]):=by
 have hz:=hp.size
 have hb:=hg.board.size
 have hk:=hg.kinds
 have hsd:=hp.side
 have hcs:=hp.cs _ (gt_mem hc.1 hc.2)
 have hm0:0≤manK (gt p.cs c):=by
  unfold manS at hs;unfold manK
  split at hs<;>rename_i h5
  ·rw[if_pos h5];omega
  ·omega
 have hm:manK (gt p.cs c)<g.kinds.length:=manK_le hcs.2 hk.1
 refine Yz F121 (insB 127 [1017] (insB 79 [9] (insB 77 [5,6,7] F121.body))) ?_
 simp[F121,insB,insC,befK,froK,hasK,headIs]
 refine Yc (f97 g hg p hp) ?_
 simp
 (with_reducible repeat' first|refine Xk ?_<;>try simp|refine Xs ?_ ?_<;>intro h<;>(try intro h')<;>(try simp[h])<;>(try omega)|refine Xg ?_|omega)
 refine Yc (f84 (gt p.cs c)) ?_
 simp
 simp[hs]
 (with_reducible repeat' first|refine Xk ?_<;>try simp|refine Xs ?_ ?_<;>intro h<;>(try intro h')<;>(try simp[h])<;>(try omega)|refine Xg ?_|omega)
 have hsm:=hp.small hg
 have l0:=hp.h0.len
 have l1:=hp.h1.len
 have q0:=pt_len (l:=p.cs) (n:=c) (v:=0) hc.1 hc.2
 refine Yn (f91 { p:=p,kind:=manK (gt p.cs c),cur:=c,took:=false } hsm (by dsimp only;omega)) ?_
 simp
 (with_reducible repeat' first|refine Xk ?_<;>try simp[q0]|refine Xs ?_ ?_<;>intro h<;>(try intro h')<;>(try simp[h,q0])<;>(try omega)|refine Xg ?_|omega)
 have hpr:ProgOK g (gt (gt g.kinds (manK (gt p.cs c))).progs n):=(hg.progs _ (gt_mem hm0 hm)).2 _ (gt_mem hn.1 hn.2)
 have hst:StaOK g (startS p c):=⟨hp.setC hc.1 (by omega) (by omega),⟨hm0,hm⟩,⟨hc.1,by show c<g.size;omega⟩⟩
 have hO:outs31 g p c n=(afterL g (gt (gt g.kinds (manK (gt p.cs c))).progs n) [startS p c]).filterMap (finS p.side):=rfl
 generalize outs31 g p c n=OO at *
 generalize gt (gt g.kinds (manK (gt p.cs c))).progs n=prog at *
 have hpl:=hpr.len
 have hq:dN 8 Sta.cells [startS p c]=dSt [⟨⟨pt p.cs c 0,p.h0,p.h1,p.rights,p.side⟩,manK (gt p.cs c),c,false⟩]:=rfl
 refine XLoop.s (by simp[q0];rfl) ?_
 refine XLoop.k ((0,[startS p c]):Int×List Sta) (fun y=>[(4,.fn (.func 122) [] [.ptr 1 0 0,.ptr 2 0 0]),(5,.ptr 3 0 0),(14,dSn y.2),(87,dProg prog),(88,.i prog.length),(89,.i y.1)]) (fun y=>[.row 41 0 g.cells,.row 44 0 p.cells,.row 164 0 [.emp],.row 41 0 g.cells,.row 44 0 p.cells,.dead,.dead,.dead,.row 171 0 (startS p c).cells,.dead]) (fun y=>0≤y.1∧y.1≤prog.length∧(∀ s∈y.2,StaOK g s)∧y.2.length≤10 ^ y.1.toNat∧afterL g prog [startS p c]=afterL g (prog.drop y.1.toNat) y.2) (fun y=>(prog.length-y.1).toNat) ?_ (by simp[hq]) (by simp[q0,startS]) rfl rfl rfl ?_
 ·simp
  exact hst
 rintro⟨k,now⟩ ⟨k0,k1,k2,k3,k4⟩
 dsimp only at k0 k1 k2 k3 k4 ⊢
 have h10:(10:Nat) ^ k.toNat≤10 ^ 8:=Nat.pow_le_pow_right (by decide) (by omega)
 by_cases hk:k<prog.length
 ·have hx:=hpr.steps _ (gt_mem k0 hk)
  simp[hk]
  (with_reducible repeat' first|refine Xk ?_<;>try simp|refine Xs ?_ ?_<;>intro h<;>(try intro h')<;>(try simp[h])<;>(try omega)|refine Xg ?_|omega)
  refine XLoop.e ((0,[]):Int×List Sta) (fun y=>[(4,.fn (.func 122) [] [.ptr 1 0 0,.ptr 2 0 0]),(5,.ptr 3 0 0),(16,.ptr 10 0 0),(17,if y.2 = []then .emp else .osl 12 (y.2.length-1) 8 0 y.2.length),(18,.omap 11),(87,dProg prog),(88,.i prog.length),(89,.i k),(94,dSn now),(95,.i now.length),(96,.i y.1)]) (fun y=>[.row 41 0 g.cells,.row 44 0 p.cells,.row 164 0 [.emp],.row 41 0 g.cells,.row 44 0 p.cells,.dead,.dead,.dead,.row 171 0 (startS p c).cells,.dead,.row 82 0 [.i (gt prog k).1,.i (gt prog k).2],.map .str (y.2.map fun s=>(.string (keyS s),.b true))]++(if y.2 = []then []else [.row 171 (y.2.length-1) (cl Sta.cells y.2)])) (fun y=>0≤y.1∧y.1≤now.length∧y.2=nextL g (gt prog k) (now.take y.1.toNat)) (fun y=>(now.length-y.1).toNat) ?_ ?_
  ·simp[nextL]
  rintro⟨i,acc⟩ ⟨i0,i1,i2⟩
  dsimp only at i0 i1 i2 ⊢
  by_cases hi:i<now.length
  ·have hs1:=k2 _ (gt_mem i0 hi)
   by_cases ha:acc = []
   ·rw[if_pos ha,if_pos ha]
    subst ha
    simp[hi]
    (with_reducible repeat' first|refine Xk ?_<;>try simp|refine Xs ?_ ?_<;>intro h<;>(try intro h')<;>(try simp[h])<;>(try omega)|refine Xg ?_|omega)
    refine XCall.inl F122 rfl rfl (by simp[F122]) rfl ?_
    simp[F122]
    have hop:(gt prog k).1≠0:=by have:=hx.ok;omega
    simp[hop]
    refine Yc (f164 g hg (gt now i) hs1 (gt prog k) hx) ?_
    simp
    refine XLoop.s (by simp;rfl) ?_
    have hss:∀ t∈stepL g (gt now i) (gt prog k),StaOK g t:=fun t ht=>stepL_ok hg hs1 hx ht
    have hs10:(stepL g (gt now i) (gt prog k)).length≤10:=stepL_len
    generalize hSS:stepL g (gt now i) (gt prog k)=ss at *
    refine XLoop.e ((0,[]):Int×List Sta) (fun y=>[(4,.fn (.func 122) [] [.ptr 1 0 0,.ptr 2 0 0]),(5,.ptr 3 0 0),(16,.ptr 10 0 0),(17,if y.2 = []then .emp else .osl 13 (y.2.length-1) 8 0 y.2.length),(18,.omap 11),(87,dProg prog),(88,.i prog.length),(89,.i k),(94,dSn now),(95,.i now.length),(96,.i i),(107,dN 8 Sta.cells ss),(108,.i ss.length),(109,.i y.1)]) (fun y=>[.row 41 0 g.cells,.row 44 0 p.cells,.row 164 0 [.emp],.row 41 0 g.cells,.row 44 0 p.cells,.dead,.dead,.dead,.row 171 0 (startS p c).cells,.dead,.row 82 0 [.i (gt prog k).1,.i (gt prog k).2],.map .str (y.2.map fun s=>(.string (keyS s),.b true)),.row 171 0 (gt now i).cells]++(if y.2 = []then []else [.row 171 (y.2.length-1) (cl Sta.cells y.2)])) (fun y=>0≤y.1∧y.1≤ss.length∧y.2=addL [] (ss.take y.1.toNat)) (fun y=>(ss.length-y.1).toNat) ?_ ?_
    ·simp[addL]
    rintro⟨j,A⟩ ⟨j0,j1,j2⟩
    dsimp only at j0 j1 j2 ⊢
    have hA:∀ t∈A,StaOK g t:=fun t ht=>hss t (by
     rw[j2,addL_mem]at ht
     exact List.mem_of_mem_take (ht.resolve_left (by simp)))
    by_cases hj:j<ss.length
    ·have ht:=hss _ (gt_mem j0 hj)
     have hk2:=keyL_in hg ht.p
     by_cases hA0:A = []
     ·rw[if_pos hA0,if_pos hA0]
      subst hA0
      simp[hj]
      (with_reducible repeat' first|refine Xk ?_<;>try simp|refine Xs ?_ ?_<;>intro h<;>(try intro h')<;>(try simp[h])<;>(try omega)|refine Xg ?_|omega)
      refine Yc (f165 (gt ss j) (by have:=ht.kind;omega) (by have:=ht.cur;omega) (by have:=ht.p.size;omega) (keyL_len hg ht.p)) ?_
      simp
      (with_reducible repeat' first|refine Xk ?_<;>try simp|refine Xs ?_ ?_<;>intro h<;>(try intro h')<;>(try simp[h])<;>(try omega)|refine Xg ?_|omega)
      refine LJ.i (j+1,[gt ss j]) (by first|rfl|simp[cl_one]) (by first|rfl|simp[cl_one]) rfl rfl ?_
      refine⟨by dsimp only;omega,by dsimp only;omega,by dsimp only;omega,?_⟩
      dsimp only
      rw[take_gt j0 hj,addL_snoc,← j2];simp
     ·rw[if_neg hA0,if_neg hA0]
      simp[hj]
      (with_reducible repeat' first|refine Xk ?_<;>try simp|refine Xs ?_ ?_<;>intro h<;>(try intro h')<;>(try simp[h])<;>(try omega)|refine Xg ?_|omega)
      refine Yc (f165 (gt ss j) (by have:=ht.kind;omega) (by have:=ht.cur;omega) (by have:=ht.p.size;omega) (keyL_len hg ht.p)) ?_
      simp
      simp[mapGet_keys hg ht hA]
      by_cases hin:gt ss j∈A
      ·simp[hin]
       (with_reducible repeat' first|refine Xk ?_<;>try simp|refine Xs ?_ ?_<;>intro h<;>(try intro h')<;>(try simp[h])<;>(try omega)|refine Xg ?_|omega)
       refine LJ.i (j+1,A) (by first|rfl|simp[hA0]) (by first|rfl|simp[hA0]) rfl rfl ?_
       refine⟨by dsimp only;omega,by dsimp only;omega,by dsimp only;omega,?_⟩
       dsimp only
       rw[take_gt j0 hj,addL_snoc,← j2,if_pos hin]
      ·have hlA:0<A.length:=List.length_pos_iff.2 hA0
       have hlB:A.length≤ss.length:=by
        have h1:=addL_len (a:=[]) (b:=ss.take j.toNat)
        rw[← j2,List.length_take]at h1
        simp at h1
        omega
       simp[hin,mapSet_keys hg ht hA hin]
       (with_reducible repeat' first|refine Xk ?_<;>try simp|refine Xs ?_ ?_<;>intro h<;>(try intro h')<;>(try simp[h])<;>(try omega)|refine Xg ?_|omega)
       refine LJ.i (j+1,A ++ [gt ss j]) (by first|rfl|simp[show A.length-1+1=A.length by omega]) (by first|rfl|simp[show A.length-1+1=A.length by omega]) rfl rfl ?_
       refine⟨by dsimp only;omega,by dsimp only;omega,by dsimp only;omega,?_⟩
       dsimp only
       rw[take_gt j0 hj,addL_snoc,← j2,if_neg hin]
    ·rw[take_all (by omega)]at j2
     have hnx:nextL g (gt prog k) (now.take (i+1).toNat)=A:=by
      rw[take_gt i0 hi,nextL_snoc,← i2,hSS,j2]
     by_cases hA0:A = []
     ·rw[if_pos hA0,if_pos hA0]
      simp[hj,hA0]
      (with_reducible repeat' first|refine Xk ?_<;>try simp|refine Xs ?_ ?_<;>intro h<;>(try intro h')<;>(try simp[h])<;>(try omega)|refine Xg ?_|omega)
      refine LJ.e (i+1,[]) ?_
      exact⟨by dsimp only;omega,by dsimp only;omega,by dsimp only;omega,by rw[hnx,hA0]⟩
     ·rw[if_neg hA0,if_neg hA0]
      simp[hj]
      (with_reducible repeat' first|refine Xk ?_<;>try simp|refine Xs ?_ ?_<;>intro h<;>(try intro h')<;>(try simp[h])<;>(try omega)|refine Xg ?_|omega)
      refine LJ.i (i+1,A) (by first|rfl|simp[hA0]) (by first|rfl|simp[hA0]) rfl rfl ?_
      exact⟨by dsimp only;omega,by dsimp only;omega,by dsimp only;omega,hnx.symm⟩
   ·rw[if_neg ha,if_neg ha]
    have hacc:∀ t∈acc,StaOK g t:=fun t ht=>by
     rw[i2,nextL_mem,List.mem_flatMap]at ht
     obtain⟨s',h1,h2⟩:=ht
     exact stepL_ok hg (k2 _ (List.mem_of_mem_take h1)) hx h2
    have hla:acc.length≤10*now.length:=by
     rw[i2]
     refine Nat.le_trans nextL_len ?_
     rw[List.length_take];omega
    have hl0:0<acc.length:=List.length_pos_iff.2 ha
    simp[hi]
    (with_reducible repeat' first|refine Xk ?_<;>try simp|refine Xs ?_ ?_<;>intro h<;>(try intro h')<;>(try simp[h])<;>(try omega)|refine Xg ?_|omega)
    refine XCall.inl F122 rfl rfl (by simp[F122]) rfl ?_
    simp[F122]
    have hop:(gt prog k).1≠0:=by have:=hx.ok;omega
    simp[hop]
    refine Yc (f164 g hg (gt now i) hs1 (gt prog k) hx) ?_
    simp
    refine XLoop.s (by simp;rfl) ?_
    have hss:∀ t∈stepL g (gt now i) (gt prog k),StaOK g t:=fun t ht=>stepL_ok hg hs1 hx ht
    have hs10:(stepL g (gt now i) (gt prog k)).length≤10:=stepL_len
    generalize hSS:stepL g (gt now i) (gt prog k)=ss at *
    refine XLoop.e ((0,acc):Int×List Sta) (fun y=>[(4,.fn (.func 122) [] [.ptr 1 0 0,.ptr 2 0 0]),(5,.ptr 3 0 0),(16,.ptr 10 0 0),(17,.osl 12 (y.2.length-1) 8 0 y.2.length),(18,.omap 11),(87,dProg prog),(88,.i prog.length),(89,.i k),(94,dSn now),(95,.i now.length),(96,.i i),(107,dN 8 Sta.cells ss),(108,.i ss.length),(109,.i y.1)]) (fun y=>[.row 41 0 g.cells,.row 44 0 p.cells,.row 164 0 [.emp],.row 41 0 g.cells,.row 44 0 p.cells,.dead,.dead,.dead,.row 171 0 (startS p c).cells,.dead,.row 82 0 [.i (gt prog k).1,.i (gt prog k).2],.map .str (y.2.map fun s=>(.string (keyS s),.b true)),.row 171 (y.2.length-1) (cl Sta.cells y.2),.row 171 0 (gt now i).cells]) (fun y=>0≤y.1∧y.1≤ss.length∧y.2=addL acc (ss.take y.1.toNat)∧0<y.2.length) (fun y=>(ss.length-y.1).toNat) ?_ ?_
    ·simp[addL]
     exact hl0
    rintro⟨j,A⟩ ⟨j0,j1,j2,j3⟩
    dsimp only at j0 j1 j2 j3 ⊢
    have hA:∀ t∈A,StaOK g t:=fun t ht=>by
     rw[j2,addL_mem]at ht
     rcases ht with ht|ht
     ·exact hacc t ht
     ·exact hss t (List.mem_of_mem_take ht)
    have hlB:A.length≤acc.length+ss.length:=by
     have h1:=addL_len (a:=acc) (b:=ss.take j.toNat)
     rw[← j2,List.length_take]at h1
     omega
    by_cases hj:j<ss.length
    ·have ht:=hss _ (gt_mem j0 hj)
     simp[hj]
     (with_reducible repeat' first|refine Xk ?_<;>try simp|refine Xs ?_ ?_<;>intro h<;>(try intro h')<;>(try simp[h])<;>(try omega)|refine Xg ?_|omega)
     refine Yc (f165 (gt ss j) (by have:=ht.kind;omega) (by have:=ht.cur;omega) (by have:=ht.p.size;omega) (keyL_len hg ht.p)) ?_
     simp
     simp[mapGet_keys hg ht hA]
     by_cases hin:gt ss j∈A
     ·simp[hin]
      (with_reducible repeat' first|refine Xk ?_<;>try simp|refine Xs ?_ ?_<;>intro h<;>(try intro h')<;>(try simp[h])<;>(try omega)|refine Xg ?_|omega)
      refine LJ.e (j+1,A) ?_
      refine⟨by dsimp only;omega,by dsimp only;omega,by dsimp only;omega,?_,j3⟩
      dsimp only
      rw[take_gt j0 hj,addL_snoc,← j2,if_pos hin]
     ·simp[hin,mapSet_keys hg ht hA hin]
      (with_reducible repeat' first|refine Xk ?_<;>try simp|refine Xs ?_ ?_<;>intro h<;>(try intro h')<;>(try simp[h])<;>(try omega)|refine Xg ?_|omega)
      refine LJ.i (j+1,A ++ [gt ss j]) (by first|rfl|simp[show A.length-1+1=A.length by omega]) (by first|rfl|simp[show A.length-1+1=A.length by omega]) rfl rfl ?_
      refine⟨by dsimp only;omega,by dsimp only;omega,by dsimp only;omega,?_,by simp⟩
      dsimp only
      rw[take_gt j0 hj,addL_snoc,← j2,if_neg hin]
    ·rw[take_all (by omega)]at j2
     have hnx:nextL g (gt prog k) (now.take (i+1).toNat)=A:=by
      rw[take_gt i0 hi,nextL_snoc,← i2,hSS,j2]
     have hA0:A≠[]:=List.length_pos_iff.1 j3
     simp[hj]
     (with_reducible repeat' first|refine Xk ?_<;>try simp|refine Xs ?_ ?_<;>intro h<;>(try intro h')<;>(try simp[h])<;>(try omega)|refine Xg ?_|omega)
     refine LJ.i (i+1,A) (by first|rfl|simp[hA0]) (by first|rfl|simp[hA0]) rfl rfl ?_
     exact⟨by dsimp only;omega,by dsimp only;omega,by dsimp only;omega,hnx.symm⟩
  ·rw[take_all (by omega)]at i2
   have hok:∀ t∈acc,StaOK g t:=fun t ht=>by
    rw[i2,nextL_mem,List.mem_flatMap]at ht
    obtain⟨s',h1,h2⟩:=ht
    exact stepL_ok hg (k2 _ h1) hx h2
   have hla:acc.length≤10*now.length:=by
    rw[i2];exact nextL_len
   have h11:acc.length≤10 ^ (k+1).toNat:=by
    rw[show(k+1).toNat=k.toNat+1 by omega,Nat.pow_succ];omega
   have hnext:afterL g prog [startS p c]=afterL g (prog.drop (k+1).toNat) acc:=by
    rw[k4,drop_gt k0 hk,afterL,← i2,show(k+1).toNat=k.toNat+1 by omega]
   by_cases ha:acc = []
   ·rw[if_pos ha,if_pos ha]
    simp[hi,ha]
    (with_reducible repeat' first|refine Xk ?_<;>try simp|refine Xs ?_ ?_<;>intro h<;>(try intro h')<;>(try simp[h])<;>(try omega)|refine Xg ?_|omega)
    refine LJ.i (k+1,[]) (by first|rfl|simp[dN]) (by first|rfl|simp[dN]) rfl rfl ?_
    rw[ha]at hok h11 hnext
    exact⟨by dsimp only;omega,by dsimp only;omega,by dsimp only;omega,hok,h11,hnext⟩
   ·rw[if_neg ha,if_neg ha]
    have hq2:dSt acc=dN 8 Sta.cells acc:=dSt_dSn ha
    simp[hi]
    (with_reducible repeat' first|refine Xk ?_<;>try simp|refine Xs ?_ ?_<;>intro h<;>(try intro h')<;>(try simp[h])<;>(try omega)|refine Xg ?_|omega)
    refine LJ.i (k+1,acc) (by first|rfl|simp[hq2]) (by first|rfl|simp[hq2]) rfl rfl ?_
    exact⟨by dsimp only;omega,by dsimp only;omega,by dsimp only;omega,hok,h11,hnext⟩
 ·rw[List.drop_of_length_le (by omega)]at k4
  rw[k4,afterL]at hO
  have h8:now.length≤10 ^ 8:=by omega
  simp[hk]
  (with_reducible repeat' first|refine Xk ?_<;>try simp|refine Xs ?_ ?_<;>intro h<;>(try intro h')<;>(try simp[h])<;>(try omega)|refine Xg ?_|omega)
  refine XLoop.e ((0,[]):Int×List Outc) (fun y=>[(4,.fn (.func 122) [] [.ptr 1 0 0,.ptr 2 0 0]),(129,dSn now),(130,.i now.length),(131,.i y.1)]) (fun y=>hd31 g p (startS p c) (if y.2 = []then .emp else .osl 10 (y.2.length-1) 6 0 y.2.length)++(if y.2 = []then []else [.row 113 (y.2.length-1) (cl Outc.cells y.2)])) (fun y=>0≤y.1∧y.1≤now.length∧y.2=(now.take y.1.toNat).filterMap (finS p.side)) (fun y=>(now.length-y.1).toNat) ?_ ?_
  ·simp
  rintro⟨i,outs⟩ ⟨i0,i1,i2⟩
  dsimp only at i0 i1 i2 ⊢
  by_cases hi:i<now.length
  ·have ht:=k2 _ (gt_mem i0 hi)
   have hlo:outs.length≤now.length:=by
    rw[i2]
    refine Nat.le_trans (List.length_filterMap_le ..) ?_
    rw[List.length_take];omega
   have i3:(now.take (i+1).toNat).filterMap (finS p.side)=outs++(finS p.side (gt now i)).toList:=by
    rw[take_gt i0 hi,List.filterMap_append,← i2]
    cases hf:finS p.side (gt now i)<;>simp[hf]
   by_cases ho:outs = []
   ·rw[if_pos ho,if_pos ho]
    subst ho
    simp[hi]
    (with_reducible repeat' first|refine Xk ?_<;>try simp|refine Xs ?_ ?_<;>intro h<;>(try intro h')<;>(try simp[h])<;>(try omega)|refine Xg ?_|omega)
    refine XCall.isF rfl rfl (f122A g hg p hp (startS p c) (gt now i) ht) ?_
    rintro d H' hH
    cases hf:finS p.side (gt now i)with
    | none=>
     rw[hf]at hH i3;dsimp only at hH;subst hH
     simp
     (with_reducible repeat' first|refine Xk ?_<;>try simp|refine Xs ?_ ?_<;>intro h<;>(try intro h')<;>(try simp[h])<;>(try omega)|refine Xg ?_|omega)
     refine LJ.e (i+1,[]) ?_
     exact⟨by dsimp only;omega,by dsimp only;omega,by dsimp only;omega,by rw[i3];rfl⟩
    | some o=>
     rw[hf]at hH i3;dsimp only at hH;subst hH
     simp
     (with_reducible repeat' first|refine Xk ?_<;>try simp|refine Xs ?_ ?_<;>intro h<;>(try intro h')<;>(try simp[h])<;>(try omega)|refine Xg ?_|omega)
     refine LJ.e (i+1,[o]) ?_
     exact⟨by dsimp only;omega,by dsimp only;omega,by dsimp only;omega,by rw[i3];rfl⟩
   ·rw[if_neg ho,if_neg ho]
    simp[hi]
    (with_reducible repeat' first|refine Xk ?_<;>try simp|refine Xs ?_ ?_<;>intro h<;>(try intro h')<;>(try simp[h])<;>(try omega)|refine Xg ?_|omega)
    refine XCall.isF rfl rfl (f122B g hg p hp (startS p c) (gt now i) ht outs (by omega) (List.length_pos_iff.2 ho)) ?_
    rintro d H' hH
    cases hf:finS p.side (gt now i)with
    | none=>
     rw[hf]at hH i3;dsimp only at hH;subst hH
     simp
     (with_reducible repeat' first|refine Xk ?_<;>try simp|refine Xs ?_ ?_<;>intro h<;>(try intro h')<;>(try simp[h])<;>(try omega)|refine Xg ?_|omega)
     refine LJ.i (i+1,outs) (by first|rfl|simp[ho]) (by first|rfl|simp[ho]) rfl rfl ?_
     exact⟨by dsimp only;omega,by dsimp only;omega,by dsimp only;omega,by rw[i3];simp⟩
    | some o=>
     rw[hf]at hH i3;dsimp only at hH;subst hH
     simp
     (with_reducible repeat' first|refine Xk ?_<;>try simp|refine Xs ?_ ?_<;>intro h<;>(try intro h')<;>(try simp[h])<;>(try omega)|refine Xg ?_|omega)
     refine LJ.e (i+1,outs ++ [o]) ?_
     exact⟨by dsimp only;omega,by dsimp only;omega,by dsimp only;omega,by rw[i3];rfl⟩
  ·rw[take_all (by omega)]at i2
   rw[← i2]at hO
   subst hO
   by_cases ho:OO = []
   ·rw[if_pos ho,if_pos ho]
    simp[hi,ho]
   ·rw[if_neg ho,if_neg ho]
    simp[hi,ho]
end Go.Proofs.YtnaefnajkaohgaaGreatDoor
