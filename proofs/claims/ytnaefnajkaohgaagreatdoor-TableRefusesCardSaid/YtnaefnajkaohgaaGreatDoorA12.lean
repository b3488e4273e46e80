/- Part 12 of the proof of skewer.skewerlaw15.TableRefuses. -/
import Derived.Test.YtnaefnajkaohgaaGreatDoorA08
import Derived.Test.YtnaefnajkaohgaaGreatDoorA11
set_option linter.all false
namespace Go.Proofs.YtnaefnajkaohgaaGreatDoor
open Go Go.AL Classical
set_option maxRecDepth 10000
theorem f95(n a b:Int):Wf T 95 [.i n,.i a,.i b] [] (Is (.b (decide (a≤n∧n≤b)))):=by
 refine Wf.x (fn:=F95) rfl (by simp[F95]) ?_
 simp[F95]
 (with_reducible repeat' first|(first|refine Xy ?_|refine Xz ?_|refine Xu ?_|refine Xv ?_)<;>try simp|(first|refine Xa (fun h h'=>?_) (fun h=>?_)|(first|refine Xd ?_ ?_|refine Xo ?_ ?_|refine Xb ?_ ?_)<;>intro h)<;>(try simp[h])<;>(try (exfalso;omega))|refine Xg ?_|omega)
theorem f94(a b:Int):Wf T 94 [.i a,.i b] [] (Is (.i (numberC a b))):=by
 refine Wf.x (fn:=F94) rfl (by simp[F94]) ?_
 simp[F94]
 (with_reducible repeat' first|(first|refine Xy ?_|refine Xz ?_|refine Xu ?_|refine Xv ?_)<;>try simp|(first|refine Xa (fun h h'=>?_) (fun h=>?_)|(first|refine Xd ?_ ?_|refine Xo ?_ ?_|refine Xb ?_ ?_)<;>intro h)<;>(try simp[h])<;>(try (exfalso;omega))|refine Xg ?_|omega)
 all_goals (simp only[numberC];(repeat' split)<;>omega)
theorem f92{k s:Int}(hk:0≤k)(hk2:k<6)(hs:0≤s)(hs2:s≤1):Wf T 92 [.i k,.i s] [] (Is (.i (1+2*k+s))):=by
 refine Wf.x (fn:=F92) rfl (by simp[F92]) ?_
 simp[F92]
 (with_reducible repeat' first|(first|refine Xy ?_|refine Xz ?_|refine Xu ?_|refine Xv ?_)<;>try simp|(first|refine Xa (fun h h'=>?_) (fun h=>?_)|(first|refine Xd ?_ ?_|refine Xo ?_ ?_|refine Xb ?_ ?_)<;>intro h)<;>(try simp[h])<;>(try (exfalso;omega))|refine Xg ?_|omega)
theorem f156{k s:Int}(hk:0≤k)(hk2:k<6)(hs:0≤s)(hs2:s≤1):Wf T 156 [.i k,.i s] [] (Is (.i (1+2*k+s))):=by
 refine Wf.x (fn:=F156) rfl (by simp[F156]) ?_
 simp[F156]
 refine XCall.c rfl rfl (f95 _ _ _) (by simp[closedL]) (by simp) ?_
 simp[show k≤5 by omega,hk]
 refine XCall.c rfl rfl (f95 _ _ _) (by simp[closedL]) (by simp) ?_
 simp[hs,hs2]
 omega
theorem f25(l:List Int)(n:Int)(hl:l.length<2 ^ 40):Wf T 25 [dI l,.i n] [] (Is (.b (decide (n∈l)))):=by
 refine Wf.x (fn:=F25) rfl (by simp[F25]) ?_
 simp[F25]
 refine XLoop.i (α:=Int) [0,1,5] rfl (fun i=>[(0,dI l),(1,.i n),(5,.i i)]) (fun _=>[]) (fun i=>0≤i∧i≤l.length∧n ∉ l.take i.toNat) (fun i=>l.length-i.toNat) 0 (by simp) (by simp) rfl ?_
 rintro i ⟨h0,h1,h2⟩
 simp
 (with_reducible repeat' first|(first|refine Xy ?_|refine Xz ?_|refine Xu ?_|refine Xv ?_)<;>try simp|(first|refine Xa (fun h h'=>?_) (fun h=>?_)|(first|refine Xd ?_ ?_|refine Xo ?_ ?_|refine Xb ?_ ?_)<;>intro h)<;>(try simp[h])<;>(try (exfalso;omega))|refine Xg ?_|omega)
 ·have:=gt_mem h0 ‹_›
  simp_all
 ·skip
  rw[take_gt h0 ‹_›]
  simp_all
  exact fun e=>h e.symm
 ·simpa[take_all (by omega:(l.length:Int)≤i)]using h2
theorem f93(a b:List Int)(ha:a.length<2 ^ 40)(hb:b.length<2 ^ 40):Wf T 93 [dI a,dI b] [] (Is (.i (listC a b))):=by
 refine Wf.x (fn:=F93) rfl (by simp[F93]) ?_
 simp[F93]
 refine XLoop.j (0:Int) (fun i=>[(0,dI a),(1,dI b),(5,.i i)]) (fun _=>_) (fun i=>0≤i∧i≤a.length∧i≤b.length∧a.take i.toNat=b.take i.toNat) (fun i=>a.length-i.toNat) ?_ (by simp) (by first|rfl|simp) rfl ?_
 ·simp
 rintro i ⟨h0,h1,h1',h2⟩
 have e:=listC_take h2 (by omega) (by omega)
 simp
 (with_reducible repeat' first|(first|refine Xy ?_|refine Xz ?_|refine Xu ?_|refine Xv ?_)<;>try simp|(first|refine Xa (fun h h'=>?_) (fun h=>?_)|(first|refine Xd ?_ ?_|refine Xo ?_ ?_|refine Xb ?_ ?_)<;>intro h)<;>(try simp[h])<;>(try (exfalso;omega))|refine Xg ?_|omega)
 ·skip
  rw[take_gt h0 (by omega),take_gt h0 (by omega),h2]
  simp_all
 ·refine XTCall.c rfl rfl (f94 _ _) (by simp) (by simp) ?_
  simp
  rw[e,drop_gt h0 ‹_›,drop_gt h0 ‹_›,listC,if_neg (by assumption)]
 all_goals
  refine XCall.c rfl rfl (f94 _ _) (by simp) (by simp) ?_
  simp
  rw[e,listC_end (by simp only[List.length_drop];omega)]
  simp only[List.length_drop,numberC]
  (repeat' split)<;>omega
theorem f50(p q:Pos)(hp:Small p)(hq:Small q):Wf T 50 [dP p,dP q] [] (Is (.i (cmpP p q))):=by
 refine Wf.x (fn:=F50) rfl (by simp[F50]) ?_
 simp[F50]
 refine XTCall.c rfl rfl (f93 _ _ hp.1 hq.1) (by simp) (by simp) ?_
 simp
 refine XTCall.c rfl rfl (f93 _ _ hp.2.1 hq.2.1) (by simp) (by simp) ?_
 simp
 refine XTCall.c rfl rfl (f93 _ _ hp.2.2 hq.2.2) (by simp) (by simp) ?_
 simp
 refine XTCall.c rfl rfl (f94 _ _) (by simp) (by simp) ?_
 simp
 refine XTCall.c rfl rfl (f94 _ _) (by simp) (by simp) ?_
 simp
 (refine XLoop.un ?_;(repeat' first|(refine XLoopN.u ?_;simp;done)|(refine XLoopN.u ?_;simp)|((with_reducible first|refine X2.d ?_ ?_|refine X2.a ?_ ?_|refine X2.o ?_ ?_|refine X2.b ?_ ?_)<;>intro h<;>(try simp[h]))|fail))
 all_goals simp_all [cmpP,firstNZ]
theorem f51(n:Int):Wf T 51 [.i n] [] (Is (.agg [.i (manK n),.i (manS n)])):=by
 refine Wf.x (fn:=F51) rfl (by simp[F51]) ?_
 simp[F51]
 refine XCall.c rfl rfl (f95 _ _ _) (by simp) (by simp) ?_
 simp
 (with_reducible repeat' first|(first|refine Xy ?_|refine Xz ?_|refine Xu ?_|refine Xv ?_)<;>try simp|(first|refine Xa (fun h h'=>?_) (fun h=>?_)|(first|refine Xd ?_ ?_|refine Xo ?_ ?_|refine Xb ?_ ?_)<;>intro h)<;>(try simp[h])<;>(try (exfalso;omega))|refine Xg ?_|omega)
 ·rw[quoI_eq (by omega) (by omega) (by omega),remI_eq (by omega)]
  simp[manK,manS];omega
 ·simp[manK,manS];omega
theorem f84(n:Int):Wf T 84 [.i n] [] (Is (.tup [.i (manK n),.i (manS n)])):=by
 refine Wf.x (fn:=F84) rfl (by simp[F84]) ?_
 simp[F84]
 (with_reducible repeat' first|(first|refine Xy ?_|refine Xz ?_|refine Xu ?_|refine Xv ?_)<;>try simp|(first|refine Xa (fun h h'=>?_) (fun h=>?_)|(first|refine Xd ?_ ?_|refine Xo ?_ ?_|refine Xb ?_ ?_)<;>intro h)<;>(try simp[h])<;>(try (exfalso;omega))|refine Xg ?_|omega)
 ·simp[manK,manS];omega
 ·simp[manK,manS];omega
 ·rw[quoI_eq (by omega) (by omega) (by omega),remI_eq (by omega)]
  simp[manK,manS];omega
theorem f251(g:Game)(hg:BoardOK g)(s d c:Int):Wf T 251 [g.board,.i s,.i d,.i c] [] (Is (.i (toB g s d c))):=by
 have hn:=hg.next
 have ht:=hg.turn
 refine Wf.x (fn:=F251) rfl (by simp[F251]) ?_
 simp[F251]
 (with_reducible repeat' first|(first|refine Xy ?_|refine Xz ?_|refine Xu ?_|refine Xv ?_)<;>try simp|(first|refine Xa (fun h h'=>?_) (fun h=>?_)|(first|refine Xd ?_ ?_|refine Xo ?_ ?_|refine Xb ?_ ?_)<;>intro h)<;>(try simp[h])<;>(try (exfalso;omega))|refine Xg ?_|omega)
 all_goals first
  | (simp only[toB];rw[if_pos (by omega)])
  | skip
 ·rename_i h
  have:=hg.turns d (by omega) (by omega)
  have hr:=hg.row (gt g.next (gt g.turn d)) (gt_mem (by omega) (by omega))
  (with_reducible repeat' first|(first|refine Xy ?_|refine Xz ?_|refine Xu ?_|refine Xv ?_)<;>try simp|(first|refine Xa (fun h h'=>?_) (fun h=>?_)|(first|refine Xd ?_ ?_|refine Xo ?_ ?_|refine Xb ?_ ?_)<;>intro h)<;>(try simp[h])<;>(try (exfalso;omega))|refine Xg ?_|omega)
  simp only[toB];rw[if_neg (by omega)];simp
 ·rename_i h
  have hr:=hg.row (gt g.next d) (gt_mem (by omega) (by omega))
  (with_reducible repeat' first|(first|refine Xy ?_|refine Xz ?_|refine Xu ?_|refine Xv ?_)<;>try simp|(first|refine Xa (fun h h'=>?_) (fun h=>?_)|(first|refine Xd ?_ ?_|refine Xo ?_ ?_|refine Xb ?_ ?_)<;>intro h)<;>(try simp[h])<;>(try (exfalso;omega))|refine Xg ?_|omega)
  simp only[toB];rw[if_neg (by omega)];simp[h]
theorem f240(g:Game)(hg:BoardOK g)(s d c:Int):Wf T 240 [g.board,.i s,.i d,.i c] [] (Is (.i (toB g s d c))):=by
 have hn:=hg.next
 have ht:=hg.turn
 refine Wf.x (fn:=F240) rfl (by simp[F240]) ?_
 simp[F240]
 (with_reducible repeat' first|(first|refine Xy ?_|refine Xz ?_|refine Xu ?_|refine Xv ?_)<;>try simp|(first|refine Xa (fun h h'=>?_) (fun h=>?_)|(first|refine Xd ?_ ?_|refine Xo ?_ ?_|refine Xb ?_ ?_)<;>intro h)<;>(try simp[h])<;>(try (exfalso;omega))|refine Xg ?_|omega)
 all_goals first
  | (simp only[toB];rw[if_pos (by omega)])
  | skip
 ·rename_i h
  have:=hg.turns d (by omega) (by omega)
  have hr:=hg.row (gt g.next (gt g.turn d)) (gt_mem (by omega) (by omega))
  (with_reducible repeat' first|(first|refine Xy ?_|refine Xz ?_|refine Xu ?_|refine Xv ?_)<;>try simp|(first|refine Xa (fun h h'=>?_) (fun h=>?_)|(first|refine Xd ?_ ?_|refine Xo ?_ ?_|refine Xb ?_ ?_)<;>intro h)<;>(try simp[h])<;>(try (exfalso;omega))|refine Xg ?_|omega)
  simp only[toB];rw[if_neg (by omega)];simp
 ·rename_i h
  have hr:=hg.row (gt g.next d) (gt_mem (by omega) (by omega))
  (with_reducible repeat' first|(first|refine Xy ?_|refine Xz ?_|refine Xu ?_|refine Xv ?_)<;>try simp|(first|refine Xa (fun h h'=>?_) (fun h=>?_)|(first|refine Xd ?_ ?_|refine Xo ?_ ?_|refine Xb ?_ ?_)<;>intro h)<;>(try simp[h])<;>(try (exfalso;omega))|refine Xg ?_|omega)
  simp only[toB];rw[if_neg (by omega)];simp[h]
theorem f110(p q:Pos)(hp:Small p)(hq:Small q):Wf T 110 [dP p,dP q] [] (Is (.b (decide (p=q)))):=by
 refine Wf.x (fn:=F110) rfl (by simp[F110]) ?_
 simp[F110]
 refine XCall.c rfl rfl (f50 p q hp hq) (by simp) (by simp) ?_
 simp
 rw[cmpP_zero]
set_option maxRecDepth 10000
set_option maxHeartbeats 1000000
theorem f64(l:List Pos)(hl:l.length<2 ^ 40)(hs:∀ p∈l,Small p):Wf T 64 [dPs l] [] (Is (.b (decide (Sorted l)))):=by
 refine Wf.x (fn:=F64) rfl (by simp[F64]) ?_
 simp[F64]
 refine XLoop.j (1:Int) (fun i=>[(0,dPs l),(3,.i i)]) (fun _=>_) (fun i=>1≤i∧(i≤l.length∨i=1)∧∀ k:Int,1≤k→k<i→cmpP (gt l (k-1)) (gt l k)<0) (fun i=>l.length-i.toNat) ?_ (by simp) (by first|rfl|simp) rfl ?_
 ·simp;omega
 rintro i ⟨h0,h1,h2⟩
 simp
 (with_reducible repeat' first|(first|refine Xy ?_|refine Xz ?_|refine Xu ?_|refine Xv ?_)<;>try simp|(first|refine Xa (fun h h'=>?_) (fun h=>?_)|(first|refine Xd ?_ ?_|refine Xo ?_ ?_|refine Xb ?_ ?_)<;>intro h)<;>(try simp[h])<;>(try (exfalso;omega))|refine Xg ?_|omega)
 ·skip
  refine XTCall.c rfl rfl (f50 (gt l (i-1)) (gt l i) (hs _ (gt_mem (by omega) (by omega))) (hs _ (gt_mem (by omega) (by omega)))) (by simp) (by simp) ?_
  simp
  (with_reducible repeat' first|(first|refine Xy ?_|refine Xz ?_|refine Xu ?_|refine Xv ?_)<;>try simp|(first|refine Xa (fun h h'=>?_) (fun h=>?_)|(first|refine Xd ?_ ?_|refine Xo ?_ ?_|refine Xb ?_ ?_)<;>intro h)<;>(try simp[h])<;>(try (exfalso;omega))|refine Xg ?_|omega)
  ·intro hc;have:=hc i h0 ‹_›;omega
  ·intro k hk hk2
   by_cases e:k=i
   ·subst e;omega
   ·exact h2 k hk (by omega)
 ·intro k hk hk2
  exact h2 k hk (by omega)
theorem f27(l:List Pos)(p:Pos)(hl:l.length<2 ^ 40)(hs:∀ p∈l,Small p)(hp:Small p)(hso:Sorted l):Wf T 27 [dPs l,dP p] [] (Is (.i (findP l p))):=by
 refine Wf.x (fn:=F27) rfl (by simp[F27]) ?_
 simp[F27]
 refine XLoop.j ((0,(l.length:Int)):Int×Int) (fun x=>[(0,dPs l),(3,.ptr 0 0 0),(5,.i x.1),(6,.i x.2)]) (fun _=>[.row 44 0 p.cells]) (fun x=>0≤x.1∧x.1≤x.2∧x.2≤l.length∧∀ k:Int,0≤k→k<l.length→gt l k=p→x.1≤k∧k<x.2) (fun x=>(x.2-x.1).toNat) ?_ (by simp) rfl rfl ?_
 ·simp;omega
 rintro⟨a,b⟩ ⟨h0,h1,h2,h3⟩
 simp at h0 h1 h2 h3
 simp
 (with_reducible repeat' first|(first|refine Xy ?_|refine Xz ?_|refine Xu ?_|refine Xv ?_)<;>try simp|(first|refine Xa (fun h h'=>?_) (fun h=>?_)|(first|refine Xd ?_ ?_|refine Xo ?_ ?_|refine Xb ?_ ?_)<;>intro h)<;>(try simp[h])<;>(try (exfalso;omega))|refine Xg ?_|omega)
 ·rw[quoI_eq (by omega) (by omega) (by omega)]
  (with_reducible repeat' first|(first|refine Xy ?_|refine Xz ?_|refine Xu ?_|refine Xv ?_)<;>try simp|(first|refine Xa (fun h h'=>?_) (fun h=>?_)|(first|refine Xd ?_ ?_|refine Xo ?_ ?_|refine Xb ?_ ?_)<;>intro h)<;>(try simp[h])<;>(try (exfalso;omega))|refine Xg ?_|omega)
  refine XTCall.c rfl rfl (f50 p (gt l ((a+b) / 2)) hp (hs _ (gt_mem (by omega) (by omega)))) (by simp) (by simp) ?_
  simp
  (with_reducible repeat' first|(first|refine Xy ?_|refine Xz ?_|refine Xu ?_|refine Xv ?_)<;>try simp|(first|refine Xa (fun h h'=>?_) (fun h=>?_)|(first|refine Xd ?_ ?_|refine Xo ?_ ?_|refine Xb ?_ ?_)<;>intro h)<;>(try simp[h])<;>(try (exfalso;omega))|refine Xg ?_|omega)
  ·rw[cmpP_zero]at h
   rw[h,findP_eq hso (by omega) (by omega)]
  ·have hlt:∀ k:Int,(a+b) / 2≤k→k<l.length→gt l k≠p:=fun k hk hk2 e=>by
    by_cases e2:k=(a+b) / 2
    ·subst e2;rw[e,cmpP_refl]at h;omega
    ·have:=cmpP_trans h (hso.le (by omega) (show(a+b) / 2<k by omega) hk2)
     rw[e,cmpP_refl]at this;omega
   intro k hk hk2 e
   have:=h3 k hk hk2 e
   by_cases hk3:(a+b) / 2≤k
   ·exact absurd e (hlt k hk3 hk2)
   ·omega
  ·have h6:cmpP (gt l ((a+b) / 2)) p<0:=by rw[cmpP_swap];omega
   have hlt:∀ k:Int,0≤k→k≤(a+b) / 2→gt l k≠p:=fun k hk hk2 e=>by
    by_cases e2:k=(a+b) / 2
    ·subst e2;rw[e,cmpP_refl]at h6;omega
    ·have:=cmpP_trans (hso.le hk (show k<(a+b) / 2 by omega) (by omega)) h6
     rw[e,cmpP_refl]at this;omega
   intro k hk hk2 e
   have:=h3 k hk hk2 e
   by_cases hk3:k≤(a+b) / 2
   ·exact absurd e (hlt k hk hk3)
   ·omega
 ·rw[findP_no]
  intro hm
  obtain⟨k,hk,hk2,e⟩:=mem_gt.1 hm
  have:=h3 k hk hk2 e
  omega
theorem f111(g:Game)(l:List Int)(hg:GameOK g)(hl:HandOK g l):Wf T 111 [dG g,dI l] [] (Is (.b true)):=by
 have hk:=hg.kinds
 have hn:=hl.len
 refine Wf.x (fn:=F111) rfl (by simp[F111]) ?_
 simp[F111]
 (with_reducible repeat' first|(first|refine Xy ?_|refine Xz ?_|refine Xu ?_|refine Xv ?_)<;>try simp|(first|refine Xa (fun h h'=>?_) (fun h=>?_)|(first|refine Xd ?_ ?_|refine Xo ?_ ?_|refine Xb ?_ ?_)<;>intro h)<;>(try simp[h])<;>(try (exfalso;omega))|refine Xg ?_|omega)
 refine XLoop.j (0:Int) (fun i=>[(1,dI l),(2,.ptr 0 0 0),(5,.i i)]) (fun i=>[.row 41 0 g.cells]) (fun i=>0≤i∧i≤l.length) (fun i=>l.length-i.toNat) ?_ (by simp) (by first|rfl|simp) rfl ?_
 ·simp
 rintro i ⟨h0,h1⟩
 simp
 (with_reducible (first|refine Xa (fun h h'=>?_) (fun h=>?_)|(first|refine Xd ?_ ?_|refine Xo ?_ ?_|refine Xb ?_ ?_)<;>intro h)<;>(try simp[h])<;>(try (exfalso;omega)))
 ·have h2:=hl.at_ i h0 ‹_›
  (with_reducible repeat' first|(first|refine Xy ?_|refine Xz ?_|refine Xu ?_|refine Xv ?_)<;>try simp|(first|refine Xa (fun h h'=>?_) (fun h=>?_)|(first|refine Xd ?_ ?_|refine Xo ?_ ?_|refine Xb ?_ ?_)<;>intro h)<;>(try simp[h])<;>(try (exfalso;omega))|refine Xg ?_|omega)
  have:=h2.2.2
  all_goals simp_all
  all_goals omega
theorem f65(g:Game)(p:Pos)(hg:GameOK g)(hp:PosOK g p):Wf T 65 [dG g,dP p] [] (Is (.b true)):=by
 have hk:=hg.kinds
 have hr:=hg.rights
 have h1:=hp.size
 have h2:=hp.rights
 have h3:=hp.side
 have hb:=hg.board.size
 have h4:=shl_small hr.1 (by omega)
 refine Wf.x (fn:=F65) rfl (by simp[F65]) ?_
 simp[F65,h1]
 refine XTCall.c rfl rfl (f111 g _ hg hp.h0) (by simp) (by simp) ?_
 simp[h1]
 refine XTCall.c rfl rfl (f111 g _ hg hp.h1) (by simp) (by simp) ?_
 simp[h1]
 (with_reducible repeat' first|(first|refine Xy ?_|refine Xz ?_|refine Xu ?_|refine Xv ?_)<;>try simp[h4]|(first|refine Xa (fun h h'=>?_) (fun h=>?_)|(first|refine Xd ?_ ?_|refine Xo ?_ ?_|refine Xb ?_ ?_)<;>intro h)<;>(try simp[h,h4])<;>(try (exfalso;omega))|refine Xg ?_|omega)
 refine XLoop.j (0:Int) (fun i=>[(2,.ptr 0 0 0),(3,.ptr 1 0 0),(5,.i i)]) (fun i=>[.row 41 0 g.cells,.row 44 0 p.cells]) (fun i=>0≤i∧i≤p.cs.length) (fun i=>p.cs.length-i.toNat) ?_ (by simp) (by first|rfl|simp) rfl ?_
 ·simp
 rintro i ⟨h0,h5⟩
 simp
 (with_reducible (first|refine Xa (fun h h'=>?_) (fun h=>?_)|(first|refine Xd ?_ ?_|refine Xo ?_ ?_|refine Xb ?_ ?_)<;>intro h)<;>(try simp[h])<;>(try (exfalso;omega)))
 have h4:=hp.cs _ (gt_mem h0 ‹_›)
 (with_reducible repeat' first|(first|refine Xy ?_|refine Xz ?_|refine Xu ?_|refine Xv ?_)<;>try simp|(first|refine Xa (fun h h'=>?_) (fun h=>?_)|(first|refine Xd ?_ ?_|refine Xo ?_ ?_|refine Xb ?_ ?_)<;>intro h)<;>(try simp[h])<;>(try (exfalso;omega))|refine Xg ?_|omega)
end Go.Proofs.YtnaefnajkaohgaaGreatDoor
