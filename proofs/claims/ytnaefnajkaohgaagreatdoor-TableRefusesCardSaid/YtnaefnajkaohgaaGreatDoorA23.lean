/- Part 23 of the proof of skewer.skewerlaw15.TableRefuses. -/
import Derived.Test.YtnaefnajkaohgaaGreatDoorA20
import Derived.Test.YtnaefnajkaohgaaGreatDoorA22
set_option linter.all false
namespace Go.AL
open Go
section
variable{P:D→Prop}{a b:Int}{k:IntKind}{t:Tag P}
@[simp low] theorem oA_remK:oA (arithO .rem k a b) P t=(b≠0∧P (.val (.int k (remI a b)))):=by
 cases t
 simp only[arithO]
 by_cases h:b=0<;>simp[h,remI]
def quoK(k:IntKind)(a b:Int):Int:=k.wrap (a.tdiv b)
@[simp low] theorem oA_quoK:oA (arithO .quo k a b) P t=(b≠0∧P (.val (.int k (quoK k a b)))):=by
 cases t
 simp only[arithO]
 by_cases h:b=0<;>simp[h,quoK]
end
@[simp] theorem fzR_i2{ρ:Nat→Option Nat}{H:Heap}{k:Nat}{t:TypeId}{a b:Int}:fzR ρ H (k+1) 1 0 2 (some (t,[.i a,.i b]))=dI [a,b]:=by
 have h:=fzR_cl (f:=f1) (ρ:=ρ) (H:=H) (k:=k) (t:=t) (l:=[a,b]) (n:=2) rfl
 rw[cl_def]at h
 simp only[List.map_cons,List.map_nil,f1_def,List.flatten_cons,List.flatten_nil,List.append_nil,List.cons_append,List.nil_append]at h
 rw[h];unfold dI;simp only[List.map_cons,List.map_nil,f1_def]
end Go.AL
namespace Go.Proofs.YtnaefnajkaohgaaGreatDoor
open Go Go.AL Classical
set_option maxRecDepth 10000
set_option maxHeartbeats 1000000
theorem f14(g:Game)(hg:GameOK g)(l:List Pos)(hl:Closed2 g l)(hne:0<l.length):Wf T 14 [dG g,dPs l] [] (Ey (fun x:List Stp×List Int=>.agg [dProg x.1,dI x.2,.i 0]) fun x=>x.1.length=l.length):=by
 refine Wf.x (fn:=F14) rfl (by simp[F14]) ?_
 simp[F14]
 refine XCall.c rfl rfl (f37 g hg l hl) (by simp) (by simp) ?_
 simp
 refine XCall.q rfl rfl (f38 g hg l hl hne) (by simp) (fun _=>by simp) ?_
 intro v hv
 simp
 refine XCall.q rfl rfl (f39 g hg l hl v hv) (by simp) (fun _=>by simp) ?_
 intro f hf
 simp
 exact Ey.i (v,f) rfl rfl hv
theorem f62(g:Game)(hg:GameOK g)(a b:Int)(ha:0≤a∧a<g.kinds.length):Wf T 62 [dG g,.i a,.i b] [] (Ey D.b fun _=>True):=by
 have hk:=hg.progs _ (gt_mem (l:=g.kinds) ha.1 ha.2)
 refine Wf.x (fn:=F62) rfl (by simp[F62]) ?_
 simp[F62]
 refine XLoop.e (0:Int) (fun i=>[(1,.i a),(2,.i b),(3,.ptr 0 0 0),(7,.i i)]) (fun i=>[.row 41 0 g.cells]) (fun i=>0≤i∧i≤(gt g.kinds a).progs.length) (fun i=>(gt g.kinds a).progs.length-i.toNat) ?_ ?_
 ·simp
 rintro i ⟨i0,i1⟩
 simp
 (with_reducible repeat' first|(first|refine Xy ?_|refine Xz ?_|refine Xu ?_|refine Xv ?_)<;>try simp|(first|refine Xa (fun h h'=>?_) (fun h=>?_)|(first|refine Xd ?_ ?_|refine Xo ?_ ?_|refine Xb ?_ ?_)<;>intro h)<;>(try simp[h])<;>(try (exfalso;omega))|refine Xg ?_|omega)
 ·have hp:=(hk.2 _ (gt_mem i0 ‹_›)).len
  generalize hpp:gt (gt g.kinds a).progs i=p at *
  (with_reducible repeat' first|(first|refine Xy ?_|refine Xz ?_|refine Xu ?_|refine Xv ?_)<;>try simp|(first|refine Xa (fun h h'=>?_) (fun h=>?_)|(first|refine Xd ?_ ?_|refine Xo ?_ ?_|refine Xb ?_ ?_)<;>intro h)<;>(try simp[h])<;>(try (exfalso;omega))|refine Xg ?_|omega)
  refine XLoop.e (0:Int) (fun j=>[(1,.i a),(2,.i b),(3,.ptr 0 0 0),(7,.i i),(8,dProg p),(9,.i j)]) (fun j=>[.row 41 0 g.cells]) (fun j=>0≤j∧j≤p.length) (fun j=>p.length-j.toNat) ?_ ?_
  ·simp
  rintro j ⟨j0,j1⟩
  simp
  (with_reducible repeat' first|(first|refine Xy ?_|refine Xz ?_|refine Xu ?_|refine Xv ?_)<;>try simp|(first|refine Xa (fun h h'=>?_) (fun h=>?_)|(first|refine Xd ?_ ?_|refine Xo ?_ ?_|refine Xb ?_ ?_)<;>intro h)<;>(try simp[h])<;>(try (exfalso;omega))|refine Xg ?_|omega)
  ·exact Ey.i true rfl rfl trivial
  ·refine LJ.e (j+1) ?_
   omega
  ·refine LJ.e (j+1) ?_
   omega
  ·refine LJ.e (i+1) ?_
   omega
 ·exact Ey.i false rfl rfl trivial
theorem f63(g:Game)(hg:GameOK g)(a:Int)(ha:0≤a∧a<g.kinds.length):Wf T 63 [dG g,.i a] [] (Ey dI fun r=>r.length≤2):=by
 have hk:=hg.kinds
 have hnd:∀ w:List Int,w.Nodup→(∀ y∈w,0≤y∧y<g.kinds.length)→w.length≤g.kinds.length:=fun w h1 h2=>nodup_le _ w h1 h2
 refine Wf.x (fn:=F63) rfl (by simp[F63]) ?_
 simp[F63]
 refine XLoop.e ((0,0,[a]):Int×Nat×List Int) (fun y=>[(2,.ptr 0 0 0),(5,.osl 1 y.2.1 1 0 y.2.2.length),(6,.i y.1)]) (fun y=>[.row 41 0 g.cells,.row 3 y.2.1 (cl f1 y.2.2)]) (fun y=>0≤y.1∧y.1≤y.2.2.length∧y.2.2.Nodup∧∀ z∈y.2.2,0≤z∧z<g.kinds.length) (fun y=>g.kinds.length-y.1.toNat) ?_ ?_
 ·simp;omega
 rintro⟨i,gn,w⟩ ⟨i0,i1,i2,i3⟩
 dsimp only at i0 i1 i2 i3 ⊢
 have hw:=hnd w i2 i3
 by_cases hi:i<w.length
 ·simp[hi]
  refine XLoop.e ((0,gn,w):Int×Nat×List Int) (fun y=>[(2,.ptr 0 0 0),(5,.osl 1 y.2.1 1 0 y.2.2.length),(6,.i i),(7,.i y.1)]) (fun y=>[.row 41 0 g.cells,.row 3 y.2.1 (cl f1 y.2.2)]) (fun y=>0≤y.1∧y.1≤g.kinds.length∧y.2.2.Nodup∧(∀ z∈y.2.2,0≤z∧z<g.kinds.length)∧w.length≤y.2.2.length) (fun y=>g.kinds.length-y.1.toNat) ?_ ?_
  ·simp;exact⟨i2,i3⟩
  rintro⟨b,gm,u⟩ ⟨b0,b1,b2,b3,b4⟩
  dsimp only at b0 b1 b2 b3 b4 ⊢
  have hu:=hnd u b2 b3
  by_cases hb:b<g.kinds.length
  ·simp[hb]
   refine XLoop.e ((0,false):Int×Bool) (fun y=>[(2,.ptr 0 0 0),(5,.osl 1 gm 1 0 u.length),(6,.i i),(7,.i b),(8,.b y.2),(9,.i y.1)]) (fun y=>[.row 41 0 g.cells,.row 3 gm (cl f1 u)]) (fun y=>0≤y.1∧y.1≤u.length∧y.2=decide (b∈u.take y.1.toNat)) (fun y=>u.length-y.1.toNat) ?_ ?_
   ·simp
   rintro⟨k,kn⟩ ⟨k0,k1,k2⟩
   dsimp only at k0 k1 k2 ⊢
   by_cases hk:k<u.length
   ·cases kn<;>simp[hk]
    ·(with_reducible repeat' first|(first|refine Xy ?_|refine Xz ?_|refine Xu ?_|refine Xv ?_)<;>try simp|(first|refine Xa (fun h h'=>?_) (fun h=>?_)|(first|refine Xd ?_ ?_|refine Xo ?_ ?_|refine Xb ?_ ?_)<;>intro h)<;>(try simp[h])<;>(try (exfalso;omega))|refine Xg ?_|omega)
     refine LJ.e (k+1,decide (gt u k=b)) ?_
     dsimp only
     refine⟨by omega,by omega,by omega,?_⟩
     rw[take_gt k0 hk]
     simp at k2
     simp[k2,eq_comm]
    ·(with_reducible repeat' first|(first|refine Xy ?_|refine Xz ?_|refine Xu ?_|refine Xv ?_)<;>try simp|(first|refine Xa (fun h h'=>?_) (fun h=>?_)|(first|refine Xd ?_ ?_|refine Xo ?_ ?_|refine Xb ?_ ?_)<;>intro h)<;>(try simp[h])<;>(try (exfalso;omega))|refine Xg ?_|omega)
     refine LJ.e (k+1,true) ?_
     dsimp only
     refine⟨by omega,by omega,by omega,?_⟩
     rw[take_gt k0 hk]
     simp at k2
     simp[k2]
   ·rw[take_all (by omega)]at k2
    cases kn<;>simp[hk]
    ·have hbu:b ∉ u:=by simpa using k2
     have hgu:=b3 _ (gt_mem (l:=u) i0 (by omega))
     (with_reducible repeat' first|(first|refine Xy ?_|refine Xz ?_|refine Xu ?_|refine Xv ?_)<;>try simp|(first|refine Xa (fun h h'=>?_) (fun h=>?_)|(first|refine Xd ?_ ?_|refine Xo ?_ ?_|refine Xb ?_ ?_)<;>intro h)<;>(try simp[h])<;>(try (exfalso;omega))|refine Xg ?_|omega)
     refine XTCall.q rfl rfl rfl (f62 g hg _ b hgu) (by simp) (fun _=>by simp) ?_
     intro x hx
     simp
     (with_reducible repeat' first|(first|refine Xy ?_|refine Xz ?_|refine Xu ?_|refine Xv ?_)<;>try simp|(first|refine Xa (fun h h'=>?_) (fun h=>?_)|(first|refine Xd ?_ ?_|refine Xo ?_ ?_|refine Xb ?_ ?_)<;>intro h)<;>(try simp[h])<;>(try (exfalso;omega))|refine Xg ?_|omega)
     ·refine LJ.e (b+1,gm+1,u ++ [b]) ?_
      dsimp only
      refine⟨by omega,by omega,by omega,List.nodup_append.2 ⟨b2,by simp,fun y hy z hz e=>?_⟩,fun z hz=>?_,by simp;omega⟩
      ·rw[List.mem_singleton]at hz;subst hz;subst e;exact hbu hy
      ·rcases List.mem_append.1 hz with hz|hz
       ·exact b3 z hz
       ·rw[List.mem_singleton]at hz;omega
     ·refine LJ.e (b+1,gm,u) ?_
      dsimp only
      exact⟨by omega,by omega,by omega,b2,b3,b4⟩
    ·(with_reducible repeat' first|(first|refine Xy ?_|refine Xz ?_|refine Xu ?_|refine Xv ?_)<;>try simp|(first|refine Xa (fun h h'=>?_) (fun h=>?_)|(first|refine Xd ?_ ?_|refine Xo ?_ ?_|refine Xb ?_ ?_)<;>intro h)<;>(try simp[h])<;>(try (exfalso;omega))|refine Xg ?_|omega)
     refine LJ.e (b+1,gm,u) ?_
     dsimp only
     exact⟨by omega,by omega,by omega,b2,b3,b4⟩
  ·simp[hb]
   (with_reducible repeat' first|(first|refine Xy ?_|refine Xz ?_|refine Xu ?_|refine Xv ?_)<;>try simp|(first|refine Xa (fun h h'=>?_) (fun h=>?_)|(first|refine Xd ?_ ?_|refine Xo ?_ ?_|refine Xb ?_ ?_)<;>intro h)<;>(try simp[h])<;>(try (exfalso;omega))|refine Xg ?_|omega)
   refine LJ.e (i+1,gm,u) ?_
   dsimp only
   exact⟨by omega,by omega,by omega,b2,b3⟩
 ·simp[hi]
  exact Ey.i w rfl rfl (by omega)
def dW(w:List Int):D:=.agg (w.map fun n=>.val (.int .u8 n))
theorem f34(g:Game)(hg:GameOK g)(a0 a1 a2 a3 a4 a5:Int)(h:∀ n∈[a0,a1,a2,a3,a4,a5],0≤n∧n<256):Wf T 34 [dG g,dW [a0,a1,a2,a3,a4,a5]] [] (Ey (fun r:List Int=>.agg [dI r]) fun r=>r.length=g.kinds.length):=by
 have hk:=hg.kinds
 refine Wf.x (fn:=F34) rfl (by simp[F34]) ?_
 simp[F34,dW]
 rcases(show g.kinds.length=1∨g.kinds.length=2 by omega)with e|e
 ·refine XLoop.un ?_
  refine XLoopN.u ?_
  simp[e]
  refine XLoopN.u ?_
  simp[e]
  exact Ey.i [IntKind.i64.wrap (remI a0 8)] rfl rfl (by simp[e])
 ·refine XLoop.un ?_
  refine XLoopN.u ?_
  simp[e]
  refine XLoopN.u ?_
  simp[e]
  refine XLoopN.u ?_
  simp[e]
  exact Ey.i [IntKind.i64.wrap (remI a0 8),IntKind.i64.wrap (remI a1 8)] rfl rfl (by simp[e])
theorem f35(g:Game)(hg:GameOK g)(m:List Int)(hm:m.length=g.kinds.length):Wf T 35 [dG g,.agg [dI m]] [] (Ey D.b fun _=>True):=by
 have hk:=hg.kinds
 refine Wf.x (fn:=F35) rfl (by simp[F35]) ?_
 simp[F35]
 (with_reducible repeat' first|(first|refine Xy ?_|refine Xz ?_|refine Xu ?_|refine Xv ?_)<;>try simp|(first|refine Xa (fun h h'=>?_) (fun h=>?_)|(first|refine Xd ?_ ?_|refine Xo ?_ ?_|refine Xb ?_ ?_)<;>intro h)<;>(try simp[h])<;>(try (exfalso;omega))|refine Xg ?_|omega)
 refine XLoop.e (0:Int) (fun i=>[(2,.ptr 0 0 0),(3,.ptr 1 0 0),(5,.i i)]) (fun i=>[.row 41 0 g.cells,.row 50 0 [dI m]]) (fun i=>0≤i∧i≤g.kinds.length) (fun i=>g.kinds.length-i.toNat) ?_ ?_
 ·simp
 rintro i ⟨i0,i1⟩
 simp
 (with_reducible repeat' first|(first|refine Xy ?_|refine Xz ?_|refine Xu ?_|refine Xv ?_)<;>try simp|(first|refine Xa (fun h h'=>?_) (fun h=>?_)|(first|refine Xd ?_ ?_|refine Xo ?_ ?_|refine Xb ?_ ?_)<;>intro h)<;>(try simp[h])<;>(try (exfalso;omega))|refine Xg ?_|omega)
 ·exact Ey.i false rfl rfl trivial
 ·exact Ey.i false rfl rfl trivial
 ·refine XLoop.e (0:Int) (fun j=>[(2,.ptr 0 0 0),(3,.ptr 1 0 0),(5,.i i),(6,.i j)]) (fun j=>[.row 41 0 g.cells,.row 50 0 [dI m]]) (fun j=>0≤j∧j≤g.kinds.length) (fun j=>g.kinds.length-j.toNat) ?_ ?_
  ·simp
  rintro j ⟨j0,j1⟩
  simp
  (with_reducible repeat' first|(first|refine Xy ?_|refine Xz ?_|refine Xu ?_|refine Xv ?_)<;>try simp|(first|refine Xa (fun h h'=>?_) (fun h=>?_)|(first|refine Xd ?_ ?_|refine Xo ?_ ?_|refine Xb ?_ ?_)<;>intro h)<;>(try simp[h])<;>(try (exfalso;omega))|refine Xg ?_|omega)
  ·refine XTCall.q rfl rfl rfl (f62 g hg i j ⟨i0,‹_›⟩) (by simp) (fun _=>by simp) ?_
   intro x hx
   simp
   (with_reducible repeat' first|(first|refine Xy ?_|refine Xz ?_|refine Xu ?_|refine Xv ?_)<;>try simp|(first|refine Xa (fun h h'=>?_) (fun h=>?_)|(first|refine Xd ?_ ?_|refine Xo ?_ ?_|refine Xb ?_ ?_)<;>intro h)<;>(try simp[h])<;>(try (exfalso;omega))|refine Xg ?_|omega)
   ·exact Ey.i false rfl rfl trivial
   ·refine LJ.e (j+1) ?_
    omega
   ·refine LJ.e (j+1) ?_
    omega
  ·refine LJ.e (i+1) ?_
   omega
 ·exact Ey.i true rfl rfl trivial
theorem f36(g:Game)(hg:GameOK g):Wf T 36 [dG g] [] (Ey (fun r:List Int=>.agg [dI r]) fun r=>r.length=g.kinds.length):=by
 have hk:=hg.kinds
 refine Wf.x (fn:=F36) rfl (by simp[F36]) ?_
 simp[F36]
 rcases(show g.kinds.length=1∨g.kinds.length=2 by omega)with e|e
 ·refine XLoop.un ?_
  refine XLoopN.u ?_
  simp[e]
  refine XTCall.q rfl rfl rfl (f63 g hg 0 (by omega)) (by simp) (fun _=>by simp) ?_
  intro r hr
  simp
  refine XLoopN.u ?_
  simp[e]
  exact Ey.i [(r.length:Int)] rfl rfl (by simp[e])
 ·refine XLoop.un ?_
  refine XLoopN.u ?_
  simp[e]
  refine XTCall.q rfl rfl rfl (f63 g hg 0 (by omega)) (by simp) (fun _=>by simp) ?_
  intro r hr
  simp
  refine XLoopN.u ?_
  simp[e]
  refine XTCall.q rfl rfl rfl (f63 g hg 1 (by omega)) (by simp) (fun _=>by simp) ?_
  intro r2 hr2
  simp
  refine XLoopN.u ?_
  simp[e]
  exact Ey.i [(r.length:Int),(r2.length:Int)] rfl rfl (by simp[e])
theorem f13(g:Game)(hg:GameOK g)(a0 a1 a2 a3 a4 a5:Int)(h:∀ n∈[a0,a1,a2,a3,a4,a5],0≤n∧n<256):Wf T 13 [dG g,dW [a0,a1,a2,a3,a4,a5]] [] (Ey (fun r:List Int=>.agg [dI r]) fun r=>r.length=g.kinds.length):=by
 refine Wf.x (fn:=F13) rfl (by simp[F13]) ?_
 simp[F13,dW]
 have c:=f34 g hg a0 a1 a2 a3 a4 a5 h
 simp only[dW,List.map]at c
 refine XCall.q rfl rfl (c) (by simp) (fun _=>by simp) ?_
 intro m hm
 simp
 refine XCall.q rfl rfl (f35 g hg m hm) (by simp) (fun _=>by simp) ?_
 intro b hb
 simp
 (with_reducible repeat' first|(first|refine Xy ?_|refine Xz ?_|refine Xu ?_|refine Xv ?_)<;>try simp|(first|refine Xa (fun h h'=>?_) (fun h=>?_)|(first|refine Xd ?_ ?_|refine Xo ?_ ?_|refine Xb ?_ ?_)<;>intro h)<;>(try simp[h])<;>(try (exfalso;omega))|refine Xg ?_|omega)
 ·exact Ey.i m rfl rfl hm
 ·refine XCall.q rfl rfl (f36 g hg) (by simp) (fun _=>by simp) ?_
  intro r hr
  simp
  exact Ey.i r rfl rfl hr
end Go.Proofs.YtnaefnajkaohgaaGreatDoor
