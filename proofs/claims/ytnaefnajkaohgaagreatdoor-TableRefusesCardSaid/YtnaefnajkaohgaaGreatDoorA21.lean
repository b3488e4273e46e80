/- Part 21 of the proof of skewer.skewerlaw15.TableRefuses. -/
import Derived.Test.YtnaefnajkaohgaaGreatDoorA20
set_option linter.all false
namespace Go.Proofs.YtnaefnajkaohgaaGreatDoor
open Go Go.AL Classical
set_option maxRecDepth 10000
set_option maxHeartbeats 1000000
noncomputable def endK(g:Game)(p:Pos):Kn:=((stat g p).1,0,(stat g p).2)
theorem f66o(g:Game)(hg:GameOK g)(l:List Pos)(hl:Closed2 g l):Wf T 66 [dG g,dPs l] [] (fun d H=>d = .osl 0 l.length 3 0 l.length∧H = [.row 134 l.length (cl fK (l.map (endK g)))]):=by
 have hlen:=hl.len
 refine Wf.xo 1 (fn:=F66) rfl (by simp[F66]) ?_
 simp[F66]
 refine XLoop.e ((0,[]):Int×List Kn) (fun y=>[(1,dPs l),(2,.ptr 0 0 0),(5,.osl 1 y.2.length 3 0 y.2.length),(6,.i y.1)]) (fun y=>[.row 41 0 g.cells,.row 134 y.2.length (cl fK y.2)]) (fun y=>0≤y.1∧y.1≤l.length∧y.2=(l.take y.1.toNat).map (endK g)) (fun y=>l.length-y.1.toNat) ?_ ?_
 ·simp
 rintro⟨i,out⟩ ⟨i0,i1,i2⟩
 dsimp only at i0 i1 i2 ⊢
 have hol:out.length=i.toNat:=by rw[i2];simp;omega
 simp
 (with_reducible repeat' first|(first|refine Xy ?_|refine Xz ?_|refine Xu ?_|refine Xv ?_)<;>try simp|(first|refine Xa (fun h h'=>?_) (fun h=>?_)|(first|refine Xd ?_ ?_|refine Xo ?_ ?_|refine Xb ?_ ?_)<;>intro h)<;>(try simp[h])<;>(try (exfalso;omega))|refine Xg ?_|omega)
 ·refine XTCall.c rfl rfl (f112 g hg _ (hl.ok _ (gt_mem i0 ‹_›))) (by simp) (by simp) ?_
  simp
  (with_reducible repeat' first|(first|refine Xy ?_|refine Xz ?_|refine Xu ?_|refine Xv ?_)<;>try simp|(first|refine Xa (fun h h'=>?_) (fun h=>?_)|(first|refine Xd ?_ ?_|refine Xo ?_ ?_|refine Xb ?_ ?_)<;>intro h)<;>(try simp[h])<;>(try (exfalso;omega))|refine Xg ?_|omega)
  refine LJ.i (i+1,out ++ [endK g (gt l i)]) (by first|rfl|simp[endK]) (by first|rfl|simp[endK]) rfl rfl ?_
  dsimp only
  refine⟨by omega,by omega,by omega,?_⟩
  rw[take_gt i0 ‹_›,List.map_append,i2];rfl
 ·have e:out=l.map (endK g):=by rw[i2,take_all (by omega)]
  have e2:out.length=l.length:=by rw[e];simp
  rw[← e]
theorem f67(v:List Kn)(l:List Int)(n:Int)(hn:1≤n∧n≤4000)(hl:l.length<2 ^ 40)(hr:∀ k∈l,0≤k∧k<v.length):Wf T 67 [.sl 3 (v.map fK),dI l,.i n] [] (Ey (fun r:Kn=>.agg [.i r.1,.i r.2.1,.b r.2.2]) fun _=>True):=by
 refine Wf.x (fn:=F67) rfl (by simp[F67]) ?_
 simp[F67]
 refine XLoop.e ((0,0,0):Int×Int×Int) (fun y=>[(0,.sl 3 (v.map fK)),(1,dI l),(2,.i n),(6,.ptr 0 0 0),(7,.i y.2.1),(8,.i y.2.2),(9,.i y.1)]) (fun y=>[.row 134 0 [.i 0,.i 0,.b false]]) (fun y=>0≤y.1∧y.1≤l.length∧0≤y.2.1∧y.2.1≤y.1) (fun y=>l.length-y.1.toNat) ?_ ?_
 ·simp
 rintro⟨i,w,gr⟩ ⟨i0,i1,i2,i3⟩
 dsimp only at i0 i1 i2 i3 ⊢
 simp
 (with_reducible repeat' first|(first|refine Xy ?_|refine Xz ?_|refine Xu ?_|refine Xv ?_)<;>try simp|(first|refine Xa (fun h h'=>?_) (fun h=>?_)|(first|refine Xd ?_ ?_|refine Xo ?_ ?_|refine Xb ?_ ?_)<;>intro h)<;>(try simp[h])<;>(try (exfalso;omega))|refine Xg ?_|omega)
 ·have hk:=hr _ (gt_mem i0 ‹_›)
  (with_reducible repeat' first|(first|refine Xy ?_|refine Xz ?_|refine Xu ?_|refine Xv ?_)<;>try simp|(first|refine Xa (fun h h'=>?_) (fun h=>?_)|(first|refine Xd ?_ ?_|refine Xo ?_ ?_|refine Xb ?_ ?_)<;>intro h)<;>(try simp[h])<;>(try (exfalso;omega))|refine Xg ?_|omega)
  ·exact Ey.i (1,n,true) rfl rfl trivial
  ·refine LJ.e (i+1,w+1,max gr (gt v (gt l i)).2.1) ?_
   dsimp only;omega
  ·refine LJ.e (i+1,w,gr) ?_
   dsimp only;omega
  ·refine LJ.e (i+1,w,gr) ?_
   dsimp only;omega
 ·exact Ey.i (3,n,true) rfl rfl trivial
 ·exact Ey.i (0,0,false) rfl rfl trivial
 ·exact Ey.i (0,0,false) rfl rfl trivial
theorem nextI_in{g:Game}{l:List Pos}(hl:Closed2 g l){i:Int}(h0:0≤i)(h1:i<l.length):gt (nextI g l) i=(mvL g (gt l i)).map (findP l)∧∀ k∈gt (nextI g l) i,0≤k∧k<l.length:=by
 have e:gt (nextI g l) i=(mvL g (gt l i)).map (findP l):=by
  unfold nextI gt
  simp only[List.getD_eq_getElem?_getD,List.getElem?_map]
  rw[List.getElem?_eq_getElem (by omega)]
  rfl
 refine⟨e,fun k hk=>?_⟩
 rw[e]at hk
 obtain⟨q,hq,rfl⟩:=List.mem_map.1 hk
 have:=findP_gt (hl.cl _ (gt_mem h0 h1) q (mvL_mem.1 hq))
 exact⟨this.1,this.2.1⟩
theorem f38(g:Game)(hg:GameOK g)(l:List Pos)(hl:Closed2 g l)(hne:0<l.length):Wf T 38 [dG g,dPs l,.sl 1 ((nextI g l).map fI)] [] (Ey dProg fun r=>r.length=l.length):=by
 have hlen:=hl.len
 have hnl:(nextI g l).length=l.length:=by simp[nextI]
 refine Wf.x (fn:=F38) rfl (by simp[F38]) ?_
 simp[F38]
 refine XCall.n rfl rfl (f66o g hg l hl) (by simp) (by simp) ?_
 simp
 have hl0:(l.map (endK g)).length=l.length:=by simp
 generalize hv0:l.map (endK g)=v0 at *
 refine XLoop.e ((1,true,l.length,v0):Int×Bool×Nat×List Kn) (fun y=>[(1,dPs l),(2,.sl 1 ((nextI g l).map fI)),(7,.osl (if y.2.1 then 1 else 2) y.2.2.1 3 0 l.length),(8,.i y.1)]) (fun y=>.row 41 0 g.cells :: .row 134 l.length (cl fK v0)::(if y.2.1 then []else [.row 134 y.2.2.1 (cl fK y.2.2.2)])) (fun y=>1≤y.1∧y.1≤l.length+1∧y.2.2.2.length=l.length∧(y.2.1=true→y.2.2.1=l.length∧y.2.2.2=v0∧y.1=1)) (fun y=>l.length+1-y.1.toNat) ?_ ?_
 ·simp;omega
 rintro⟨n,b,gn,v⟩ ⟨n0,n1,n2,n3⟩
 dsimp only at n0 n1 n2 n3 ⊢
 have hrng:∀ i:Int,0≤i→i<l.length→∀ k∈gt (nextI g l) i,0≤k∧k<v.length:=fun i a c k hk=>by
  have:=(nextI_in hl a c).2 k hk;omega
 have hrl:∀ i:Int,0≤i→i<l.length→(gt (nextI g l) i).length<2 ^ 40:=fun i a c=>by
  rw[(nextI_in hl a c).1,List.length_map]
  have:=mvL_len hg (hl.ok _ (gt_mem a c));omega
 cases b
 ·simp
  (with_reducible repeat' first|(first|refine Xy ?_|refine Xz ?_|refine Xu ?_|refine Xv ?_)<;>try simp|(first|refine Xa (fun h h'=>?_) (fun h=>?_)|(first|refine Xd ?_ ?_|refine Xo ?_ ?_|refine Xb ?_ ?_)<;>intro h)<;>(try simp[h])<;>(try (exfalso;omega))|refine Xg ?_|omega)
  ·refine XLoop.e ((0,v):Int×List Kn) (fun y=>[(1,dPs l),(2,.sl 1 ((nextI g l).map fI)),(7,.osl 2 gn 3 0 l.length),(8,.i n),(9,.osl 3 1 3 0 l.length),(10,.i y.1)]) (fun y=>[.row 41 0 g.cells,.row 134 l.length (cl fK v0),.row 134 gn (cl fK v),.row 134 1 (cl fK y.2)]) (fun y=>0≤y.1∧y.1≤l.length∧y.2.length=l.length) (fun y=>l.length-y.1.toNat) ?_ ?_
   ·simpa using n2
   rintro⟨j,now⟩ ⟨j0,j1,j2⟩
   dsimp only at j0 j1 j2 ⊢
   simp
   (with_reducible repeat' first|(first|refine Xy ?_|refine Xz ?_|refine Xu ?_|refine Xv ?_)<;>try simp|(first|refine Xa (fun h h'=>?_) (fun h=>?_)|(first|refine Xd ?_ ?_|refine Xo ?_ ?_|refine Xb ?_ ?_)<;>intro h)<;>(try simp[h])<;>(try (exfalso;omega))|refine Xg ?_|omega)
   ·refine LJ.e (j+1,now) ?_
    dsimp only;omega
   ·refine XCall.rq rfl rfl (f67 v _ n (by omega) (hrl j j0 ‹_›) (hrng j j0 ‹_›)) (by simp[n2]) (fun _=>by simp[flat,flatL]) (fun _=>by simp) ?_
    intro r _
    simp
    (with_reducible repeat' first|(first|refine Xy ?_|refine Xz ?_|refine Xu ?_|refine Xv ?_)<;>try simp|(first|refine Xa (fun h h'=>?_) (fun h=>?_)|(first|refine Xd ?_ ?_|refine Xo ?_ ?_|refine Xb ?_ ?_)<;>intro h)<;>(try simp[h])<;>(try (exfalso;omega))|refine Xg ?_|omega)
    have hpt:=cl_pt (f:=fK) now j (by omega) r
    rw[fK_def]at hpt
    refine LJ.i (j+1,pt now j r) (by first|rfl|simp[← hpt]) (by first|rfl|simp[← hpt]) rfl rfl ?_
    dsimp only
    have:=pt_len (l:=now) (n:=j) (v:=r) j0 (by omega)
    omega
   ·refine LJ.e (n+1,false,1,now) ?_
    dsimp only
    exact⟨by omega,by omega,by omega,by omega,fun h=>by cases h⟩
  ·refine XLoop.e ((0,v,[]):Int×List Kn×List Stp) (fun y=>[(1,dPs l),(7,.osl 2 gn 3 0 l.length),(11,.osl 3 y.2.2.length 2 0 y.2.2.length),(12,.i y.1)]) (fun y=>[.row 41 0 g.cells,.row 134 l.length (cl fK v0),.row 134 gn (cl fK y.2.1),.row 58 y.2.2.length (cl fS y.2.2)]) (fun y=>0≤y.1∧y.1≤l.length∧y.2.1.length=l.length∧y.2.2.length=y.1.toNat) (fun y=>l.length-y.1.toNat) ?_ ?_
   ·simpa using n2
   rintro⟨j,w,out⟩ ⟨j0,j1,j2,j3⟩
   dsimp only at j0 j1 j2 j3 ⊢
   by_cases hj:j<l.length
   ·have hpt:=clK_pt (l:=w) (n:=j) (by omega) 2 0
    have hpl:∀ v,(pt w j v).length=w.length:=fun v=>pt_len j0 (by omega)
    have hpg:∀ v,gt (pt w j v) j=v:=fun v=>gt_pt_eq j0 (by omega)
    simp[hj,hpt]
    (with_reducible repeat' first|(first|refine Xy ?_|refine Xz ?_|refine Xu ?_|refine Xv ?_)<;>try simp[hpt,hpl,hpg]|(first|refine Xa (fun h h'=>?_) (fun h=>?_)|(first|refine Xd ?_ ?_|refine Xo ?_ ?_|refine Xb ?_ ?_)<;>intro h)<;>(try simp[h,hpt,hpl,hpg])<;>(try (exfalso;omega))|refine Xg ?_|omega)
    ·refine LJ.e (j+1,w,out ++ [((gt w j).1,(gt w j).2.1)]) ?_
     dsimp only
     refine⟨by omega,by omega,by omega,by omega,by simp;omega⟩
    ·refine LJ.e (j+1,pt w j (2,0,false),out ++ [(2,0)]) ?_
     dsimp only
     refine⟨by omega,by omega,by omega,by rw[hpl];omega,by simp;omega⟩
   ·simp[hj]
    exact Ey.i out rfl rfl (by omega)
 ·obtain⟨rfl,rfl,rfl⟩:=n3 rfl
  simp
  (with_reducible repeat' first|(first|refine Xy ?_|refine Xz ?_|refine Xu ?_|refine Xv ?_)<;>try simp|(first|refine Xa (fun h h'=>?_) (fun h=>?_)|(first|refine Xd ?_ ?_|refine Xo ?_ ?_|refine Xb ?_ ?_)<;>intro h)<;>(try simp[h])<;>(try (exfalso;omega))|refine Xg ?_|omega)
  ·refine XLoop.e ((0,v):Int×List Kn) (fun y=>[(1,dPs l),(2,.sl 1 ((nextI g l).map fI)),(7,.osl 1 l.length 3 0 l.length),(8,.i 1),(9,.osl 2 1 3 0 l.length),(10,.i y.1)]) (fun y=>[.row 41 0 g.cells,.row 134 l.length (cl fK v),.row 134 1 (cl fK y.2)]) (fun y=>0≤y.1∧y.1≤l.length∧y.2.length=l.length) (fun y=>l.length-y.1.toNat) ?_ ?_
   ·simpa using n2
   rintro⟨j,now⟩ ⟨j0,j1,j2⟩
   dsimp only at j0 j1 j2 ⊢
   simp
   (with_reducible repeat' first|(first|refine Xy ?_|refine Xz ?_|refine Xu ?_|refine Xv ?_)<;>try simp|(first|refine Xa (fun h h'=>?_) (fun h=>?_)|(first|refine Xd ?_ ?_|refine Xo ?_ ?_|refine Xb ?_ ?_)<;>intro h)<;>(try simp[h])<;>(try (exfalso;omega))|refine Xg ?_|omega)
   ·refine LJ.e (j+1,now) ?_
    dsimp only;omega
   ·refine XCall.rq rfl rfl (f67 v _ 1 (by omega) (hrl j j0 ‹_›) (hrng j j0 ‹_›)) (by simp[n2]) (fun _=>by simp[flat,flatL]) (fun _=>by simp) ?_
    intro r _
    simp
    (with_reducible repeat' first|(first|refine Xy ?_|refine Xz ?_|refine Xu ?_|refine Xv ?_)<;>try simp|(first|refine Xa (fun h h'=>?_) (fun h=>?_)|(first|refine Xd ?_ ?_|refine Xo ?_ ?_|refine Xb ?_ ?_)<;>intro h)<;>(try simp[h])<;>(try (exfalso;omega))|refine Xg ?_|omega)
    have hpt:=cl_pt (f:=fK) now j (by omega) r
    rw[fK_def]at hpt
    refine LJ.i (j+1,pt now j r) (by first|rfl|simp[← hpt]) (by first|rfl|simp[← hpt]) rfl rfl ?_
    dsimp only
    have:=pt_len (l:=now) (n:=j) (v:=r) j0 (by omega)
    omega
   ·refine LJ.e (1+1,false,1,now) ?_
    dsimp only
    exact⟨by omega,by omega,by omega,by omega,fun h=>by cases h⟩
end Go.Proofs.YtnaefnajkaohgaaGreatDoor
