/- Part 22 of the proof of skewer.skewerlaw15.TableRefuses. -/
import Derived.Test.YtnaefnajkaohgaaGreatDoorA21
set_option linter.all false
namespace Go.Proofs.YtnaefnajkaohgaaGreatDoor
open Go Go.AL Classical
set_option maxRecDepth 10000
set_option maxHeartbeats 1000000
theorem f69(o s:Int)(hs:0≤s∧s≤1):Wf T 69 [.i o,.i s] [] (Is (.i (if o=1 then s else if o=3 then 1-s else -1))):=by
 refine Wf.x (fn:=F69) rfl (by simp[F69]) ?_
 simp[F69]
 (with_reducible repeat' first|(first|refine Xy ?_|refine Xz ?_|refine Xu ?_|refine Xv ?_)<;>try simp|(first|refine Xa (fun h h'=>?_) (fun h=>?_)|(first|refine Xd ?_ ?_|refine Xo ?_ ?_|refine Xb ?_ ?_)<;>intro h)<;>(try simp[h])<;>(try (exfalso;omega))|refine Xg ?_|omega)
 all_goals simp[*]
theorem f68(g:Game)(hg:GameOK g)(l:List Pos)(hl:Closed2 g l)(side:Int)(hsd:0≤side∧side≤1):Wf T 68 [dG g,dPs l,.sl 1 ((nextI g l).map fI),.i side] [] (Ey (fun r:List Bool=>.sl 1 (r.map fB)) fun r=>r.length=l.length):=by
 have hlen:=hl.len
 have hnl:(nextI g l).length=l.length:=by simp[nextI]
 have hni:=fun(i:Int) (a:0≤i) (b:i<l.length)=>nextI_in hl a b
 have hnn:∀ i:Int,0≤i→i<l.length→(gt (nextI g l) i).length≤4000000000:=fun i a b=>by
  rw[(hni i a b).1,List.length_map]
  exact mvL_len hg (hl.ok _ (gt_mem a b))
 refine Wf.x (fn:=F68) rfl (by simp[F68]) ?_
 simp[F68]
 (with_reducible repeat' first|(first|refine Xy ?_|refine Xz ?_|refine Xu ?_|refine Xv ?_)<;>try simp|(first|refine Xa (fun h h'=>?_) (fun h=>?_)|(first|refine Xd ?_ ?_|refine Xo ?_ ?_|refine Xb ?_ ?_)<;>intro h)<;>(try simp[h])<;>(try (exfalso;omega))|refine Xg ?_|omega)
 refine XLoop.e ((List.replicate l.length false,true):List Bool×Bool) (fun y=>[(1,dPs l),(2,.sl 1 ((nextI g l).map fI)),(3,.i side),(4,.ptr 0 0 0),(9,.osl 1 0 1 0 l.length),(10,.b y.2)]) (fun y=>[.row 41 0 g.cells,.row 4 0 (cl fB y.1)]) (fun y=>y.1.length=l.length) (fun y=>2*falses y.1+(if y.2 then 1 else 0)) ?_ ?_
 ·simp
 rintro⟨o0,ch⟩ h0
 dsimp only at h0 ⊢
 cases ch
 ·simp[h0]
  exact Ey.i o0 rfl rfl h0
 simp
 refine XLoop.e ((0,o0,false):Int×List Bool×Bool) (fun y=>[(1,dPs l),(2,.sl 1 ((nextI g l).map fI)),(3,.i side),(4,.ptr 0 0 0),(9,.osl 1 0 1 0 l.length),(10,.b y.2.2),(11,.i y.1)]) (fun y=>[.row 41 0 g.cells,.row 4 0 (cl fB y.2.1)]) (fun y=>0≤y.1∧y.1≤l.length∧y.2.1.length=l.length∧falses y.2.1≤falses o0∧(y.2.2=true→falses y.2.1<falses o0)) (fun y=>l.length-y.1.toNat) ?_ ?_
 ·simpa using h0
 rintro⟨i,w,ch⟩ ⟨i0,i1,i2,i3,i4⟩
 dsimp only at i0 i1 i2 i3 i4 ⊢
 by_cases hi:i<l.length
 ·have hp:=hl.ok _ (gt_mem i0 hi)
  simp[hi]
  (with_reducible repeat' first|(first|refine Xy ?_|refine Xz ?_|refine Xu ?_|refine Xv ?_)<;>try simp|(first|refine Xa (fun h h'=>?_) (fun h=>?_)|(first|refine Xd ?_ ?_|refine Xo ?_ ?_|refine Xb ?_ ?_)<;>intro h)<;>(try simp[h])<;>(try (exfalso;omega))|refine Xg ?_|omega)
  ·refine LJ.e (i+1,w,ch) ?_
   dsimp only
   exact⟨by omega,by omega,by omega,i2,i3,i4⟩
  ·refine XTCall.c rfl rfl (f112 g hg _ hp) (by simp) (by simp) ?_
   simp
   have hfl:=h
   refine XLoop.e ((0,false,true):Int×Bool×Bool) (fun y=>[(1,dPs l),(2,.sl 1 ((nextI g l).map fI)),(3,.i side),(4,.ptr 0 0 0),(9,.osl 1 0 1 0 l.length),(10,.b ch),(11,.i i),(12,.ptr 2 0 0),(13,.b y.2.1),(14,.b y.2.2),(15,.i y.1)]) (fun y=>[.row 41 0 g.cells,.row 4 0 (cl fB w),.row 189 0 [.i (stat g (gt l i)).1,.b (stat g (gt l i)).2]]) (fun y=>0≤y.1∧y.1≤(gt (nextI g l) i).length) (fun y=>(gt (nextI g l) i).length-y.1.toNat) ?_ ?_
   ·simp
   rintro⟨k,sm,al⟩ ⟨k0,k1⟩
   dsimp only at k0 k1 ⊢
   by_cases hk:k<(gt (nextI g l) i).length
   ·have hx:=(hni i i0 hi).2 _ (gt_mem k0 hk)
    have hb:=hnn i i0 hi
    generalize hxx:gt (gt (nextI g l) i) k=x at *
    cases sm<;>cases al<;>simp[hi,hk,hxx]<;>(with_reducible repeat' first|(first|refine Xy ?_|refine Xz ?_|refine Xu ?_|refine Xv ?_)<;>try simp|(first|refine Xa (fun h h'=>?_) (fun h=>?_)|(first|refine Xd ?_ ?_|refine Xo ?_ ?_|refine Xb ?_ ?_)<;>intro h)<;>(try simp[h])<;>(try (exfalso;omega))|refine Xg ?_|omega)
    ·refine LJ.e (k+1,gt w x,false) ?_
     dsimp only;omega
    ·refine LJ.e (k+1,gt w x,gt w x) ?_
     dsimp only;omega
    ·refine LJ.e (k+1,true,false) ?_
     dsimp only;omega
    ·refine LJ.e (k+1,true,gt w x) ?_
     dsimp only;omega
   ·have hpl:∀ v,(pt w i v).length=w.length:=fun v=>pt_len i0 (by omega)
    have hpg:∀ v,gt (pt w i v) i=v:=fun v=>gt_pt_eq i0 (by omega)
    have fin:∀ b:Bool,0≤i+1∧i+1≤l.length∧(pt w i b).length=l.length∧falses (pt w i b)≤falses o0∧((ch||b)=true→falses (pt w i b)<falses o0):=fun b=>by
     have h1:=falses_pt i0 (by omega) hfl b
     refine⟨by omega,by omega,by rw[hpl];exact i2,by omega,fun h2=>?_⟩
     cases b
     ·simp at h2 h1;have:=i4 h2;omega
     ·simp at h1;omega
    cases ch
    ·simp[hi,hk]
     have fin:∀ b:Bool,_:=fin
     (with_reducible repeat' first|(first|refine Xy ?_|refine Xz ?_|refine Xu ?_|refine Xv ?_)<;>try simp[hpl,hpg]|(first|refine Xa (fun h h'=>?_) (fun h=>?_)|(first|refine Xd ?_ ?_|refine Xo ?_ ?_|refine Xb ?_ ?_)<;>intro h)<;>(try simp[h,hpl,hpg])<;>(try (exfalso;omega))|refine Xg ?_|omega)
     ·refine XTCall.c rfl rfl (f69 (stat g (gt l i)).1 _ hp.side) (by simp) (by simp) ?_
      simp[hpl,hpg]
      (with_reducible repeat' first|(first|refine Xy ?_|refine Xz ?_|refine Xu ?_|refine Xv ?_)<;>try simp[hpl,hpg]|(first|refine Xa (fun h h'=>?_) (fun h=>?_)|(first|refine Xd ?_ ?_|refine Xo ?_ ?_|refine Xb ?_ ?_)<;>intro h)<;>(try simp[h,hpl,hpg])<;>(try (exfalso;omega))|refine Xg ?_|omega)
      refine LJ.e (i+1,pt w i (!decide ((if (stat g (gt l i)).1=1 then(gt l i).side else if (stat g (gt l i)).1=3 then 1-(gt l i).side else -1)=1-side)),false || !decide ((if (stat g (gt l i)).1=1 then(gt l i).side else if (stat g (gt l i)).1=3 then 1-(gt l i).side else -1)=1-side)) ?_
      exact⟨by dsimp only;omega,fin _⟩
     ·refine LJ.e (i+1,pt w i sm,false||sm) ?_
      exact⟨by dsimp only;omega,fin _⟩
     ·refine LJ.e (i+1,pt w i al,false||al) ?_
      exact⟨by dsimp only;omega,fin _⟩
    ·simp[hi,hk]
     have fin:∀ b:Bool,_:=fin
     (with_reducible repeat' first|(first|refine Xy ?_|refine Xz ?_|refine Xu ?_|refine Xv ?_)<;>try simp[hpl,hpg]|(first|refine Xa (fun h h'=>?_) (fun h=>?_)|(first|refine Xd ?_ ?_|refine Xo ?_ ?_|refine Xb ?_ ?_)<;>intro h)<;>(try simp[h,hpl,hpg])<;>(try (exfalso;omega))|refine Xg ?_|omega)
     ·refine XTCall.c rfl rfl (f69 (stat g (gt l i)).1 _ hp.side) (by simp) (by simp) ?_
      simp[hpl,hpg]
      (with_reducible repeat' first|(first|refine Xy ?_|refine Xz ?_|refine Xu ?_|refine Xv ?_)<;>try simp[hpl,hpg]|(first|refine Xa (fun h h'=>?_) (fun h=>?_)|(first|refine Xd ?_ ?_|refine Xo ?_ ?_|refine Xb ?_ ?_)<;>intro h)<;>(try simp[h,hpl,hpg])<;>(try (exfalso;omega))|refine Xg ?_|omega)
      refine LJ.e (i+1,pt w i (!decide ((if (stat g (gt l i)).1=1 then(gt l i).side else if (stat g (gt l i)).1=3 then 1-(gt l i).side else -1)=1-side)),true || !decide ((if (stat g (gt l i)).1=1 then(gt l i).side else if (stat g (gt l i)).1=3 then 1-(gt l i).side else -1)=1-side)) ?_
      exact⟨by dsimp only;omega,fin _⟩
     ·refine LJ.e (i+1,pt w i sm,true||sm) ?_
      exact⟨by dsimp only;omega,fin _⟩
     ·refine LJ.e (i+1,pt w i al,true||al) ?_
      exact⟨by dsimp only;omega,fin _⟩
 ·simp[hi]
  refine LJ.e (w,ch) ?_
  dsimp only
  refine⟨?_,i2⟩
  cases ch
  ·simp;omega
  ·have:=i4 rfl
   simp;omega
theorem f39(g:Game)(hg:GameOK g)(l:List Pos)(hl:Closed2 g l)(v:List Stp)(hv:v.length=l.length):Wf T 39 [dG g,dPs l,.sl 1 ((nextI g l).map fI),dProg v] [] (Ey dI fun _=>True):=by
 have hlen:=hl.len
 refine Wf.x (fn:=F39) rfl (by simp[F39]) ?_
 simp[F39]
 refine XLoop.e ((0,[]):Int×List Int) (fun y=>[(1,dPs l),(2,.sl 1 ((nextI g l).map fI)),(3,dProg v),(4,.ptr 0 0 0),(9,.osl 1 y.2.length 1 0 y.2.length),(10,.i y.1)]) (fun y=>[.row 41 0 g.cells,.row 3 y.2.length (cl f1 y.2)]) (fun y=>0≤y.1∧y.1≤v.length∧y.2.length=y.1.toNat) (fun y=>v.length-y.1.toNat) ?_ ?_
 ·simp
 rintro⟨i,w⟩ ⟨i0,i1,i2⟩
 dsimp only at i0 i1 i2 ⊢
 simp
 (with_reducible repeat' first|(first|refine Xy ?_|refine Xz ?_|refine Xu ?_|refine Xv ?_)<;>try simp|(first|refine Xa (fun h h'=>?_) (fun h=>?_)|(first|refine Xd ?_ ?_|refine Xo ?_ ?_|refine Xb ?_ ?_)<;>intro h)<;>(try simp[h])<;>(try (exfalso;omega))|refine Xg ?_|omega)
 ·refine LJ.e (i+1,w ++ [(gt v i).1]) ?_
  exact⟨by dsimp only;omega,by dsimp only;omega,by dsimp only;omega,by simp;omega⟩
 ·exact Ey.i w rfl rfl trivial
 ·have c:=f68 g hg l hl 0 (by omega)
  simp only[dG,Game.cells]at c
  rw[h]at c
  refine XCall.q rfl rfl c (by simp) (fun r=>by simp[closed_slm]) ?_
  intro r hr
  simp
  refine XLoop.e ((0,w):Int×List Int) (fun y=>[(1,dPs l),(3,dProg v),(9,.osl 1 w.length 1 0 w.length),(11,.i 1),(12,.sl 1 (r.map fB)),(13,.i y.1)]) (fun y=>[.row 41 0 g.cells,.row 3 w.length (cl f1 y.2)]) (fun y=>0≤y.1∧y.1≤l.length∧y.2.length=w.length) (fun y=>l.length-y.1.toNat) ?_ ?_
  ·simp
  rintro⟨j,u⟩ ⟨j0,j1,j2⟩
  dsimp only at j0 j1 j2 ⊢
  by_cases hj:j<l.length
  ·have hpl:∀ x:Int,(pt u j x).length=u.length:=fun x=>pt_len j0 (by omega)
   have hpp:∀ x y:Int,pt (pt u j x) j y=pt u j y:=fun x y=>pt_pt j0 (by omega)
   have hp:=hl.ok _ (gt_mem j0 hj)
   simp[hj]
   (with_reducible repeat' first|(first|refine Xy ?_|refine Xz ?_|refine Xu ?_|refine Xv ?_)<;>try simp|(first|refine Xa (fun h h'=>?_) (fun h=>?_)|(first|refine Xd ?_ ?_|refine Xo ?_ ?_|refine Xb ?_ ?_)<;>intro h)<;>(try simp[h])<;>(try (exfalso;omega))|refine Xg ?_|omega)
   refine XTCall.c rfl rfl (f69 (gt v j).1 _ hp.side) (by simp) (by simp) ?_
   simp[hpl,hpp]
   (with_reducible repeat' first|(first|refine Xy ?_|refine Xz ?_|refine Xu ?_|refine Xv ?_)<;>try simp[hpl,hpp]|(first|refine Xa (fun h h'=>?_) (fun h=>?_)|(first|refine Xd ?_ ?_|refine Xo ?_ ?_|refine Xb ?_ ?_)<;>intro h)<;>(try simp[h,hpl,hpp])<;>(try (exfalso;omega))|refine Xg ?_|omega)
   all_goals first
    | (refine LJ.i (j+1,u) rfl rfl rfl rfl ⟨by dsimp only;omega,by dsimp only;omega,by dsimp only;omega,by first|exact j2|(dsimp only;rw[hpl];exact j2)⟩;done)
    | (refine LJ.i (j+1,pt u j 2) rfl rfl rfl rfl ⟨by dsimp only;omega,by dsimp only;omega,by dsimp only;omega,by first|exact j2|(dsimp only;rw[hpl];exact j2)⟩;done)
    | (refine LJ.i (j+1,pt u j 1) rfl rfl rfl rfl ⟨by dsimp only;omega,by dsimp only;omega,by dsimp only;omega,by first|exact j2|(dsimp only;rw[hpl];exact j2)⟩;done)
    | (refine LJ.i (j+1,pt u j 3) rfl rfl rfl rfl ⟨by dsimp only;omega,by dsimp only;omega,by dsimp only;omega,by first|exact j2|(dsimp only;rw[hpl];exact j2)⟩;done)
  ·simp[hj]
   exact Ey.i u (by simp[j2]) rfl trivial
 ·have c:=f68 g hg l hl 1 (by omega)
  simp only[dG,Game.cells]at c
  refine XCall.q rfl rfl c (by simp) (fun r=>by simp[closed_slm]) ?_
  intro r hr
  simp
  refine XLoop.e ((0,w):Int×List Int) (fun y=>[(1,dPs l),(3,dProg v),(9,.osl 1 w.length 1 0 w.length),(11,.i 0),(12,.sl 1 (r.map fB)),(13,.i y.1)]) (fun y=>[.row 41 0 g.cells,.row 3 w.length (cl f1 y.2)]) (fun y=>0≤y.1∧y.1≤l.length∧y.2.length=w.length) (fun y=>l.length-y.1.toNat) ?_ ?_
  ·simp
  rintro⟨j,u⟩ ⟨j0,j1,j2⟩
  dsimp only at j0 j1 j2 ⊢
  by_cases hj:j<l.length
  ·have hpl:∀ x:Int,(pt u j x).length=u.length:=fun x=>pt_len j0 (by omega)
   have hpp:∀ x y:Int,pt (pt u j x) j y=pt u j y:=fun x y=>pt_pt j0 (by omega)
   have hp:=hl.ok _ (gt_mem j0 hj)
   simp[hj]
   (with_reducible repeat' first|(first|refine Xy ?_|refine Xz ?_|refine Xu ?_|refine Xv ?_)<;>try simp|(first|refine Xa (fun h h'=>?_) (fun h=>?_)|(first|refine Xd ?_ ?_|refine Xo ?_ ?_|refine Xb ?_ ?_)<;>intro h)<;>(try simp[h])<;>(try (exfalso;omega))|refine Xg ?_|omega)
   refine XTCall.c rfl rfl (f69 (gt v j).1 _ hp.side) (by simp) (by simp) ?_
   simp[hpl,hpp]
   (with_reducible repeat' first|(first|refine Xy ?_|refine Xz ?_|refine Xu ?_|refine Xv ?_)<;>try simp[hpl,hpp]|(first|refine Xa (fun h h'=>?_) (fun h=>?_)|(first|refine Xd ?_ ?_|refine Xo ?_ ?_|refine Xb ?_ ?_)<;>intro h)<;>(try simp[h,hpl,hpp])<;>(try (exfalso;omega))|refine Xg ?_|omega)
   all_goals first
    | (refine LJ.i (j+1,u) rfl rfl rfl rfl ⟨by dsimp only;omega,by dsimp only;omega,by dsimp only;omega,by first|exact j2|(dsimp only;rw[hpl];exact j2)⟩;done)
    | (refine LJ.i (j+1,pt u j 2) rfl rfl rfl rfl ⟨by dsimp only;omega,by dsimp only;omega,by dsimp only;omega,by first|exact j2|(dsimp only;rw[hpl];exact j2)⟩;done)
    | (refine LJ.i (j+1,pt u j 1) rfl rfl rfl rfl ⟨by dsimp only;omega,by dsimp only;omega,by dsimp only;omega,by first|exact j2|(dsimp only;rw[hpl];exact j2)⟩;done)
    | (refine LJ.i (j+1,pt u j 3) rfl rfl rfl rfl ⟨by dsimp only;omega,by dsimp only;omega,by dsimp only;omega,by first|exact j2|(dsimp only;rw[hpl];exact j2)⟩;done)
  ·simp[hj]
   exact Ey.i u (by simp[j2]) rfl trivial
end Go.Proofs.YtnaefnajkaohgaaGreatDoor
