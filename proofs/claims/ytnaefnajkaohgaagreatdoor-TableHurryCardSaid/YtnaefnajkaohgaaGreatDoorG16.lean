/- Part 16 of TableHurry. -/
import Derived.Test.YtnaefnajkaohgaaGreatDoorG15
set_option linter.all false
namespace Go.Proofs.YtnaefnajkaohgaaGreatDoor
open Go Go.AL Classical
set_option maxRecDepth 10000
set_option maxHeartbeats 1000000
structure kF(g:ey)(l:List Pos):Prop where
 rO:iI l
 ok:∀ q∈l,fo g q
 cl:∀ q∈l,∀ m,mE g q m→m∈l
 len:l.length≤4000
theorem z'.c2{g:ey}{l:List Pos}(h:z' g l):kF g l:=⟨h.rO,h.ok,h.cl,by have:=h.len;omega⟩
noncomputable def eQ(g:ey)(l:List Pos):List (List Int):=l.map fun p=>(fX g p).map (jB l)
theorem f37(g:ey)(hg:eW g)(l:List Pos)(hl:kF g l):Wf T 37 [dG g,fh l] [] (Is (.tup [.sl 1 ((eQ g l).map fI),.b true])):=by
 have hlen:=hl.len
 have iz:∀ q∈l,Small q:=fun q hq=>(hl.ok q hq).small hg
 refine Yz xa (gu 59 [2] xa.body) ?_
 simp[xa,gu,iA,kG,kI,kR,jE]
 (with_reducible repeat' first|refine Xk ?_<;>try simp|refine Xs ?_ ?_<;>intro h<;>(try intro h')<;>(try simp[h])<;>(try omega)|refine Xg ?_|omega)
 refine Yc (f64 l (by omega) iz) ?_
 simp
 have hs:=hl.rO
 (with_reducible repeat' first|refine Xk ?_<;>try simp|refine Xs ?_ ?_<;>intro h<;>(try intro h')<;>(try simp[h])<;>(try omega)|refine Xg ?_|omega)
 refine eF.e ((0,0,[]):Int×Nat×List (List Int)) (fun y=>[(1,fh l),(2,.ptr 0 0 0),(6,.eu 1 y.2.1 1 0 y.2.2.length),(7,.i y.1)]) (fun y=>[.row 41 0 g.cells,.row 33 y.2.1 (cl fI y.2.2)]) (fun y=>0≤y.1∧y.1≤l.length∧y.2.2=(l.take y.1.toNat).map fun p=>(fX g p).map (jB l)) (fun y=>l.length-y.1.toNat) ?_ ?_
 ·simp
 rintro⟨i,gn,out⟩ ⟨i0,i1,i2⟩
 dsimp only at i0 i1 i2 ⊢
 simp
 have LD:out.length≤4000:=by rw[i2];simp;omega
 (with_reducible repeat' first|refine Xk ?_<;>try simp|refine Xs ?_ ?_<;>intro h<;>(try intro h')<;>(try simp[h])<;>(try omega)|refine Xg ?_|omega)
 ·have hp:=hl.ok _ (eH i0 ‹_›)
  refine Yt (f65 g _ hg hp) ?_
  simp
  (with_reducible repeat' first|refine Xk ?_<;>try simp|refine Xs ?_ ?_<;>intro h<;>(try intro h')<;>(try simp[h])<;>(try omega)|refine Xg ?_|omega)
  refine Yt (f60 g hg _ hp) ?_
  simp
  have GD:=s6 hg hp
  have lR:∀ q∈fX g (gt l i),q∈l:=fun q hq=>hl.cl _ (eH i0 ‹_›) q (s7.1 hq)
  refine eF.e ((0,0,[]):Int×Nat×List Int) (fun y=>[(1,fh l),(2,.ptr 0 0 0),(6,.eu 1 gn 1 0 out.length),(7,.i i),(8,oD g (gt l i)),(9,.eu 2 y.2.1 1 0 y.2.2.length),(10,.i y.1)]) (fun y=>[.row 41 0 g.cells,.row 33 gn (cl fI out),.row 3 y.2.1 (cl f1 y.2.2)]) (fun y=>0≤y.1∧y.1≤(fX g (gt l i)).length∧y.2.2=((fX g (gt l i)).take y.1.toNat).map (jB l)) (fun y=>(fX g (gt l i)).length-y.1.toNat) ?_ ?_
  ·simp
  rintro⟨j,gm,row⟩ ⟨j0,j1,j2⟩
  dsimp only at j0 j1 j2 ⊢
  have gC:row.length≤j.toNat:=by rw[j2];simp;omega
  simp
  (with_reducible repeat' first|refine Xk ?_<;>try simp|refine Xs ?_ ?_<;>intro h<;>(try intro h')<;>(try simp[h])<;>(try omega)|refine Xg ?_|omega)
  ·have hm:=lR _ (eH j0 ‹_›)
   refine Yc (f27 l _ (by omega) iz (iz _ hm) hs) ?_
   simp
   have hf:=vF hm
   (with_reducible repeat' first|refine Xk ?_<;>try simp|refine Xs ?_ ?_<;>intro h<;>(try intro h')<;>(try simp[h])<;>(try omega)|refine Xg ?_|omega)
   refine LJ.e (j+1,gm+1,row ++ [jB l (gt (fX g (gt l i)) j)]) ?_
   dsimp only
   refine⟨by omega,by omega,by omega,?_⟩
   rw[gj j0 ‹_›,List.map_append,j2];rfl
  ·(with_reducible repeat' first|refine Xk ?_<;>try simp|refine Xs ?_ ?_<;>intro h<;>(try intro h')<;>(try simp[h])<;>(try omega)|refine Xg ?_|omega)
   refine LJ.e (i+1,gn+1,out ++ [row]) ?_
   dsimp only
   refine⟨by omega,by omega,by omega,?_⟩
   rw[gj i0 ‹_›,List.map_append,i2]
   rw[iH (by omega)]at j2
   rw[j2];rfl
 ·rw[i2,iH (by omega)];rfl
set_option maxRecDepth 10000
set_option maxHeartbeats 1000000
noncomputable def nH(g:ey)(p:Pos):Kn:=((stat g p).1,0,(stat g p).2)
theorem Qb(g:ey)(hg:eW g)(l:List Pos)(hl:kF g l):Wf T 66 [dG g,fh l] [] (fun d H=>d = .eu 0 l.length 3 0 l.length∧H = [.row 134 l.length (cl fK (l.map (nH g)))]):=by
 have hlen:=hl.len
 refine Wf.xo 1 (fn:=xe) rfl (by simp[xe]) ?_
 simp[xe]
 refine eF.e ((0,[]):Int×List Kn) (fun y=>[(1,fh l),(2,.ptr 0 0 0),(5,.eu 1 y.2.length 3 0 y.2.length),(6,.i y.1)]) (fun y=>[.row 41 0 g.cells,.row 134 y.2.length (cl fK y.2)]) (fun y=>0≤y.1∧y.1≤l.length∧y.2=(l.take y.1.toNat).map (nH g)) (fun y=>l.length-y.1.toNat) ?_ ?_
 ·simp
 rintro⟨i,out⟩ ⟨i0,i1,i2⟩
 dsimp only at i0 i1 i2 ⊢
 have LD:out.length=i.toNat:=by rw[i2];simp;omega
 simp
 (with_reducible repeat' first|refine Xk ?_<;>try simp|refine Xs ?_ ?_<;>intro h<;>(try intro h')<;>(try simp[h])<;>(try omega)|refine Xg ?_|omega)
 ·refine Yt (f112 g hg _ (hl.ok _ (eH i0 ‹_›))) ?_
  simp
  (with_reducible repeat' first|refine Xk ?_<;>try simp|refine Xs ?_ ?_<;>intro h<;>(try intro h')<;>(try simp[h])<;>(try omega)|refine Xg ?_|omega)
  refine LJ.i (i+1,out ++ [nH g (gt l i)]) (by first|rfl|simp[nH]) (by first|rfl|simp[nH]) rfl rfl ?_
  dsimp only
  refine⟨by omega,by omega,by omega,?_⟩
  rw[gj i0 ‹_›,List.map_append,i2];rfl
 ·have e:out=l.map (nH g):=by rw[i2,iH (by omega)]
  have e2:out.length=l.length:=by rw[e];simp
  rw[← e]
theorem lT{g:ey}{l:List Pos}(hl:kF g l){i:Int}(h0:0≤i)(h1:i<l.length):gt (eQ g l) i=(fX g (gt l i)).map (jB l)∧∀ k∈gt (eQ g l) i,0≤k∧k<l.length:=by
 have e:gt (eQ g l) i=(fX g (gt l i)).map (jB l):=by
  unfold eQ gt
  simp only[List.getD_eq_getElem?_getD,ar]
  rw[List.getElem?_eq_getElem (by omega)]
  rfl
 refine⟨e,fun k hk=>?_⟩
 rw[e]at hk
 obtain⟨q,hq,rfl⟩:=aw.1 hk
 have:=vF (hl.cl _ (eH h0 h1) q (s7.1 hq))
 exact⟨this.1,this.2.1⟩
set_option maxRecDepth 10000
set_option maxHeartbeats 1000000
theorem f69(o s:Int)(hs:0≤s∧s≤1):Wf T 69 [.i o,.i s] [] (Is (.i (if o=1 then s else if o=3 then 1-s else -1))):=by
 refine Yg BY ?_
 simp[BY]
 (with_reducible repeat' first|refine Xk ?_<;>try simp|refine Xs ?_ ?_<;>intro h<;>(try intro h')<;>(try simp[h])<;>(try omega)|refine Xg ?_|omega)
 all_goals simp[*]
theorem f68(g:ey)(hg:eW g)(l:List Pos)(hl:kF g l)(side:Int)(gv:0≤side∧side≤1):Wf T 68 [dG g,fh l,.sl 1 ((eQ g l).map fI),.i side] [] (Ey (fun r:List Bool=>.sl 1 (r.map fB)) fun r=>r.length=l.length):=by
 have hlen:=hl.len
 have Lx:(eQ g l).length=l.length:=by simp[eQ]
 have ur:=fun(i:Int) (a:0≤i) (b:i<l.length)=>lT hl a b
 have oi:∀ i:Int,0≤i→i<l.length→(gt (eQ g l) i).length≤4000000000:=fun i a b=>by
  rw[(ur i a b).1,List.length_map]
  exact s6 hg (hl.ok _ (eH a b))
 refine Yg BX ?_
 simp[BX]
 (with_reducible repeat' first|refine Xk ?_<;>try simp|refine Xs ?_ ?_<;>intro h<;>(try intro h')<;>(try simp[h])<;>(try omega)|refine Xg ?_|omega)
 refine eF.e ((List.replicate l.length false,true):List Bool×Bool) (fun y=>[(1,fh l),(2,.sl 1 ((eQ g l).map fI)),(3,.i side),(4,.ptr 0 0 0),(9,.eu 1 0 1 0 l.length),(10,.b y.2)]) (fun y=>[.row 41 0 g.cells,.row 4 0 (cl fB y.1)]) (fun y=>y.1.length=l.length) (fun y=>2*oR y.1+(if y.2 then 1 else 0)) ?_ ?_
 ·simp
 rintro⟨o0,ch⟩ h0
 dsimp only at h0 ⊢
 cases ch
 ·simp[h0]
  exact Ey.i o0 rfl rfl h0
 simp
 refine eF.e ((0,o0,false):Int×List Bool×Bool) (fun y=>[(1,fh l),(2,.sl 1 ((eQ g l).map fI)),(3,.i side),(4,.ptr 0 0 0),(9,.eu 1 0 1 0 l.length),(10,.b y.2.2),(11,.i y.1)]) (fun y=>[.row 41 0 g.cells,.row 4 0 (cl fB y.2.1)]) (fun y=>0≤y.1∧y.1≤l.length∧y.2.1.length=l.length∧oR y.2.1≤oR o0∧(y.2.2=true→oR y.2.1<oR o0)) (fun y=>l.length-y.1.toNat) ?_ ?_
 ·simpa using h0
 rintro⟨i,w,ch⟩ ⟨i0,i1,i2,i3,i4⟩
 dsimp only at i0 i1 i2 i3 i4 ⊢
 by_cases hi:i<l.length
 ·have hp:=hl.ok _ (eH i0 hi)
  simp[hi]
  (with_reducible repeat' first|refine Xk ?_<;>try simp|refine Xs ?_ ?_<;>intro h<;>(try intro h')<;>(try simp[h])<;>(try omega)|refine Xg ?_|omega)
  ·refine LJ.e (i+1,w,ch) ?_
   dsimp only
   exact⟨by omega,by omega,by omega,i2,i3,i4⟩
  ·refine Yt (f112 g hg _ hp) ?_
   simp
   have oh:=h
   refine eF.e ((0,false,true):Int×Bool×Bool) (fun y=>[(1,fh l),(2,.sl 1 ((eQ g l).map fI)),(3,.i side),(4,.ptr 0 0 0),(9,.eu 1 0 1 0 l.length),(10,.b ch),(11,.i i),(12,.ptr 2 0 0),(13,.b y.2.1),(14,.b y.2.2),(15,.i y.1)]) (fun y=>[.row 41 0 g.cells,.row 4 0 (cl fB w),.row 189 0 [.i (stat g (gt l i)).1,.b (stat g (gt l i)).2]]) (fun y=>0≤y.1∧y.1≤(gt (eQ g l) i).length) (fun y=>(gt (eQ g l) i).length-y.1.toNat) ?_ ?_
   ·simp
   rintro⟨k,sm,al⟩ ⟨k0,k1⟩
   dsimp only at k0 k1 ⊢
   by_cases hk:k<(gt (eQ g l) i).length
   ·have hx:=(ur i i0 hi).2 _ (eH k0 hk)
    have hb:=oi i i0 hi
    generalize SJ:gt (gt (eQ g l) i) k=x at *
    cases sm<;>cases al<;>simp[hi,hk,SJ]<;>(with_reducible repeat' first|refine Xk ?_<;>try simp|refine Xs ?_ ?_<;>intro h<;>(try intro h')<;>(try simp[h])<;>(try omega)|refine Xg ?_|omega)
    ·refine LJ.e (k+1,gt w x,false) ?_
     dsimp only;omega
    ·refine LJ.e (k+1,gt w x,gt w x) ?_
     dsimp only;omega
    ·refine LJ.e (k+1,true,false) ?_
     dsimp only;omega
    ·refine LJ.e (k+1,true,gt w x) ?_
     dsimp only;omega
   ·have gL:∀ v,(pt w i v).length=w.length:=fun v=>ga i0 (by omega)
    have om:∀ v,gt (pt w i v) i=v:=fun v=>vH i0 (by omega)
    have fin:∀ b:Bool,0≤i+1∧i+1≤l.length∧(pt w i b).length=l.length∧oR (pt w i b)≤oR o0∧((ch||b)=true→oR (pt w i b)<oR o0):=fun b=>by
     have h1:=Qg i0 (by omega) oh b
     refine⟨by omega,by omega,by rw[gL];exact i2,by omega,fun h2=>?_⟩
     cases b
     ·simp at h2 h1;have:=i4 h2;omega
     ·simp at h1;omega
    cases ch
    ·simp[hi,hk]
     have fin:∀ b:Bool,_:=fin
     (with_reducible repeat' first|refine Xk ?_<;>try simp[gL,om]|refine Xs ?_ ?_<;>intro h<;>(try intro h')<;>(try simp[h,gL,om])<;>(try omega)|refine Xg ?_|omega)
     ·refine Yt (f69 (stat g (gt l i)).1 _ hp.side) ?_
      simp[gL,om]
      (with_reducible repeat' first|refine Xk ?_<;>try simp[gL,om]|refine Xs ?_ ?_<;>intro h<;>(try intro h')<;>(try simp[h,gL,om])<;>(try omega)|refine Xg ?_|omega)
      refine LJ.e (i+1,pt w i (!decide ((if (stat g (gt l i)).1=1 then(gt l i).side else if (stat g (gt l i)).1=3 then 1-(gt l i).side else -1)=1-side)),false || !decide ((if (stat g (gt l i)).1=1 then(gt l i).side else if (stat g (gt l i)).1=3 then 1-(gt l i).side else -1)=1-side)) ?_
      exact⟨by dsimp only;omega,fin _⟩
     ·refine LJ.e (i+1,pt w i sm,false||sm) ?_
      exact⟨by dsimp only;omega,fin _⟩
     ·refine LJ.e (i+1,pt w i al,false||al) ?_
      exact⟨by dsimp only;omega,fin _⟩
    ·simp[hi,hk]
     have fin:∀ b:Bool,_:=fin
     (with_reducible repeat' first|refine Xk ?_<;>try simp[gL,om]|refine Xs ?_ ?_<;>intro h<;>(try intro h')<;>(try simp[h,gL,om])<;>(try omega)|refine Xg ?_|omega)
     ·refine Yt (f69 (stat g (gt l i)).1 _ hp.side) ?_
      simp[gL,om]
      (with_reducible repeat' first|refine Xk ?_<;>try simp[gL,om]|refine Xs ?_ ?_<;>intro h<;>(try intro h')<;>(try simp[h,gL,om])<;>(try omega)|refine Xg ?_|omega)
      refine LJ.e (i+1,pt w i (!decide ((if (stat g (gt l i)).1=1 then(gt l i).side else if (stat g (gt l i)).1=3 then 1-(gt l i).side else -1)=1-side)),true || !decide ((if (stat g (gt l i)).1=1 then(gt l i).side else if (stat g (gt l i)).1=3 then 1-(gt l i).side else -1)=1-side)) ?_
      exact⟨by dsimp only;omega,fin _⟩
     ·refine LJ.e (i+1,pt w i sm,true||sm) ?_
      exact⟨by dsimp only;omega,fin _⟩
     ·refine LJ.e (i+1,pt w i al,true||al) ?_
      exact⟨by dsimp only;omega,fin _⟩
 ·simp[hi]
  refine LJ.e (w,ch) ?_
  dsimp only
  refine⟨?_,i2⟩
  cases ch
  ·simp;omega
  ·have:=i4 rfl
   simp;omega
theorem f39(g:ey)(hg:eW g)(l:List Pos)(hl:kF g l)(v:List eI)(hv:v.length=l.length):Wf T 39 [dG g,fh l,.sl 1 ((eQ g l).map fI),ft v] [] (Ey dI fun _=>True):=by
 have hlen:=hl.len
 refine Yg BJ ?_
 simp[BJ]
 refine eF.e ((0,[]):Int×List Int) (fun y=>[(1,fh l),(2,.sl 1 ((eQ g l).map fI)),(3,ft v),(4,.ptr 0 0 0),(9,.eu 1 y.2.length 1 0 y.2.length),(10,.i y.1)]) (fun y=>[.row 41 0 g.cells,.row 3 y.2.length (cl f1 y.2)]) (fun y=>0≤y.1∧y.1≤v.length∧y.2.length=y.1.toNat) (fun y=>v.length-y.1.toNat) ?_ ?_
 ·simp
 rintro⟨i,w⟩ ⟨i0,i1,i2⟩
 dsimp only at i0 i1 i2 ⊢
 simp
 (with_reducible repeat' first|refine Xk ?_<;>try simp|refine Xs ?_ ?_<;>intro h<;>(try intro h')<;>(try simp[h])<;>(try omega)|refine Xg ?_|omega)
 ·refine LJ.e (i+1,w ++ [(gt v i).1]) ?_
  exact⟨by dsimp only;omega,by dsimp only;omega,by dsimp only;omega,by simp;omega⟩
 ·exact Ey.i w rfl rfl trivial
 ·have c:=f68 g hg l hl 0 (by omega)
  simp only[dG,ey.cells]at c
  rw[h]at c
  refine eU.q rfl rfl c (by simp) (fun r=>by simp[xG]) ?_
  intro r hr
  simp
  refine eF.e ((0,w):Int×List Int) (fun y=>[(1,fh l),(3,ft v),(9,.eu 1 w.length 1 0 w.length),(11,.i 1),(12,.sl 1 (r.map fB)),(13,.i y.1)]) (fun y=>[.row 41 0 g.cells,.row 3 w.length (cl f1 y.2)]) (fun y=>0≤y.1∧y.1≤l.length∧y.2.length=w.length) (fun y=>l.length-y.1.toNat) ?_ ?_
  ·simp
  rintro⟨j,u⟩ ⟨j0,j1,j2⟩
  dsimp only at j0 j1 j2 ⊢
  by_cases hj:j<l.length
  ·have gL:∀ x:Int,(pt u j x).length=u.length:=fun x=>ga j0 (by omega)
   have sR:∀ x y:Int,pt (pt u j x) j y=pt u j y:=fun x y=>Nn j0 (by omega)
   have hp:=hl.ok _ (eH j0 hj)
   simp[hj]
   (with_reducible repeat' first|refine Xk ?_<;>try simp|refine Xs ?_ ?_<;>intro h<;>(try intro h')<;>(try simp[h])<;>(try omega)|refine Xg ?_|omega)
   refine Yt (f69 (gt v j).1 _ hp.side) ?_
   simp[gL,sR]
   (with_reducible repeat' first|refine Xk ?_<;>try simp[gL,sR]|refine Xs ?_ ?_<;>intro h<;>(try intro h')<;>(try simp[h,gL,sR])<;>(try omega)|refine Xg ?_|omega)
   all_goals first
    | (refine LJ.i (j+1,u) rfl rfl rfl rfl ⟨by dsimp only;omega,by dsimp only;omega,by dsimp only;omega,by first|exact j2|(dsimp only;rw[gL];exact j2)⟩;done)
    | (refine LJ.i (j+1,pt u j 2) rfl rfl rfl rfl ⟨by dsimp only;omega,by dsimp only;omega,by dsimp only;omega,by first|exact j2|(dsimp only;rw[gL];exact j2)⟩;done)
    | (refine LJ.i (j+1,pt u j 1) rfl rfl rfl rfl ⟨by dsimp only;omega,by dsimp only;omega,by dsimp only;omega,by first|exact j2|(dsimp only;rw[gL];exact j2)⟩;done)
    | (refine LJ.i (j+1,pt u j 3) rfl rfl rfl rfl ⟨by dsimp only;omega,by dsimp only;omega,by dsimp only;omega,by first|exact j2|(dsimp only;rw[gL];exact j2)⟩;done)
  ·simp[hj]
   exact Ey.i u (by simp[j2]) rfl trivial
 ·have c:=f68 g hg l hl 1 (by omega)
  simp only[dG,ey.cells]at c
  refine eU.q rfl rfl c (by simp) (fun r=>by simp[xG]) ?_
  intro r hr
  simp
  refine eF.e ((0,w):Int×List Int) (fun y=>[(1,fh l),(3,ft v),(9,.eu 1 w.length 1 0 w.length),(11,.i 0),(12,.sl 1 (r.map fB)),(13,.i y.1)]) (fun y=>[.row 41 0 g.cells,.row 3 w.length (cl f1 y.2)]) (fun y=>0≤y.1∧y.1≤l.length∧y.2.length=w.length) (fun y=>l.length-y.1.toNat) ?_ ?_
  ·simp
  rintro⟨j,u⟩ ⟨j0,j1,j2⟩
  dsimp only at j0 j1 j2 ⊢
  by_cases hj:j<l.length
  ·have gL:∀ x:Int,(pt u j x).length=u.length:=fun x=>ga j0 (by omega)
   have sR:∀ x y:Int,pt (pt u j x) j y=pt u j y:=fun x y=>Nn j0 (by omega)
   have hp:=hl.ok _ (eH j0 hj)
   simp[hj]
   (with_reducible repeat' first|refine Xk ?_<;>try simp|refine Xs ?_ ?_<;>intro h<;>(try intro h')<;>(try simp[h])<;>(try omega)|refine Xg ?_|omega)
   refine Yt (f69 (gt v j).1 _ hp.side) ?_
   simp[gL,sR]
   (with_reducible repeat' first|refine Xk ?_<;>try simp[gL,sR]|refine Xs ?_ ?_<;>intro h<;>(try intro h')<;>(try simp[h,gL,sR])<;>(try omega)|refine Xg ?_|omega)
   all_goals first
    | (refine LJ.i (j+1,u) rfl rfl rfl rfl ⟨by dsimp only;omega,by dsimp only;omega,by dsimp only;omega,by first|exact j2|(dsimp only;rw[gL];exact j2)⟩;done)
    | (refine LJ.i (j+1,pt u j 2) rfl rfl rfl rfl ⟨by dsimp only;omega,by dsimp only;omega,by dsimp only;omega,by first|exact j2|(dsimp only;rw[gL];exact j2)⟩;done)
    | (refine LJ.i (j+1,pt u j 1) rfl rfl rfl rfl ⟨by dsimp only;omega,by dsimp only;omega,by dsimp only;omega,by first|exact j2|(dsimp only;rw[gL];exact j2)⟩;done)
    | (refine LJ.i (j+1,pt u j 3) rfl rfl rfl rfl ⟨by dsimp only;omega,by dsimp only;omega,by dsimp only;omega,by first|exact j2|(dsimp only;rw[gL];exact j2)⟩;done)
  ·simp[hj]
   exact Ey.i u (by simp[j2]) rfl trivial
end Go.Proofs.YtnaefnajkaohgaaGreatDoor
namespace Go.AL
open Go
section
variable{P:D→Prop}{a b:Int}{k:IntKind}{t:Tag P}
@[simp low] theorem ahA:oA (ij .rem k a b) P t=(b≠0∧P (.val (.int k (eO a b)))):=by
 cases t
 simp only[ij]
 by_cases h:b=0<;>simp[h,eO]
def gW(k:IntKind)(a b:Int):Int:=k.wrap (a.tdiv b)
@[simp low] theorem ahy:oA (ij .quo k a b) P t=(b≠0∧P (.val (.int k (gW k a b)))):=by
 cases t
 simp only[ij]
 by_cases h:b=0<;>simp[h,gW]
end
@[simp] theorem afj{ρ:Nat→Option Nat}{H:et}{k:Nat}{t:TypeId}{a b:Int}:lz ρ H (k+1) 1 0 2 (some (t,[.i a,.i b]))=dI [a,b]:=by
 have h:=q9 (f:=f1) (ρ:=ρ) (H:=H) (k:=k) (t:=t) (l:=[a,b]) (n:=2) rfl
 rw[lL]at h
 simp only[List.map_cons,List.map_nil,sA,aL,cH,av,cu,bJ]at h
 rw[h];unfold dI;simp only[List.map_cons,List.map_nil,sA]
end Go.AL
namespace Go.Proofs.YtnaefnajkaohgaaGreatDoor
open Go Go.AL Classical
set_option maxRecDepth 10000
set_option maxHeartbeats 1000000
def dW(w:List Int):D:=.agg (w.map fun n=>.val (.int .u8 n))
theorem f34(g:ey)(hg:eW g)(a0 a1 a2 a3 a4 a5:Int)(h:∀ n∈[a0,a1,a2,a3,a4,a5],0≤n∧n<256):Wf T 34 [dG g,dW [a0,a1,a2,a3,a4,a5]] [] (Ey (fun r:List Int=>.agg [dI r]) fun r=>r.length=g.kinds.length):=by
 have hk:=hg.kinds
 refine Yg BF ?_
 simp[BF,dW]
 rcases(show g.kinds.length=1∨g.kinds.length=2 by omega)with e|e
 ·refine eF.un ?_
  refine gS.u ?_
  simp[e]
  refine gS.u ?_
  simp[e]
  exact Ey.i [IntKind.i64.wrap (eO a0 8)] rfl rfl (by simp[e])
 ·refine eF.un ?_
  refine gS.u ?_
  simp[e]
  refine gS.u ?_
  simp[e]
  refine gS.u ?_
  simp[e]
  exact Ey.i [IntKind.i64.wrap (eO a0 8),IntKind.i64.wrap (eO a1 8)] rfl rfl (by simp[e])
end Go.Proofs.YtnaefnajkaohgaaGreatDoor
namespace Go.AL
open Go
@[irreducible] def fU(n:Int):List D:=[.val (.int .u8 n)]
@[simp] theorem FO(n:Int):fU n = [.val (.int .u8 n)]:=by unfold fU;rfl
instance:Fl fU 1:=⟨fun _=>by simp,fun _=>by simp[eV]⟩
def dU(l:List Int):D:=.sl 1 (l.map fU)
@[simp] theorem aex(l:List Int):closed (dU l)=true:=by unfold dU;exact xG l
@[simp] theorem agB(l:List Int)(H:et):mw .slice (dU l) H=some (.i l.length):=by simp[dU]
@[simp] theorem ahs{l:List Int}{n:Int}{k:IntKind}{P:D→Prop}:oA (lE 1 (dU l) (.val (.int k n))) P .mk=((0≤n∧n<l.length)∧P (.eG [.val (.int .u8 (gt l n))])):=by unfold dU;rw[rJ,FO]
@[simp] theorem aj2(n:Nat)(l:List Int):gD n (dU l) = []:=rfl
@[simp] theorem adN(l:List Int):cellsOf (dU l)=some [dU l]:=rfl
@[simp] theorem ah0(l:List Int):one (dU l)=true:=rfl
structure pY(FB kinds eR:Int)(l:List eI):Prop where
 steps:∀ x∈l,((x.1=1∨x.1=2∨x.1=7)∧0≤x.2∧x.2<FB)∨(3≤x.1∧x.1≤6∧x.2=0)∨(x.1=8∧0≤x.2∧x.2<kinds)∨((x.1=9∨x.1=10)∧0≤x.2∧x.2<eR)
 len:l.length≤8
 pc:kW l 6≤2
 push:kW l 7≤1
 Co:kW l 8≤1
@[simp] theorem acU(a b:Int):ij .add .u8 a b=some (.val (.int .u8 (IntKind.u8.wrap (a+b)))):=rfl
@[simp] theorem ac3(a b:Int):ij .sub .u8 a b=some (.val (.int .u8 (IntKind.u8.wrap (a-b)))):=rfl
theorem Oh(n:Int):0≤IntKind.u8.wrap n∧IntKind.u8.wrap n<256:=by
 simp only[IntKind.wrap,IntKind.bits,IntKind.signed]
 simp
 omega
theorem zo(a b:Int):0≤gW .u8 a b∧gW .u8 a b<256:=Oh _
theorem Pz{ρ:Nat→Option Nat}{H:et}{k n:Nat}{t:TypeId}{cs:List D}(l:List Int)(h:cs=l.map fun n=>D.val (.int .u8 n))(hn:n=l.length):lz ρ H (k+1) 1 0 n (some (t,cs))=dU l:=by
 subst hn
 have e:cs=cl fU l:=by
  rw[h,lL]
  clear h
  induction l with
  | nil=>rfl
  | cons a r ih=>simp[← ih]
 rw[e,q9 rfl]
 rfl
theorem Un{sz:Nat}{es:List (List D)}{k:IntKind}{n:Int}{P:D→Prop}:oA (lE sz (.sl sz es) (.val (.int k n))) P .mk=((0≤n∧n<es.length)∧P (.eG (es.getD n.toNat []))):=by
 simp only[lE,true_and,wy,uM]
theorem oA.i{α:Type}{x:Option α}{P:α→Prop}{t:Tag P}{a:α}(h1:x=some a)(h2:P a):oA x P t:=⟨a,h1,h2⟩
end Go.AL
namespace Go.Proofs.YtnaefnajkaohgaaGreatDoor
open Go Go.AL Classical
set_option maxRecDepth 10000
set_option maxHeartbeats 4000000
theorem f192(l:List Int)(k:Int)(hk:0≤k):Wf T 192 [dU l,.i k] [] (Is (.i (if k<l.length then IntKind.i64.wrap (gt l k)else 0))):=by
 refine Yg A4 ?_
 simp[A4]
 (with_reducible repeat' first|refine Xk ?_<;>try simp|refine Xs ?_ ?_<;>intro h<;>(try intro h')<;>(try simp[h])<;>(try omega)|refine Xg ?_|omega)
 all_goals simp[*]
def rF(d o b k r:Int):List (List eI):=[[(1,d),(3,0)],[(1,d),(4,0),(6,0)],[(2,d)],[(2,d),(4,0),(6,0)],[(1,d),(4,0),(6,0),(1,d)],[(1,d),(1,o)],[(1,d),(7,d)],[(1,d),(3,0),(8,k)],[(9,r),(1,d),(1,d),(10,r)],[(1,d),(5,0),(1,d),(3,0)],[(10,r),(1,d)],[(1,d),(4,0),(6,0),(1,b)],[(1,d),(4,0),(6,0),(1,o),(4,0),(6,0)],[(2,d),(5,0),(1,d)],[(1,d),(4,0),(6,0),(8,k)],[(1,d),(7,d),(1,o)]]
theorem TS(d o b k r:Int)(hd:0≤d∧d<8)(ho:0≤o∧o<8)(hb:0≤b∧b<8)(hk:0≤k∧k<6)(hr:0≤r∧r<4):∀ p∈rF d o b k r,pY 8 6 4 p:=by
 have hp:∀ p:List eI,(∀ x∈p,((x.1=1∨x.1=2∨x.1=7)∧0≤x.2∧x.2<8)∨(3≤x.1∧x.1≤6∧x.2=0)∨(x.1=8∧0≤x.2∧x.2<6)∨((x.1=9∨x.1=10)∧0≤x.2∧x.2<4))→p.length≤8∧kW p 6≤2∧kW p 7≤1∧kW p 8≤1→pY 8 6 4 p:=fun p a b=>⟨a,b.1,b.2.1,b.2.2.1,b.2.2.2⟩
 intro p h
 unfold rF at h
 simp only[ax,cG,or_false]at h
 rcases h with rfl|rfl|rfl|rfl|rfl|rfl|rfl|rfl|rfl|rfl|rfl|rfl|rfl|rfl|rfl|rfl
 all_goals
  refine hp _ ?_ ?_
  ·simp;omega
  ·simp[kW]
theorem TR(d o b k r m:Int)(h0:0≤m)(h1:m<16):([[D.sl 2 [[D.i 1,D.i d],[D.i 3,D.i 0]]],[D.sl 2 [[D.i 1,D.i d],[D.i 4,D.i 0],[D.i 6,D.i 0]]],[D.sl 2 [[D.i 2,D.i d]]],[D.sl 2 [[D.i 2,D.i d],[D.i 4,D.i 0],[D.i 6,D.i 0]]],[D.sl 2 [[D.i 1,D.i d],[D.i 4,D.i 0],[D.i 6,D.i 0],[D.i 1,D.i d]]],[D.sl 2 [[D.i 1,D.i d],[D.i 1,D.i o]]],[D.sl 2 [[D.i 1,D.i d],[D.i 7,D.i d]]],[D.sl 2 [[D.i 1,D.i d],[D.i 3,D.i 0],[D.i 8,D.i k]]],[D.sl 2 [[D.i 9,D.i r],[D.i 1,D.i d],[D.i 1,D.i d],[D.i 10,D.i r]]],[D.sl 2 [[D.i 1,D.i d],[D.i 5,D.i 0],[D.i 1,D.i d],[D.i 3,D.i 0]]],[D.sl 2 [[D.i 10,D.i r],[D.i 1,D.i d]]],[D.sl 2 [[D.i 1,D.i d],[D.i 4,D.i 0],[D.i 6,D.i 0],[D.i 1,D.i b]]],[D.sl 2 [[D.i 1,D.i d],[D.i 4,D.i 0],[D.i 6,D.i 0],[D.i 1,D.i o],[D.i 4,D.i 0],[D.i 6,D.i 0]]],[D.sl 2 [[D.i 2,D.i d],[D.i 5,D.i 0],[D.i 1,D.i d]]],[D.sl 2 [[D.i 1,D.i d],[D.i 4,D.i 0],[D.i 6,D.i 0],[D.i 8,D.i k]]],[D.sl 2 [[D.i 1,D.i d],[D.i 7,D.i d],[D.i 1,D.i o]]]].getD m.toNat [])[0]? = some (ft (gt (rF d o b k r) m)):=by
 rcases(show m=0∨m=1∨m=2∨m=3∨m=4∨m=5∨m=6∨m=7∨m=8∨m=9∨m=10∨m=11∨m=12∨m=13∨m=14∨m=15 by omega)with rfl|rfl|rfl|rfl|rfl|rfl|rfl|rfl|rfl|rfl|rfl|rfl|rfl|rfl|rfl|rfl
 all_goals simp[rF,gt,ft]
theorem f152(l:List Int)(hl:l.length=5)(h:∀ n∈l,0≤n∧n<256):Wf T 152 [dU l] [] (Ey ft (pY 8 6 4)):=by
 have e:∀ k:Int,0≤k→k<5→(if k<l.length then IntKind.i64.wrap (gt l k)else 0)=gt l k:=fun k a b=>by
  rw[if_pos (by omega)]
  have:=h _ (eH (l:=l) a (by omega))
  exact mU ⟨by omega,by omega⟩
 have hr:∀ k:Int,0≤k→k<5→0≤gt l k:=fun k a b=>(h _ (eH (l:=l) a (by omega))).1
 refine Yz wY (gu 121 [0,1,2,3,4,5,6,7,8,9,10,11,12,13,14,15,16,17,18,19,20,21,22,23,24,25,26,27,28] wY.body) ?_
 simp[wY,gu,iA,kG,kI,kR,jE]
 refine Yc (f192 l 1 (by omega)) ?_
 simp[e 1 (by omega) (by omega)]
 refine Yc (f192 l 2 (by omega)) ?_
 simp[e 2 (by omega) (by omega)]
 refine Yc (f192 l 3 (by omega)) ?_
 simp[e 3 (by omega) (by omega)]
 refine Yc (f192 l 4 (by omega)) ?_
 simp[e 4 (by omega) (by omega),lz,chunks]
 have r1:=jo (a:=gt l 1) (b:=8) (hr 1 (by omega) (by omega))
 have r2:=jo (a:=gt l 2) (b:=8) (hr 2 (by omega) (by omega))
 have r3:=jo (a:=gt l 3) (b:=6) (hr 3 (by omega) (by omega))
 have r4:=jo (a:=gt l 4) (b:=4) (hr 4 (by omega) (by omega))
 have r0:=jo (a:=gt l 0) (b:=16) (hr 0 (by omega) (by omega))
 have r5:=jo (a:=eO (gt l 1) 8+4) (b:=8) (by omega)
 have SB:IntKind.i64.wrap (gt l 0)=gt l 0:=by
  have:=e 0 (by omega) (by omega)
  rwa [if_pos (by omega)]at this
 (with_reducible repeat' first|refine Xk ?_<;>try simp|refine Xs ?_ ?_<;>intro h<;>(try intro h')<;>(try simp[h])<;>(try omega)|refine Xg ?_|omega)
 refine Yc (f192 l 0 (by omega)) ?_
 simp[hl,SB,Un,lz,chunks]
 (with_reducible repeat' first|refine Xk ?_<;>try simp|refine Xs ?_ ?_<;>intro h<;>(try intro h')<;>(try simp[h])<;>(try omega)|refine Xg ?_|omega)
 have RL:=TS (eO (gt l 1) 8) (eO (gt l 2) 8) (eO (eO (gt l 1) 8+4) 8) (eO (gt l 3) 6) (eO (gt l 4) 4) (by omega) (by omega) (by omega) (by omega) (by omega)
 have hlen:(rF (eO (gt l 1) 8) (eO (gt l 2) 8) (eO (eO (gt l 1) 8+4) 8) (eO (gt l 3) 6) (eO (gt l 4) 4)).length=16:=rfl
 have hg:∀ m:Int,0≤m→m<16→gt (rF (eO (gt l 1) 8) (eO (gt l 2) 8) (eO (eO (gt l 1) 8+4) 8) (eO (gt l 3) 6) (eO (gt l 4) 4)) m∈rF (eO (gt l 1) 8) (eO (gt l 2) 8) (eO (eO (gt l 1) 8+4) 8) (eO (gt l 3) 6) (eO (gt l 4) 4):=fun m a b=>eH a (by omega)
 refine oA.i (a:=ft (gt (rF (eO (gt l 1) 8) (eO (gt l 2) 8) (eO (eO (gt l 1) 8+4) 8) (eO (gt l 3) 6) (eO (gt l 4) 4)) (eO (gt l 0) 16))) ?_ ?_
 ·exact TR _ _ _ _ _ _ (by omega) (by omega)
 ·simp
  exact Ey.i (gt (rF (eO (gt l 1) 8) (eO (gt l 2) 8) (eO (eO (gt l 1) 8+4) 8) (eO (gt l 3) 6) (eO (gt l 4) 4)) (eO (gt l 0) 16)) rfl rfl (RL _ (hg _ (by omega) (by omega)))
