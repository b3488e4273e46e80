/- Part 15 of TableHurry. -/
import Derived.Test.YtnaefnajkaohgaaGreatDoorG14
import Derived.Test.YtnaefnajkaohgaaGreatDoorG06
import Derived.Test.YtnaefnajkaohgaaGreatDoorG07
import Derived.Test.YtnaefnajkaohgaaGreatDoorG13
set_option linter.all false
namespace Go.Proofs.YtnaefnajkaohgaaGreatDoor
open Go Go.AL Classical
set_option maxRecDepth 10000
set_option maxHeartbeats 1000000
theorem Kf{g:ey}{p:Pos}(h:¬ ended g p){r:List Pos}(hs:iI r)(hm:∀ q,q∈r↔mE g p q):fh r=oD g p:=by
 unfold oD;rw[if_neg h,HJ hs hm]
theorem f60(g:ey)(hg:eW g)(p:Pos)(hp:fo g p):Wf T 60 [dG g,dP p] [] (Is (oD g p)):=by
 refine Yz xd (gu 66 [2] xd.body) ?_
 simp[xd,gu,iA,kG,kI,kR,jE]
 refine Yc (f106 g hg p hp) ?_
 simp
 (with_reducible repeat' first|refine Xk ?_<;>try simp|refine Xs ?_ ?_<;>intro h<;>(try intro h')<;>(try simp[h])<;>(try omega)|refine Xg ?_|omega)
 ·unfold oD;rw[if_pos (CV.1 ‹_›)]
 have fJ:¬ ended g p:=fun h2=>h (CV.2 h2)
 refine Yq (f107 g hg p hp) fun l hl=>?_
 simp
 have il:=hl.2
 refine eF.e ((0,false):Int×Bool) (fun y=>[(2,.ptr 0 0 0),(3,.ptr 1 0 0),(5,kH l),(6,.eu 2 0 5 0 0),(7,.b y.2),(8,.i y.1)]) (fun y=>[.row 41 0 g.cells,.row 44 0 p.cells,.row 44 0 []]) (fun y=>0≤y.1∧y.1≤l.length∧(y.2=true↔g.k6=true∧∃ o∈l.take y.1.toNat,o.gO=true)) (fun y=>l.length-y.1.toNat) ?_ ?_
 ·simp
 rintro⟨i,k6⟩ ⟨h0,h1,h2⟩
 dsimp only at h0 h1 h2 ⊢
 by_cases qo:i<l.length
 ·have e:∀ o,o∈l.take (i+1).toNat↔o∈l.take i.toNat∨o=gt l i:=fun o=>by rw[gj h0 qo,List.mem_append,List.mem_singleton]
  cases lQ:g.k6<;>cases k6<;>simp[lQ,qo]
  ·(with_reducible repeat' first|refine Xk ?_<;>try simp|refine Xs ?_ ?_<;>intro h<;>(try intro h')<;>(try simp[h])<;>(try omega)|refine Xg ?_|omega)
   refine LJ.i (i+1,false) (by first|rfl|simp[lQ]) (by first|rfl|simp[lQ]) rfl rfl ?_
   dsimp only
   exact⟨by omega,by omega,by omega,by simp[lQ]⟩
  ·simp[lQ]at h2
  ·(with_reducible repeat' first|refine Xk ?_<;>try simp|refine Xs ?_ ?_<;>intro h<;>(try intro h')<;>(try simp[h])<;>(try omega)|refine Xg ?_|omega)
   refine LJ.i (i+1,(gt l i).gO) (by first|rfl|simp[lQ]) (by first|rfl|simp[lQ]) rfl rfl ?_
   dsimp only
   refine⟨by omega,by omega,by omega,?_⟩
   simp[lQ]at h2 ⊢
   constructor
   ·intro h;exact⟨_,(e _).2 (.inr rfl),h⟩
   ·rintro⟨o,ho,h⟩
    rcases(e o).1 ho with ho|ho
    ·exact absurd h (by simpa using h2 o ho)
    ·rw[← ho];exact h
  ·(with_reducible repeat' first|refine Xk ?_<;>try simp|refine Xs ?_ ?_<;>intro h<;>(try intro h')<;>(try simp[h])<;>(try omega)|refine Xg ?_|omega)
   refine LJ.i (i+1,true) (by first|rfl|simp[lQ]) (by first|rfl|simp[lQ]) rfl rfl ?_
   dsimp only
   refine⟨by omega,by omega,by omega,?_⟩
   simp[lQ]at h2 ⊢
   obtain⟨o,ho,h⟩:=h2
   exact⟨o,(e o).2 (.inl ho),h⟩
 ·simp[qo]
  rw[iH (by omega)]at h2
  refine eF.e ((0,0,[]):Int×Nat×List Pos) (fun y=>[(2,.ptr 0 0 0),(3,.ptr 1 0 0),(5,kH l),(6,.eu 2 y.2.1 5 0 y.2.2.length),(7,.b k6),(9,.i y.1)]) (fun y=>[.row 41 0 g.cells,.row 44 0 p.cells,.row 44 y.2.1 (cl Pos.cells y.2.2)]) (fun y=>0≤y.1∧y.1≤l.length∧(∀ q,q∈y.2.2↔∃ o∈l.take y.1.toNat,(k6=true→o.gO=true)∧o.p=q)∧y.2.2.length≤y.1.toNat) (fun y=>l.length-y.1.toNat) ?_ ?_
  ·simp
  rintro⟨j,gn,out⟩ ⟨j0,j1,j2,j3⟩
  dsimp only at j0 j1 j2 j3 ⊢
  by_cases l9:j<l.length
  ·have e:∀ o,o∈l.take (j+1).toNat↔o∈l.take j.toNat∨o=gt l j:=fun o=>by rw[gj j0 l9,List.mem_append,List.mem_singleton]
   simp[l9]
   cases k6<;>simp
   ·(with_reducible repeat' first|refine Xk ?_<;>try simp|refine Xs ?_ ?_<;>intro h<;>(try intro h')<;>(try simp[h])<;>(try omega)|refine Xg ?_|omega)
    refine LJ.e (j+1,gn+1,out ++ [(gt l j).p]) ?_
    dsimp only
    refine⟨by omega,by omega,by omega,fun q=>?_,by simp;omega⟩
    rw[List.mem_append,List.mem_singleton,j2]
    simp only[e]
    constructor
    ·rintro(⟨o,a,b⟩|a)
     ·exact⟨o,.inl a,b⟩
     ·exact⟨_,.inr rfl,(fun h=>by cases h),a.symm⟩
    ·rintro⟨o,a|a,b,d⟩
     ·exact .inl ⟨o,a,b,d⟩
     ·subst a;exact .inr d.symm
   ·(with_reducible repeat' first|refine Xk ?_<;>try simp|refine Xs ?_ ?_<;>intro h<;>(try intro h')<;>(try simp[h])<;>(try omega)|refine Xg ?_|omega)
    ·skip
     refine LJ.e (j+1,gn+1,out ++ [(gt l j).p]) ?_
     dsimp only
     refine⟨by omega,by omega,by omega,fun q=>?_,by simp;omega⟩
     rw[List.mem_append,List.mem_singleton,j2]
     simp only[e]
     constructor
     ·rintro(⟨o,a,b⟩|a)
      ·exact⟨o,.inl a,b⟩
      ·exact⟨_,.inr rfl,(fun _ => ‹_›),a.symm⟩
     ·rintro⟨o,a|a,b,d⟩
      ·exact .inl ⟨o,a,b,d⟩
      ·subst a;exact .inr d.symm
    ·refine LJ.e (j+1,gn,out) ?_
     dsimp only
     refine⟨by omega,by omega,by omega,fun q=>?_,by omega⟩
     rw[j2]
     simp only[e]
     constructor
     ·rintro⟨o,a,b⟩
      exact⟨o,.inl a,b⟩
     ·rintro⟨o,a|a,b,d⟩
      ·exact⟨o,a,b,d⟩
      ·subst a;have:=b trivial;simp_all
  ·simp[l9]
   rw[iH (by omega)]at j2
   have sT:∀ q∈out,Small q:=fun q hq=>by
    obtain⟨o,a,_,rfl⟩:=(j2 q).1 hq
    exact(Ed hg hp ((hl.1 o).1 a)).small hg
   cases k6<;>simp
   ·have hm:¬ (g.k6=true∧∃ o∈mf g p,o.gO=true):=by
     simp only[← hl.1]
     exact fun h=>by have:=h2.2 h;cases this
    refine Yq (f108 g hg p hp) fun dr K8=>?_
    simp
    (with_reducible repeat' first|refine Xk ?_<;>try simp|refine Xs ?_ ?_<;>intro h<;>(try intro h')<;>(try simp[h])<;>(try omega)|refine Xg ?_|omega)
    refine Yq (f61 (out++dr) (by simp;omega) (fun q hq=>(List.mem_append.1 hq).elim (sT q) (fun h=>Kl hg hp ((K8.2.2 q).1 h)))) fun r hr=>?_
    simp
    refine Kf fJ hr.1 fun q=>?_
    rw[hr.2.2,List.mem_append,K8.2.2,j2]
    unfold mE
    rw[if_neg hm]
    simp only[zd fJ,hl.1]
    simp
    exact fun _ c hc=>zd fJ c hc
   ·have hm:=h2.1 rfl
    refine Yq (f61 out (by omega) sT) fun r hr=>?_
    simp
    refine Kf fJ hr.1 fun q=>?_
    rw[hr.2.2,j2]
    unfold mE
    simp only[hl.1]at hm ⊢
    rw[if_pos hm]
    constructor
    ·rintro⟨o,a,b,rfl⟩
     have:=b trivial
     refine⟨zd fJ,?_⟩
     cases o;simp_all
    ·rintro⟨_,a⟩
     exact⟨_,a,fun _=>rfl,rfl⟩
theorem f112(g:ey)(hg:eW g)(p:Pos)(hp:fo g p):Wf T 112 [dG g,dP p] [] (Is (.agg [.i (stat g p).1,.b (stat g p).2])):=by
 refine Yg Ai ?_
 simp[Ai]
 refine Yc (f106 g hg p hp) ?_
 simp
 (with_reducible repeat' first|refine Xk ?_<;>try simp|refine Xs ?_ ?_<;>intro h<;>(try intro h')<;>(try simp[h])<;>(try omega)|refine Xg ?_|omega)
 ·have he:=CV.1 h
  have:=Ko he
  (with_reducible repeat' first|refine Xk ?_<;>try simp|refine Xs ?_ ?_<;>intro h<;>(try intro h')<;>(try simp[h])<;>(try omega)|refine Xg ?_|omega)
  simp[stat,he,HI he]
 ·have he:¬ ended g p:=fun h2=>h (CV.2 h2)
  refine Yc (f60 g hg p hp) ?_
  simp
  (with_reducible repeat' first|refine Xk ?_<;>try simp|refine Xs ?_ ?_<;>intro h<;>(try intro h')<;>(try simp[h])<;>(try omega)|refine Xg ?_|omega)
  all_goals simp[stat, *]
set_option maxRecDepth 10000
set_option maxHeartbeats 1000000
theorem f58(g:ey)(hg:eW g)(p:Pos)(hp:fo g p)(l:List Int)(hl:l.length≤100)(h0:∀ n∈l,0≤n∧n<256):Wf T 58 [dG g,dP p,dI l] [] (Ey fh fun r=>(0<r.length∧r.length≤101)∧∀ q∈r,fo g q):=by
 refine Yg BP ?_
 simp[BP]
 refine eF.e ((0,p,0,[p]):Int×Pos×Nat×List Pos) (fun y=>[(2,dI l),(3,.ptr 0 0 0),(4,.ptr 1 0 0),(7,.eu 2 y.2.2.1 5 0 y.2.2.2.length),(8,.i y.1)]) (fun y=>[.row 41 0 g.cells,.row 44 0 y.2.1.cells,.row 44 y.2.2.1 (cl Pos.cells y.2.2.2)]) (fun y=>0≤y.1∧y.1≤l.length∧fo g y.2.1∧(0<y.2.2.2.length∧y.2.2.2.length≤y.1.toNat+1)∧∀ q∈y.2.2.2,fo g q) (fun y=>l.length-y.1.toNat) ?_ ?_
 ·simp;exact hp
 rintro⟨i,p,gn,out⟩ ⟨i0,i1,hp,i2,i3⟩
 dsimp only at i0 i1 hp i2 i3 ⊢
 simp
 (with_reducible repeat' first|refine Xk ?_<;>try simp|refine Xs ?_ ?_<;>intro h<;>(try intro h')<;>(try simp[h])<;>(try omega)|refine Xg ?_|omega)
 ·refine Yc (f60 g hg p hp) ?_
  simp
  have hn:=h0 _ (eH i0 ‹_›)
  have we:0<(fX g p).length→0≤eO (gt l i) (fX g p).length∧eO (gt l i) (fX g p).length<(fX g p).length:=fun h=>by
   rw[jo hn.1]
   exact⟨bY _ (by omega),bS _ (by omega)⟩
  (with_reducible repeat' first|refine Xk ?_<;>try simp|refine Xs ?_ ?_<;>intro h<;>(try intro h')<;>(try simp[h])<;>(try omega)|refine Xg ?_|omega)
  ·exact Ey.i out rfl rfl ⟨by omega,by omega,i3⟩
  ·have hlen:0<(fX g p).length:=aB.2 ‹_›
   have:=we hlen
   omega
  ·have hlen:0<(fX g p).length:=aB.2 ‹_›
   have:=we hlen
   (with_reducible repeat' first|refine Xk ?_<;>try simp|refine Xs ?_ ?_<;>intro h<;>(try intro h')<;>(try simp[h])<;>(try omega)|refine Xg ?_|omega)
   have eB:=HH hg hp (s7.1 (eH (l:=fX g p) this.1 this.2))
   refine LJ.e (i+1,gt (fX g p) (eO (gt l i) (fX g p).length),gn+1,out ++ [gt (fX g p) (eO (gt l i) (fX g p).length)]) ?_
   dsimp only
   refine⟨by omega,by omega,by omega,eB,by simp;omega,fun q hq=>?_⟩
   rcases List.mem_append.1 hq with hq|hq
   ·exact i3 q hq
   ·rw[List.mem_singleton]at hq;subst hq;exact eB
 ·exact Ey.i out rfl rfl ⟨by omega,by omega,i3⟩
structure Cm(g:ey)(p:Pos)(all last:List Pos):Prop where
 rO:iI all
 ok:∀ q∈all,fo g q
 has:p∈all
 sub:∀ q∈last,q∈all
 cl:∀ q∈all,q ∉ last→∀ m,mE g q m→m∈all
 len:all.length≤80
 TN:last.length≤all.length
theorem Cm.step{g:ey}(hg:eW g){p:Pos}{all last next last' all':List Pos}(h:Cm g p all last)(hn:∀ m,m∈next↔∃ q∈last,mE g q m)(hl:∀ m,m∈last'↔m∈next∧m ∉ all)
  (ni:last'.Nodup) (hs:iI all') (ha:∀ q,q∈all'↔q∈all∨q∈last') (hlen:all'.length≤80):Cm g p all' last'∧(last'≠[]→all.length<all'.length)∧all.length≤all'.length:=by
 have h1:all.length+last'.length≤all'.length:=by
  rw[← az]
  refine D6 (cm.2 ⟨h.rO.nodup,ni,fun a ha b hb e=>?_⟩) fun x hx=>(ha x).2 (List.mem_append.1 hx)
  subst e;exact((hl a).1 hb).2 ha
 refine⟨⟨hs,fun q hq=>?_,(ha p).2 (.inl h.has),fun q hq=>(ha q).2 (.inr hq),fun q hq v7 m hm=>?_,hlen,by omega⟩,fun he=>?_,by omega⟩
 ·rcases(ha q).1 hq with hq|hq
  ·exact h.ok q hq
  ·obtain⟨r,hr,hm⟩:=(hn q).1 ((hl q).1 hq).1
   exact HH hg (h.ok r (h.sub r hr)) hm
 ·rcases(ha q).1 hq with hq|hq
  ·by_cases LN:q∈last
   ·by_cases Lr:m∈all
    ·exact(ha m).2 (.inl Lr)
    ·exact(ha m).2 (.inr ((hl m).2 ⟨(hn m).2 ⟨q,LN,hm⟩,Lr⟩))
   ·exact(ha m).2 (.inl (h.cl q hq LN m hm))
  ·exact absurd hq v7
 ·have:0<last'.length:=aB.2 he
  omega
structure z'(g:ey)(l:List Pos):Prop where
 rO:iI l
 ok:∀ q∈l,fo g q
 cl:∀ q∈l,∀ m,mE g q m→m∈l
 len:0<l.length∧l.length≤80
theorem f33(g:ey)(hg:eW g)(p:Pos)(hp:fo g p):Wf T 33 [dG g,dP p,.i 80] [] (Ey (fun x:Bool×List Pos=>.agg [if x.1 then fh x.2 else .U,.i (if x.1 then 0 else 2)]) (fun x=>x.1=true→z' g x.2)):=by
 have iz:=hp.small hg
 refine Yz w9 (iA 62 [6,7] (gu 34 [5] w9.body)) ?_
 simp[w9,gu,iA,kG,kI,kR,jE]
 refine eF.fz [3,4] rfl ?_
 refine eF.e (([p],[p]):List Pos×List Pos) (fun y=>[(2,.i 80),(3,.ptr 0 0 0),(6,.ptr 2 0 0),(7,fh y.1),(8,fh y.2)]) (fun y=>[.row 41 0 g.cells,.row 44 0 p.cells,.row 92 0 [.U,.i 0],.dead,.dead]) (fun y=>Cm g p y.1 y.2) (fun y=>(81-y.1.length)*2+(if y.2 = []then 0 else 1)) ?_ ?_
 ·refine⟨fun i h1 h2=>by simp at h2;omega,by simpa using hp,by simp,by simp,by simp,by simp,by simp⟩
 rintro⟨all,last⟩ hI
 have iP:=hI.len
 have il:=hI.TN
 dsimp only at hI iP il ⊢
 simp
 (with_reducible repeat' first|refine Xk ?_<;>try simp|refine Xs ?_ ?_<;>intro h<;>(try intro h')<;>(try simp[h])<;>(try omega)|refine Xg ?_|omega)
 ·refine eF.e ((0,0,[]):Int×Nat×List Pos) (fun y=>[(2,.i 80),(3,.ptr 0 0 0),(6,.ptr 2 0 0),(7,fh all),(8,fh last),(9,.eu 5 y.2.1 5 0 y.2.2.length),(10,.i y.1)]) (fun y=>[.row 41 0 g.cells,.row 44 0 p.cells,.row 92 0 [.U,.i 0],.dead,.dead,.row 44 y.2.1 (cl Pos.cells y.2.2)]) (fun y=>0≤y.1∧y.1≤last.length∧(∀ m,m∈y.2.2↔∃ q∈last.take y.1.toNat,mE g q m)∧y.2.2.length≤y.1.toNat*4000000000) (fun y=>last.length-y.1.toNat) ?_ ?_
  ·simp
  rintro⟨i,gn,nx⟩ ⟨i0,i1,i2,i3⟩
  dsimp only at i0 i1 i2 i3 ⊢
  simp
  (with_reducible repeat' first|refine Xk ?_<;>try simp|refine Xs ?_ ?_<;>intro h<;>(try intro h')<;>(try simp[h])<;>(try omega)|refine Xg ?_|omega)
  ·have hq:=hI.ok _ (hI.sub _ (eH i0 ‹_›))
   have GD:=s6 hg hq
   refine Yt (f60 g hg _ hq) ?_
   simp
   (with_reducible repeat' first|refine Xk ?_<;>try simp|refine Xs ?_ ?_<;>intro h<;>(try intro h')<;>(try simp[h])<;>(try omega)|refine Xg ?_|omega)
   refine LJ.e (i+1,gn+1,nx++fX g (gt last i)) ?_
   dsimp only
   refine⟨by omega,by omega,by omega,fun m=>?_,?_⟩
   ·rw[List.mem_append,i2,s7,gj i0 ‹_›]
    simp only[List.mem_append,List.mem_singleton]
    constructor
    ·rintro(⟨q,a,b⟩|a)
     ·exact⟨q,.inl a,b⟩
     ·exact⟨_,.inr rfl,a⟩
    ·rintro⟨q,a|rfl,b⟩
     ·exact .inl ⟨q,a,b⟩
     ·exact .inr b
   ·rw[az,show(i+1).toNat=i.toNat+1 by omega,bM]
    omega
  ·rw[iH (by omega)]at i2
   have Du:∀ q∈nx,fo g q:=fun q hq=>by
    obtain⟨r,hr,hm⟩:=(i2 q).1 hq
    exact HH hg (hI.ok r (hI.sub r hr)) hm
   refine Yc (Kx nx (by omega) (fun q hq=>(Du q hq).small hg)) ?_
   simp
   have LW:=EJ nx
   have np:=iI.nodup (u0 nx)
   have Sl:∀ q,q∈iv nx↔∃ r∈last,mE g r q:=fun q=>by rw[pR,i2]
   have Lz:∀ q∈iv nx,Small q:=fun q hq=>(Du q (pR.1 hq)).small hg
   generalize hN:iv nx=N at *
   refine eF.e ((0,0,[]):Int×Nat×List Pos) (fun y=>[(2,.i 80),(3,.ptr 0 0 0),(6,.ptr 2 0 0),(7,fh all),(8,.eu 6 y.2.1 5 0 y.2.2.length),(9,fh N),(11,.i y.1)]) (fun y=>[.row 41 0 g.cells,.row 44 0 p.cells,.row 92 0 [.U,.i 0],.dead,.dead,.dead,.row 44 y.2.1 (cl Pos.cells y.2.2)]) (fun y=>0≤y.1∧y.1≤N.length∧(∀ m,m∈y.2.2↔m∈N.take y.1.toNat∧m ∉ all)∧y.2.2.Nodup∧y.2.2.length≤y.1.toNat) (fun y=>N.length-y.1.toNat) ?_ ?_
   ·simp
   rintro⟨j,gm,l'⟩ ⟨j0,j1,j2,j3,j4⟩
   dsimp only at j0 j1 j2 j3 j4 ⊢
   simp
   (with_reducible repeat' first|refine Xk ?_<;>try simp|refine Xs ?_ ?_<;>intro h<;>(try intro h')<;>(try simp[h])<;>(try omega)|refine Xg ?_|omega)
   ·refine Yc (f27 all (gt N j) (by omega) (fun q hq=>(hI.ok q hq).small hg) (Lz _ (eH j0 ‹_›)) hI.rO) ?_
    simp
    have hf:jB all (gt N j)<0↔gt N j ∉ all:=by
     by_cases hm:gt N j∈all
     ·have:=vF hm
      simp[hm];omega
     ·rw[KE hm];simp[hm]
    (with_reducible repeat' first|refine Xk ?_<;>try simp|refine Xs ?_ ?_<;>intro h<;>(try intro h')<;>(try simp[h])<;>(try omega)|refine Xg ?_|omega)
    ·refine LJ.e (j+1,gm+1,l' ++ [gt N j]) ?_
     dsimp only
     have oi:gt N j ∉ l':=fun hm=>by
      have:=(j2 _).1 hm
      obtain⟨k,hk,e⟩:=dE.1 this.1
      refine bj.1 np k j.toNat (by omega) (by omega) (by omega) ?_
      rw[e,lP j0 ‹_›]
     refine⟨by omega,by omega,by omega,fun m=>?_,cm.2 ⟨j3,by simp,fun a ha b hb e=>?_⟩,by simp;omega⟩
     ·rw[List.mem_append,j2,gj j0 ‹_›,List.mem_append,List.mem_singleton]
      constructor
      ·rintro(⟨a,b⟩|rfl)
       ·exact⟨.inl a,b⟩
       ·exact⟨.inr rfl,hf.1 h⟩
      ·rintro⟨a|a,b⟩
       ·exact .inl ⟨a,b⟩
       ·exact .inr a
     ·rw[List.mem_singleton]at hb;subst hb;subst e;exact oi ha
    ·refine LJ.e (j+1,gm,l') ?_
     dsimp only
     refine⟨by omega,by omega,by omega,fun m=>?_,j3,by omega⟩
     rw[j2,gj j0 ‹_›,List.mem_append,List.mem_singleton]
     constructor
     ·rintro⟨a,b⟩
      exact⟨.inl a,b⟩
     ·rintro⟨a|rfl,b⟩
      ·exact⟨a,b⟩
      ·exact absurd (hf.2 b) h
   ·rw[iH (by omega)]at j2
    refine Yc (Kx (all++l') (by simp;omega) (fun q hq=>(List.mem_append.1 hq).elim (fun h=>(hI.ok q h).small hg) fun h=>Lz q ((j2 q).1 h).1)) ?_
    simp
    have eJ:=hI.step hg (next:=N) (last':=l') (all':=iv (all++l')) Sl j2 j3 (u0 _) (fun q=>by rw[pR,List.mem_append])
    (with_reducible repeat' first|refine Xk ?_<;>try simp|refine Xs ?_ ?_<;>intro h<;>(try intro h')<;>(try simp[h])<;>(try omega)|refine Xg ?_|omega)
    ·exact Ey.i (false,[]) (by simp) rfl (fun h=>by cases h)
    ·obtain⟨h1,h2,h3⟩:=eJ (by omega)
     refine LJ.e (iv (all++l'),l') ?_
     dsimp only
     refine⟨?_,h1⟩
     have uo:last≠[]:=fun e=>by subst e;simp at *
     rw[if_neg uo]
     by_cases e:l' = []
     ·rw[if_pos e];omega
     ·have:=h2 e
      rw[if_neg e];have:=h1.len;omega
 ·refine Ey.i (true,all) (by simp) rfl fun _=>⟨hI.rO,hI.ok,fun q hq=>hI.cl q hq ?_,?_⟩
  ·have:last = []:=aA.1 (by omega)
   rw[this];simp
  ·have:=dQ hI.has
   exact⟨this,iP⟩
end Go.Proofs.YtnaefnajkaohgaaGreatDoor
namespace Go.AL
open Go
def Nd(S:List Nat):fY→Bool
 | .call f _ | .callN f _=>elem f S
 | .callv _ _=>false
 | .nextM _=>false
 | _=>true
def lN(S:List Nat):List eX→Bool
 | []=>true
 | e::r=>Nd S e.op&&lN S r
def mP(S:List Nat):IR→Bool
 | .ops l=>lN S l
 | .eN _ l=>lN S l
 | .jN _ l es=>lN S l&&lN S es
 | .seq a b=>mP S a&&mP S b
 | .cond _ a b=>mP S a&&mP S b
 | .block _ _ a=>mP S a
 | .loop _ a=>mP S a
 | .jY _ _ _=>false
 | _=>true
def mQ(S:List Nat):tj→Bool
 | .ops l _=>lN S l
 | .code c _=>mP S c
 | .loop _ _ a _=>mP S a
 | .call f _ _=>elem f S
 | .trace l _=>lN S l
def One(T:fH)(j:tj)(R:lJ→Prop):Prop:=match j with
 | .ops _ _ | .code _ _ | .loop _ _ _ _=>∃ o,R (.out o)∧Ev T j (fun r=>r = .out o)
 | .call _ _ _=>∃ d H,R (.val d H)∧Ev T j (fun r=>r = .val d H)
 | .trace _ _=>∃ rs s,R (.tr rs s)∧Ev T j (fun r=>r = .tr rs s)
theorem One.mono{T:fH}{j:tj}{R R':lJ→Prop}(h:One T j R)(hi:∀ r,R r→R' r):One T j R':=by
 cases j with
 | call f a H=>obtain⟨d,H',h1,h2⟩:=h;exact⟨d,H',hi _ h1,h2⟩
 | trace l s=>obtain⟨d,H',h1,h2⟩:=h;exact⟨d,H',hi _ h1,h2⟩
 | _=>obtain⟨o,h1,h2⟩:=h;exact⟨o,hi _ h1,h2⟩
theorem Nf{S:List Nat}{env:fg}{op:fY}{f:FuncId}{args:List D}(h:Nd S op=true)(hc:iw env op=some (f,args)):elem f S=true:=by
 cases op<;>first|(cases hc;exact h)|(cases h;done)|(cases hc;done)
section
variable{T:fH}{S:List Nat}(hS:∀ f fn,elem f S=true→T.fn f=some fn→mP S fn.body=true)(hN:∀ f,elem f S=true→T.sort f=none∧T.oL f=false)
include hS hN
theorem YT{j:tj}{R:lJ→Prop}(h:Ev T j R):mQ S j=true→One T j R:=by
 induction h with
 | mono h hi ih=>exact fun hj=>(ih hj).mono hi
 | sort fc l cf hs=>intro hj;rw[(hN _ hj).1]at hs;cases hs
 | wN hs=>intro hj;rw[(hN _ hj).1]at hs;cases hs
 | oL l hs=>intro hj;rw[(hN _ hj).2]at hs;cases hs
 | nil h=>exact fun _=>⟨_,h,.nil rfl⟩
 | op hg h t ih=>
  intro hj
  simp only[mQ,lN,ah]at hj
  obtain⟨o,h1,h2⟩:=ih hj.2
  exact⟨o,h1,.op hg h h2⟩
 | uZ hg h t ih=>
  intro hj
  simp only[mQ,lN,ah]at hj
  obtain⟨o,h1,h2⟩:=ih hj.2
  exact⟨o,h1,.uZ hg h h2⟩
 | off hg t ih=>
  intro hj
  simp only[mQ,lN,ah]at hj
  obtain⟨o,h1,h2⟩:=ih hj.2
  exact⟨o,h1,.off hg h2⟩
 | jk S' hm t ih=>intro hj;obtain⟨o,h1,h2⟩:=ih hj;exact⟨o,h1,.jk S' hm h2⟩
 | xX S' hm t ih=>intro hj;obtain⟨o,h1,h2⟩:=ih hj;exact⟨o,h1,.xX S' hm h2⟩
 | FT live t ih=>intro hj;obtain⟨o,h1,h2⟩:=ih hj;exact⟨o,h1,.FT live h2⟩
 | C7 live t ih=>intro hj;obtain⟨o,h1,h2⟩:=ih hj;exact⟨o,h1,.C7 live h2⟩
 | xD hg hc hf hp h ha t ih pI=>
  intro hj
  simp only[mQ,lN,ah]at hj
  obtain⟨d,Hn,h1,h2⟩:=ih (Nf hj.1 hc)
  obtain⟨s',fq⟩:=cK.1 (ha d Hn h1)
  obtain⟨o,h3,h4⟩:=pI d Hn s' h1 fq hj.2
  exact⟨o,h3,.xD hg hc hf hp h2 (fun d' Ci e=>by cases e;exact ha _ _ h1) fun d' Ci s2 e kK=>by
   cases e;rw[fq]at kK;cases kK;exact h4⟩
 | xC hg hc hf hp h t ih pI=>
  intro hj
  simp only[mQ,lN,ah]at hj
  obtain⟨d,Hn,h1,h2⟩:=ih (Nf hj.1 hc)
  obtain⟨o,h3,h4⟩:=pI d Hn h1 hj.2
  exact⟨o,h3,.xC hg hc hf hp h2 fun d' Ci e=>by cases e;exact h4⟩
 | @Cu e r s v args rf env0 Rd Ra Rb R hg hc=>
  intro hj
  simp only[mQ,lN,ah]at hj
  exfalso
  have h1:=hj.1
  revert hc h1
  cases e.op<;>intro hc h1<;>first|(cases hc;done)|(cases h1;done)
 | next hg fL=>
  intro hj
  simp only[mQ,lN,ah]at hj
  have h1:=hj.1
  rw[fL]at h1;cases h1
 | zT h=>exact fun _=>⟨_,_,h,.zT rfl⟩
 | zV hg h t k ih=>
  intro hj
  simp only[mQ,lN,ah]at hj
  obtain⟨rs,s',h1,h2⟩:=ih hj.2
  exact⟨_,s',k rs s' h1,.zV hg h h2 fun uU s2 e=>by cases e;rfl⟩
 | zU hg t k ih=>
  intro hj
  simp only[mQ,lN,ah]at hj
  obtain⟨rs,s',h1,h2⟩:=ih hj.2
  exact⟨_,s',k rs s' h1,.zU hg h2 fun uU s2 e=>by cases e;rfl⟩
 | zP hg hc hf hp h h0 hr t k ih pI=>
  intro hj
  simp only[mQ,lN,ah]at hj
  obtain⟨rs,s',h1,h2⟩:=pI hj.2
  exact⟨_,s',k rs s' h1,.zP hg hc hf hp h h0 hr h2 fun uU s2 e=>by cases e;rfl⟩
 | zQ hg fL ha hf hp h h0 hr t k ih pI=>
  intro hj
  simp only[mQ,lN,ah]at hj
  obtain⟨rs,s',h1,h2⟩:=pI hj.2
  exact⟨_,s',k rs s' h1,.zQ hg fL ha hf hp h h0 hr h2 fun uU s2 e=>by cases e;rfl⟩
 | zS hg fL ha hf hp QX hv fy fj h h0 hr t k ih pI=>
  intro hj
  simp only[mQ,lN,ah]at hj
  obtain⟨rs,s',h1,h2⟩:=pI hj.2
  exact⟨_,s',k rs s' h1,.zS hg fL ha hf hp QX hv fy fj h h0 hr h2 fun uU s2 e=>by cases e;rfl⟩
 | eN t hp ih=>
  intro hj
  obtain⟨rs,s',h1,h2⟩:=ih hj
  exact⟨_,(hp rs s' h1).2,.eN h2 fun uU s2 e=>by cases e;exact⟨(hp rs s' h1).1,rfl⟩⟩
 | jN t hp k ih rE=>
  intro hj
  simp only[mQ,mP,ah]at hj
  obtain⟨rs,s',h1,h2⟩:=ih hj.1
  obtain⟨o,h3,h4⟩:=rE rs s' h1 hj.2
  exact⟨o,h3,.jN h2 (fun uU s2 e=>by cases e;exact hp _ _ h1) fun uU s2 e=>by cases e;exact h4⟩
 | skip h=>exact fun _=>⟨_,h,.skip rfl⟩
 | xM h ih=>intro hj;obtain⟨o,h1,h2⟩:=ih hj;exact⟨o,h1,.xM h2⟩
 | seq h k hs ih rE=>
  intro hj
  simp only[mQ,mP,ah]at hj
  obtain⟨o,h1,h2⟩:=ih hj.1
  cases o with
  | norm s'=>
   obtain⟨o,h3,h4⟩:=rE s' h1 hj.2
   exact⟨o,h3,.seq h2 (fun s2 e=>by cases e;exact h4) fun o e hs=>by cases e;cases hs⟩
  | exit id s'=>exact⟨_,hs _ h1 rfl,.seq h2 (fun s2 e=>by cases e) fun o e hs=>by cases e;rfl⟩
  | ret s'=>exact⟨_,hs _ h1 rfl,.seq h2 (fun s2 e=>by cases e) fun o e hs=>by cases e;rfl⟩
 | @cond c a b s x R hc h ih=>
  intro hj
  simp only[mQ,mP,ah]at hj
  obtain⟨o,h1,h2⟩:=ih (by cases x;exact hj.2;exact hj.1)
  exact⟨o,h1,.cond hc h2⟩
 | block h k ih=>
  intro hj
  obtain⟨o,h1,h2⟩:=ih hj
  exact⟨_,k o h1,.block h2 fun o e=>by cases e;rfl⟩
 | loop h ih=>intro hj;obtain⟨o,h1,h2⟩:=ih hj;exact⟨o,h1,.loop h2⟩
 | sY h k hs ih rE=>
  intro hj
  obtain⟨o,h1,h2⟩:=ih hj
  cases o with
  | norm s'=>
   obtain⟨o,h3,h4⟩:=rE s' h1 hj
   exact⟨o,h3,.sY h2 (fun s2 e=>by cases e;exact h4) fun o e hs=>by cases e;cases hs⟩
  | exit id s'=>exact⟨_,hs _ h1 rfl,.sY h2 (fun s2 e=>by cases e) fun o e hs=>by cases e;rfl⟩
  | ret s'=>exact⟨_,hs _ h1 rfl,.sY h2 (fun s2 e=>by cases e) fun o e hs=>by cases e;rfl⟩
 | jY=>intro hj;cases hj
 | exit h=>exact fun _=>⟨_,h,.exit rfl⟩
 | ret h=>exact fun _=>⟨_,h,.ret rfl⟩
 | call own hf hl h k ih=>
  intro hj
  obtain⟨o,h1,h2⟩:=ih (hS _ _ hj hf)
  obtain⟨d,H',h3,h4⟩:=k o h1
  exact⟨d,H',h4,.call own hf hl h2 fun o' e=>by cases e;exact⟨d,H',h3,rfl⟩⟩
end
end Go.AL
namespace Go.AL
open Go
def Cy(S:List Nat):Nat→List (Option eA)→Bool
 | _,[]=>true
 | k,a::l=>(bif elem k S then(match a with|some fn=>mP S fn.body|none=>true)else true)&&Cy S (k+1) l
theorem JQ{S:List Nat}{fn:eA}:∀ {l:List (Option eA)} {k i:Nat},Cy S k l=true→nth l i=some fn→elem (k+i) S=true→mP S fn.body=true
 | [],_,_,_,h,_=>by cases h
 | a::l,k,0,h,h2,h3=>by
  simp only[Cy,ah]at h
  cases h2
  rw[cc]at h3
  simpa only[h3,cond_true]using h.1
 | a::l,k,i+1,h,h2,h3=>by
  simp only[Cy,ah]at h
  exact JQ (l:=l) (k:=k+1) (i:=i) h.2 h2 (by rw[bf,di 1 i];exact h3)
theorem Wf.one{T:fH}{S:List Nat}(hS:∀ f fn,elem f S=true→T.fn f=some fn→mP S fn.body=true)(hN:∀ f,elem f S=true→T.sort f=none∧T.oL f=false){f:FuncId}{args:List D}{H:et}{K:D→et→Prop}(h:Wf T f args H K)(hf:elem f S=true) :
  ∃ d H',K d H'∧Wf T f args H fun d2 H2=>d2=d∧H2=H':=by
 obtain⟨d,H',⟨d2,H2,e,h1⟩,h2⟩:=YT hS hN h hf
 cases e
 exact⟨d,H',h1,Ev.mono h2 fun r e=>⟨_,_,e,rfl,rfl⟩⟩
end Go.AL
namespace Go.Proofs.YtnaefnajkaohgaaGreatDoor
open Go Go.AL
def wF:List Nat:=[12,13,14,17,22,24,25,27,32,33,34,35,36,37,38,39,50,51,57,58,59,60,61,62,63,64,65,66,67,68,69,93,94,95,104,105,106,107,108,109,110,111,112,149,150,151,152,153,154,155,156,192,193,194,195,227,228,229,250,251,252,253,254,255,263]
theorem Zc:∀ f fn,elem f wF=true→T.fn f=some fn→mP wF fn.body=true:=fun f fn h h2=>
 JQ (S:=wF) (l:=fns) (k:=0) (i:=f) (by kernel_rfl) h2 (by rw[aX];exact h)
theorem Zd:∀ f,elem f wF=true→T.sort f=none∧T.oL f=false:=fun f h=>by
 by_cases h1:f=87
 ·subst h1;exact absurd h (by decide)
 by_cases h2:f=123
 ·subst h2;exact absurd h (by decide)
 by_cases h3:f=160
 ·subst h3;exact absurd h (by decide)
 refine⟨?_,?_⟩
 ·show(if f=87 then some 5 else if f=123 then some 6 else none)=none
  rw[if_neg h1,if_neg h2]
 ·show Nat.beq f 160=false
  cases hb:Nat.beq f 160 with
  | false=>rfl
  | true=>exact absurd (cA hb) h3
section
variable{f:FuncId}{args:List D}{dst:Option Nat}{s:St}{fn:eA}{R:List Fp}{Q:Rc→St→Prop}
theorem gq.q{α:Type}{g:α→D}{P:α→Prop}(hf:T.fn f=some fn)(hp:fn.full=false)(h1:elem f wF=true)(h:Wf T f args [] (Ex g P))(hc:eV args=true)(hx:∀ r,closed (g r)=true)
  (k:∀ r,P r→Q ⟨R,[]⟩ { s with env:=put s.env dst (g r) }):gq T f args R dst s Q .mk:=by
 obtain⟨d,H',⟨r,rfl,rfl,hr⟩,h2⟩:=Wf.one Zc Zd h h1
 exact gq.c hf hp h2 hc (hx r) (k r hr)
end
theorem Yv{f:FuncId}{args:List D}{R:List Fp}{dst:Option Nat}{s:St}{Q:Rc→St→Prop}{fn:eA}{α:Type}{g:α→D}{P:α→Prop}(h:Wf T f args [] (Ex g P))(k:∀ r,P r→Q ⟨R,[]⟩ { s with env:=put s.env dst (g r) })
  (hf:T.fn f=some fn:=by exact rfl) (hp:fn.full=false:=by exact rfl) (h1:elem f wF=true:=by exact rfl) (hc:eV args=true:=by simp) (hx:∀ r,closed (g r)=true:=by intro;simp):gq T f args R dst s Q .mk:=gq.q hf hp h1 h hc hx k
end Go.Proofs.YtnaefnajkaohgaaGreatDoor
namespace Go.AL
open Go
abbrev Kn:=Int×Int×Bool
@[irreducible] def fK(x:Kn):List D:=[.i x.1,.i x.2.1,.b x.2.2]
@[simp] theorem vD(x:Kn):fK x = [.i x.1,.i x.2.1,.b x.2.2]:=by unfold fK;rfl
instance:Fl fK 3:=⟨fun _=>by simp,fun _=>by simp[eV]⟩
@[simp] theorem ad4(l:List Kn)(a b:Int)(c:Bool):cl fK l ++ [.i a,.i b,.b c]=cl fK (l ++ [(a,b,c)]):=by rw[← nc,vD]
@[simp] theorem ad1(l:List Bool)(c:Bool):cl fB l ++ [.b c]=cl fB (l ++ [c]):=by rw[← nc,KA]
theorem J0{α:Type}[Inhabited α]{f:α→List D}{sz:Nat}[F:Fl f sz]{l:List α}{n:Int}{j:Nat}(hj:j<sz){P:D→Prop}:oA (cl f l)[n.toNat*sz+j]? P .mk=(n.toNat<l.length∧oA (f (gt l n))[j]? P .mk):=by
 rw[JZ (f:=f) l n.toNat j hj]
 by_cases hn:n.toNat<l.length
 ·rw[List.getElem?_eq_getElem hn]
  have e:gt l n=l[n.toNat]:=by unfold gt;rw[List.getD_eq_getElem?_getD,List.getElem?_eq_getElem hn];rfl
  simp[hn,e]
 ·rw[aK (by omega)];simp[hn]
@[simp] theorem ahf{l:List Kn}{n:Int}{P:D→Prop}:oA (cl fK l)[n.toNat*3+2]? P .mk=(n.toNat<l.length∧P (.b (gt l n).2.2)):=by
 have:=J0 (f:=fK) (l:=l) (n:=n) (j:=2) (by decide) (P:=P)
 simpa using this
@[simp] theorem ahe{l:List Bool}{n:Int}{P:D→Prop}:oA (cl fB l)[n.toNat]? P .mk=(n.toNat<l.length∧P (.b (gt l n))):=by
 have:=J0 (f:=fB) (l:=l) (n:=n) (j:=0) (by decide) (P:=P)
 simpa using this
theorem JV{l:List Kn}{n:Int}(h:n.toNat<l.length):(cl fK l).drop (n.toNat*3)=fK (gt l n)++cl fK (l.drop (n.toNat+1)):=by
 rw[sk,bU h,nb]
 congr 1
 unfold gt;rw[List.getD_eq_getElem?_getD,List.getElem?_eq_getElem h];rfl
theorem O4{l:List Kn}{n:Int}(h:n.toNat<l.length)(a b:Int):(cl fK l).take (n.toNat*3) ++ .i a :: .i b::(cl fK l).drop (n.toNat*3+2)=cl fK (pt l n (a,b,(gt l n).2.2)):=by
 have e:(cl fK l).drop (n.toNat*3+2) = .b (gt l n).2.2::cl fK (l.drop (n.toNat+1)):=by
  rw[← cS,JV h,vD];rfl
 rw[e,sn]
 unfold pt
 rw[← CD,nb,vD]
 rfl
@[simp] theorem agm{l:List Kn}{t:TypeId}{n:Int}:qB 2 (n.toNat*3) (some (t,cl fK l))=if n.toNat<l.length then some (.agg [.i (gt l n).1,.i (gt l n).2.1])else none:=by
 unfold qB
 dsimp only
 by_cases h:n.toNat<l.length
 ·rw[if_pos h,if_pos (by rw[tD];omega),JV h,vD];rfl
 ·rw[if_neg h,if_neg (by rw[tD];omega)]
theorem CE{α:Type}{f:α→List D}{sz:Nat}[F:Fl f sz](l:List α)(n:Int)(h1:n.toNat<l.length)(a:α):(cl f l).take (n.toNat*sz)++(f a++(cl f l).drop (n.toNat*sz+sz))=cl f (pt l n a):=by
 have:=O8 (f:=f) l n.toNat a h1
 rw[bg]at this
 exact this
theorem zy{α:Type}{f:α→List D}(a:α):∀ n:Nat,(List.replicate n (f a)).flatten=cl f (List.replicate n a)
 | 0=>by simp
 | n+1=>by rw[bB,aL,zy a n,bB,nb]
@[simp] theorem Zf(b:Bool)(n:Nat):(List.replicate n [D.b b]).flatten=cl fB (List.replicate n b):=by rw[← zy,KA]
@[simp] theorem Zg(b:Int)(n:Nat):(List.replicate n [D.i b]).flatten=cl f1 (List.replicate n b):=by rw[← zy,sA]
@[simp] theorem aiG(a b:Int)(n:Nat):(List.replicate n [D.i a,D.i b]).flatten=cl fS (List.replicate n (a,b)):=by rw[← zy,FN]
@[simp] theorem aiE(b:Bool)(n:Nat):List.replicate n (D.b b)=cl fB (List.replicate n b):=by rw[← Zf];simp
@[simp] theorem aiF(b:Int)(n:Nat):List.replicate n (D.i b)=cl f1 (List.replicate n b):=by rw[← Zg];simp
def oR(l:List Bool):Nat:=l.countP fun b => !b
theorem Nn{α:Type}[Inhabited α]{l:List α}{n:Int}{a b:α}(h0:0≤n)(h:n<l.length):pt (pt l n a) n b=pt l n b:=by
 rw[zj (l:=pt l n a) h0 (by rw[ga h0 h];exact h),zj h0 h,zj h0 h,List.set_set]
theorem Qg{l:List Bool}{n:Int}(h0:0≤n)(h:n<l.length)(hf:gt l n=false)(b:Bool):oR (pt l n b)+(if b then 1 else 0)=oR l:=by
 have e:l=l.take n.toNat++gt l n::l.drop (n.toNat+1):=by
  rw[← kP h0 h,bK]
 unfold pt
 conv=>rhs;rw[e]
 unfold oR
 rw[cd,cd,b8,b8,hf]
 cases b<;>simp<;>omega
