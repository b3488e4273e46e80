/- Part 14 of the proof of skewer.skewerlaw15.TableValues. -/
import Derived.Test.YtnaefnajkaohgaaGreatDoorE13
import Derived.Test.YtnaefnajkaohgaaGreatDoorE06
import Derived.Test.YtnaefnajkaohgaaGreatDoorE07
import Derived.Test.YtnaefnajkaohgaaGreatDoorE12
set_option linter.all false
namespace Go.Proofs.YtnaefnajkaohgaaGreatDoor
open Go Go.AL Classical
set_option maxRecDepth 10000
set_option maxHeartbeats 1000000
theorem MT{g:eU}{p:Pos}(h:¬ ended g p){r:List Pos}(hs:jn r)(hm:∀ q,q∈r↔nG g p q):gb r=qV g p:=by
 unfold qV;rw[if_neg h,Kp hs hm]
theorem f60(g:eU)(hg:fr g)(p:Pos)(hp:fR g p):Wf T 60 [dG g,dP p] [] (Is (qV g p)):=by
 refine Yz zh (gY 66 [2] zh.body) ?_
 simp[zh,gY,jc,lW,lX,me,ky]
 refine Yc (f106 g hg p hp) ?_
 simp
 (with_reducible repeat' first|refine Xk ?_<;>try simp|refine Xs ?_ ?_<;>intro h<;>(try intro h')<;>(try simp[h])<;>(try omega)|refine Xg ?_|omega)
 ·unfold qV;rw[if_pos (M5.1 ‹_›)]
 have gd:¬ ended g p:=fun h2=>h (M5.2 h2)
 refine Yq (f107 g hg p hp) fun l hl=>?_
 simp
 have hJ:=hl.2
 refine fe.e ((0,false):Int×Bool) (fun y=>[(2,.ptr 0 0 0),(3,.ptr 1 0 0),(5,lN l),(6,.eT 2 0 5 0 0),(7,.b y.2),(8,.i y.1)]) (fun y=>[.row 41 0 g.cells,.row 44 0 p.cells,.row 44 0 []]) (fun y=>0≤y.1∧y.1≤l.length∧(y.2=true↔g.lq=true∧∃ o∈l.take y.1.toNat,o.iu=true)) (fun y=>l.length-y.1.toNat) ?_ ?_
 ·simp
 rintro⟨i,lq⟩ ⟨h0,h1,h2⟩
 dsimp only at h0 h1 h2 ⊢
 by_cases qe:i<l.length
 ·have e:∀ o,o∈l.take (i+1).toNat↔o∈l.take i.toNat∨o=gt l i:=fun o=>by rw[gE h0 qe,List.mem_append,List.mem_singleton]
  cases mX:g.lq<;>cases lq<;>simp[mX,qe]
  ·(with_reducible repeat' first|refine Xk ?_<;>try simp|refine Xs ?_ ?_<;>intro h<;>(try intro h')<;>(try simp[h])<;>(try omega)|refine Xg ?_|omega)
   refine LJ.i (i+1,false) (by first|rfl|simp[mX]) (by first|rfl|simp[mX]) rfl rfl ?_
   dsimp only
   exact⟨by omega,by omega,by omega,by simp[mX]⟩
  ·simp[mX]at h2
  ·(with_reducible repeat' first|refine Xk ?_<;>try simp|refine Xs ?_ ?_<;>intro h<;>(try intro h')<;>(try simp[h])<;>(try omega)|refine Xg ?_|omega)
   refine LJ.i (i+1,(gt l i).iu) (by first|rfl|simp[mX]) (by first|rfl|simp[mX]) rfl rfl ?_
   dsimp only
   refine⟨by omega,by omega,by omega,?_⟩
   simp[mX]at h2 ⊢
   constructor
   ·intro h;exact⟨_,(e _).2 (.inr rfl),h⟩
   ·rintro⟨o,ho,h⟩
    rcases(e o).1 ho with ho|ho
    ·exact absurd h (by simpa using h2 o ho)
    ·rw[← ho];exact h
  ·(with_reducible repeat' first|refine Xk ?_<;>try simp|refine Xs ?_ ?_<;>intro h<;>(try intro h')<;>(try simp[h])<;>(try omega)|refine Xg ?_|omega)
   refine LJ.i (i+1,true) (by first|rfl|simp[mX]) (by first|rfl|simp[mX]) rfl rfl ?_
   dsimp only
   refine⟨by omega,by omega,by omega,?_⟩
   simp[mX]at h2 ⊢
   obtain⟨o,ho,h⟩:=h2
   exact⟨o,(e o).2 (.inl ho),h⟩
 ·simp[qe]
  rw[js (by omega)]at h2
  refine fe.e ((0,0,[]):Int×Nat×List Pos) (fun y=>[(2,.ptr 0 0 0),(3,.ptr 1 0 0),(5,lN l),(6,.eT 2 y.2.1 5 0 y.2.2.length),(7,.b lq),(9,.i y.1)]) (fun y=>[.row 41 0 g.cells,.row 44 0 p.cells,.row 44 y.2.1 (cl Pos.cells y.2.2)]) (fun y=>0≤y.1∧y.1≤l.length∧(∀ q,q∈y.2.2↔∃ o∈l.take y.1.toNat,(lq=true→o.iu=true)∧o.p=q)∧y.2.2.length≤y.1.toNat) (fun y=>l.length-y.1.toNat) ?_ ?_
  ·simp
  rintro⟨j,gn,out⟩ ⟨j0,j1,j2,j3⟩
  dsimp only at j0 j1 j2 j3 ⊢
  by_cases mF:j<l.length
  ·have e:∀ o,o∈l.take (j+1).toNat↔o∈l.take j.toNat∨o=gt l j:=fun o=>by rw[gE j0 mF,List.mem_append,List.mem_singleton]
   simp[mF]
   cases lq<;>simp
   ·(with_reducible repeat' first|refine Xk ?_<;>try simp|refine Xs ?_ ?_<;>intro h<;>(try intro h')<;>(try simp[h])<;>(try omega)|refine Xg ?_|omega)
    refine LJ.e (j+1,gn+1,out ++ [(gt l j).p]) ?_
    dsimp only
    refine⟨by omega,by omega,by omega,fun q=>?_,by simp;omega⟩
    rw[List.mem_append,List.mem_singleton,j2]
    simp only[e]
    constructor
    ·rintro(⟨o,a,b⟩|a)
     ·exact⟨o,.inl a,b⟩
     ·exact⟨_,.inr rfl,(fun h=>by cases h),a.symm⟩
    ·rintro⟨o,a|a,b,d⟩
     ·exact .inl ⟨o,a,b,d⟩
     ·subst a;exact .inr d.symm
   ·(with_reducible repeat' first|refine Xk ?_<;>try simp|refine Xs ?_ ?_<;>intro h<;>(try intro h')<;>(try simp[h])<;>(try omega)|refine Xg ?_|omega)
    ·skip
     refine LJ.e (j+1,gn+1,out ++ [(gt l j).p]) ?_
     dsimp only
     refine⟨by omega,by omega,by omega,fun q=>?_,by simp;omega⟩
     rw[List.mem_append,List.mem_singleton,j2]
     simp only[e]
     constructor
     ·rintro(⟨o,a,b⟩|a)
      ·exact⟨o,.inl a,b⟩
      ·exact⟨_,.inr rfl,(fun _ => ‹_›),a.symm⟩
     ·rintro⟨o,a|a,b,d⟩
      ·exact .inl ⟨o,a,b,d⟩
      ·subst a;exact .inr d.symm
    ·refine LJ.e (j+1,gn,out) ?_
     dsimp only
     refine⟨by omega,by omega,by omega,fun q=>?_,by omega⟩
     rw[j2]
     simp only[e]
     constructor
     ·rintro⟨o,a,b⟩
      exact⟨o,.inl a,b⟩
     ·rintro⟨o,a|a,b,d⟩
      ·exact⟨o,a,b,d⟩
      ·subst a;have:=b trivial;simp_all
  ·simp[mF]
   rw[js (by omega)]at j2
   have uz:∀ q∈out,Small q:=fun q hq=>by
    obtain⟨o,a,_,rfl⟩:=(j2 q).1 hq
    exact(GL hg hp ((hl.1 o).1 a)).small hg
   cases lq<;>simp
   ·have hm:¬ (g.lq=true∧∃ o∈nc g p,o.iu=true):=by
     simp only[← hl.1]
     exact fun h=>by have:=h2.2 h;cases this
    refine Yq (f108 g hg p hp) fun dr N4=>?_
    simp
    (with_reducible repeat' first|refine Xk ?_<;>try simp|refine Xs ?_ ?_<;>intro h<;>(try intro h')<;>(try simp[h])<;>(try omega)|refine Xg ?_|omega)
    refine Yq (f61 (out++dr) (by simp;omega) (fun q hq=>(List.mem_append.1 hq).elim (uz q) (fun h=>M0 hg hp ((N4.2.2 q).1 h)))) fun r hr=>?_
    simp
    refine MT gd hr.1 fun q=>?_
    rw[hr.2.2,List.mem_append,N4.2.2,j2]
    unfold nG
    rw[if_neg hm]
    simp only[Bn gd,hl.1]
    simp
    exact fun _ c hc=>Bn gd c hc
   ·have hm:=h2.1 rfl
    refine Yq (f61 out (by omega) uz) fun r hr=>?_
    simp
    refine MT gd hr.1 fun q=>?_
    rw[hr.2.2,j2]
    unfold nG
    simp only[hl.1]at hm ⊢
    rw[if_pos hm]
    constructor
    ·rintro⟨o,a,b,rfl⟩
     have:=b trivial
     refine⟨Bn gd,?_⟩
     cases o;simp_all
    ·rintro⟨_,a⟩
     exact⟨_,a,fun _=>rfl,rfl⟩
set_option maxRecDepth 10000
set_option maxHeartbeats 1000000
theorem f58(g:eU)(hg:fr g)(p:Pos)(hp:fR g p)(l:List Int)(hl:l.length≤100)(h0:∀ n∈l,0≤n∧n<256):Wf T 58 [dG g,dP p,dI l] [] (Ey gb fun r=>(0<r.length∧r.length≤101)∧∀ q∈r,fR g q):=by
 refine Yg DW ?_
 simp[DW]
 refine fe.e ((0,p,0,[p]):Int×Pos×Nat×List Pos) (fun y=>[(2,dI l),(3,.ptr 0 0 0),(4,.ptr 1 0 0),(7,.eT 2 y.2.2.1 5 0 y.2.2.2.length),(8,.i y.1)]) (fun y=>[.row 41 0 g.cells,.row 44 0 y.2.1.cells,.row 44 y.2.2.1 (cl Pos.cells y.2.2.2)]) (fun y=>0≤y.1∧y.1≤l.length∧fR g y.2.1∧(0<y.2.2.2.length∧y.2.2.2.length≤y.1.toNat+1)∧∀ q∈y.2.2.2,fR g q) (fun y=>l.length-y.1.toNat) ?_ ?_
 ·simp;exact hp
 rintro⟨i,p,gn,out⟩ ⟨i0,i1,hp,i2,i3⟩
 dsimp only at i0 i1 hp i2 i3 ⊢
 simp
 (with_reducible repeat' first|refine Xk ?_<;>try simp|refine Xs ?_ ?_<;>intro h<;>(try intro h')<;>(try simp[h])<;>(try omega)|refine Xg ?_|omega)
 ·refine Yc (f60 g hg p hp) ?_
  simp
  have hn:=h0 _ (ff i0 ‹_›)
  have x9:0<(gU g p).length→0≤fi (gt l i) (gU g p).length∧fi (gt l i) (gU g p).length<(gU g p).length:=fun h=>by
   rw[jV hn.1]
   exact⟨cz _ (by omega),cg _ (by omega)⟩
  (with_reducible repeat' first|refine Xk ?_<;>try simp|refine Xs ?_ ?_<;>intro h<;>(try intro h')<;>(try simp[h])<;>(try omega)|refine Xg ?_|omega)
  ·exact Ey.i out rfl rfl ⟨by omega,by omega,i3⟩
  ·have hlen:0<(gU g p).length:=az.2 ‹_›
   have:=x9 hlen
   omega
  ·have hlen:0<(gU g p).length:=az.2 ‹_›
   have:=x9 hlen
   (with_reducible repeat' first|refine Xk ?_<;>try simp|refine Xs ?_ ?_<;>intro h<;>(try intro h')<;>(try simp[h])<;>(try omega)|refine Xg ?_|omega)
   have eX:=Km hg hp (wD.1 (ff (l:=gU g p) this.1 this.2))
   refine LJ.e (i+1,gt (gU g p) (fi (gt l i) (gU g p).length),gn+1,out ++ [gt (gU g p) (fi (gt l i) (gU g p).length)]) ?_
   dsimp only
   refine⟨by omega,by omega,by omega,eX,by simp;omega,fun q hq=>?_⟩
   rcases List.mem_append.1 hq with hq|hq
   ·exact i3 q hq
   ·rw[List.mem_singleton]at hq;subst hq;exact eX
 ·exact Ey.i out rfl rfl ⟨by omega,by omega,i3⟩
structure Eo(g:eU)(p:Pos)(all last:List Pos):Prop where
 tu:jn all
 ok:∀ q∈all,fR g q
 has:p∈all
 sub:∀ q∈last,q∈all
 cl:∀ q∈all,q ∉ last→∀ m,nG g q m→m∈all
 len:all.length≤80
 XP:last.length≤all.length
theorem Eo.step{g:eU}(hg:fr g){p:Pos}{all last next last' all':List Pos}(h:Eo g p all last)(hn:∀ m,m∈next↔∃ q∈last,nG g q m)(hl:∀ m,m∈last'↔m∈next∧m ∉ all)
  (lE:last'.Nodup) (hs:jn all') (ha:∀ q,q∈all'↔q∈all∨q∈last') (hlen:all'.length≤80):Eo g p all' last'∧(last'≠[]→all.length<all'.length)∧all.length≤all'.length:=by
 have h1:all.length+last'.length≤all'.length:=by
  rw[← ax]
  refine qn (aP.2 ⟨h.tu.nodup,lE,fun a ha b hb e=>?_⟩) fun x hx=>(ha x).2 (List.mem_append.1 hx)
  subst e;exact((hl a).1 hb).2 ha
 refine⟨⟨hs,fun q hq=>?_,(ha p).2 (.inl h.has),fun q hq=>(ha q).2 (.inr hq),fun q hq x7 m hm=>?_,hlen,by omega⟩,fun he=>?_,by omega⟩
 ·rcases(ha q).1 hq with hq|hq
  ·exact h.ok q hq
  ·obtain⟨r,hr,hm⟩:=(hn q).1 ((hl q).1 hq).1
   exact Km hg (h.ok r (h.sub r hr)) hm
 ·rcases(ha q).1 hq with hq|hq
  ·by_cases FR:q∈last
   ·by_cases Oq:m∈all
    ·exact(ha m).2 (.inl Oq)
    ·exact(ha m).2 (.inr ((hl m).2 ⟨(hn m).2 ⟨q,FR,hm⟩,Oq⟩))
   ·exact(ha m).2 (.inl (h.cl q hq FR m hm))
  ·exact absurd hq x7
 ·have:0<last'.length:=az.2 he
  omega
structure Cc(g:eU)(l:List Pos):Prop where
 tu:jn l
 ok:∀ q∈l,fR g q
 cl:∀ q∈l,∀ m,nG g q m→m∈l
 len:0<l.length∧l.length≤80
theorem f33(g:eU)(hg:fr g)(p:Pos)(hp:fR g p):Wf T 33 [dG g,dP p,.i 80] [] (Ey (fun x:Bool×List Pos=>.agg [if x.1 then gb x.2 else .emp,.i (if x.1 then 0 else 2)]) (fun x=>x.1=true→Cc g x.2)):=by
 have jy:=hp.small hg
 refine Yz ze (jc 62 [6,7] (gY 34 [5] ze.body)) ?_
 simp[ze,gY,jc,lW,lX,me,ky]
 refine fe.fz [3,4] rfl ?_
 refine fe.e (([p],[p]):List Pos×List Pos) (fun y=>[(2,.i 80),(3,.ptr 0 0 0),(6,.ptr 2 0 0),(7,gb y.1),(8,gb y.2)]) (fun y=>[.row 41 0 g.cells,.row 44 0 p.cells,.row 92 0 [.emp,.i 0],.dead,.dead]) (fun y=>Eo g p y.1 y.2) (fun y=>(81-y.1.length)*2+(if y.2 = []then 0 else 1)) ?_ ?_
 ·refine⟨fun i h1 h2=>by simp at h2;omega,by simpa using hp,by simp,by simp,by simp,by simp,by simp⟩
 rintro⟨all,last⟩ hI
 have gW:=hI.len
 have hJ:=hI.XP
 dsimp only at hI gW hJ ⊢
 simp
 (with_reducible repeat' first|refine Xk ?_<;>try simp|refine Xs ?_ ?_<;>intro h<;>(try intro h')<;>(try simp[h])<;>(try omega)|refine Xg ?_|omega)
 ·refine fe.e ((0,0,[]):Int×Nat×List Pos) (fun y=>[(2,.i 80),(3,.ptr 0 0 0),(6,.ptr 2 0 0),(7,gb all),(8,gb last),(9,.eT 5 y.2.1 5 0 y.2.2.length),(10,.i y.1)]) (fun y=>[.row 41 0 g.cells,.row 44 0 p.cells,.row 92 0 [.emp,.i 0],.dead,.dead,.row 44 y.2.1 (cl Pos.cells y.2.2)]) (fun y=>0≤y.1∧y.1≤last.length∧(∀ m,m∈y.2.2↔∃ q∈last.take y.1.toNat,nG g q m)∧y.2.2.length≤y.1.toNat*4000000000) (fun y=>last.length-y.1.toNat) ?_ ?_
  ·simp
  rintro⟨i,gn,nx⟩ ⟨i0,i1,i2,i3⟩
  dsimp only at i0 i1 i2 i3 ⊢
  simp
  (with_reducible repeat' first|refine Xk ?_<;>try simp|refine Xs ?_ ?_<;>intro h<;>(try intro h')<;>(try simp[h])<;>(try omega)|refine Xg ?_|omega)
  ·have hq:=hI.ok _ (hI.sub _ (ff i0 ‹_›))
   have VG:=Bj hg hq
   refine Yt (f60 g hg _ hq) ?_
   simp
   (with_reducible repeat' first|refine Xk ?_<;>try simp|refine Xs ?_ ?_<;>intro h<;>(try intro h')<;>(try simp[h])<;>(try omega)|refine Xg ?_|omega)
   refine LJ.e (i+1,gn+1,nx++gU g (gt last i)) ?_
   dsimp only
   refine⟨by omega,by omega,by omega,fun m=>?_,?_⟩
   ·rw[List.mem_append,i2,wD,gE i0 ‹_›]
    simp only[List.mem_append,List.mem_singleton]
    constructor
    ·rintro(⟨q,a,b⟩|a)
     ·exact⟨q,.inl a,b⟩
     ·exact⟨_,.inr rfl,a⟩
    ·rintro⟨q,a|rfl,b⟩
     ·exact .inl ⟨q,a,b⟩
     ·exact .inr b
   ·rw[ax,show(i+1).toNat=i.toNat+1 by omega,bU]
    omega
  ·rw[js (by omega)]at i2
   have FN:∀ q∈nx,fR g q:=fun q hq=>by
    obtain⟨r,hr,hm⟩:=(i2 q).1 hq
    exact Km hg (hI.ok r (hI.sub r hr)) hm
   refine Yc (Ni nx (by omega) (fun q hq=>(FN q hq).small hg)) ?_
   simp
   have OI:=Hf nx
   have qk:=jn.nodup (wV nx)
   have V8:∀ q,q∈iV nx↔∃ r∈last,nG g r q:=fun q=>by rw[q7,i2]
   have Ow:∀ q∈iV nx,Small q:=fun q hq=>(FN q (q7.1 hq)).small hg
   generalize hN:iV nx=N at *
   refine fe.e ((0,0,[]):Int×Nat×List Pos) (fun y=>[(2,.i 80),(3,.ptr 0 0 0),(6,.ptr 2 0 0),(7,gb all),(8,.eT 6 y.2.1 5 0 y.2.2.length),(9,gb N),(11,.i y.1)]) (fun y=>[.row 41 0 g.cells,.row 44 0 p.cells,.row 92 0 [.emp,.i 0],.dead,.dead,.dead,.row 44 y.2.1 (cl Pos.cells y.2.2)]) (fun y=>0≤y.1∧y.1≤N.length∧(∀ m,m∈y.2.2↔m∈N.take y.1.toNat∧m ∉ all)∧y.2.2.Nodup∧y.2.2.length≤y.1.toNat) (fun y=>N.length-y.1.toNat) ?_ ?_
   ·simp
   rintro⟨j,gm,l'⟩ ⟨j0,j1,j2,j3,j4⟩
   dsimp only at j0 j1 j2 j3 j4 ⊢
   simp
   (with_reducible repeat' first|refine Xk ?_<;>try simp|refine Xs ?_ ?_<;>intro h<;>(try intro h')<;>(try simp[h])<;>(try omega)|refine Xg ?_|omega)
   ·refine Yc (f27 all (gt N j) (by omega) (fun q hq=>(hI.ok q hq).small hg) (Ow _ (ff j0 ‹_›)) hI.tu) ?_
    simp
    have hf:oc all (gt N j)<0↔gt N j ∉ all:=by
     by_cases hm:gt N j∈all
     ·have:=z' hm
      simp[hm];omega
     ·rw[Nu hm];simp[hm]
    (with_reducible repeat' first|refine Xk ?_<;>try simp|refine Xs ?_ ?_<;>intro h<;>(try intro h')<;>(try simp[h])<;>(try omega)|refine Xg ?_|omega)
    ·refine LJ.e (j+1,gm+1,l' ++ [gt N j]) ?_
     dsimp only
     have sX:gt N j ∉ l':=fun hm=>by
      have:=(j2 _).1 hm
      obtain⟨k,hk,e⟩:=de.1 this.1
      refine bz.1 qk k j.toNat (by omega) (by omega) (by omega) ?_
      rw[e,nu j0 ‹_›]
     refine⟨by omega,by omega,by omega,fun m=>?_,aP.2 ⟨j3,by simp,fun a ha b hb e=>?_⟩,by simp;omega⟩
     ·rw[List.mem_append,j2,gE j0 ‹_›,List.mem_append,List.mem_singleton]
      constructor
      ·rintro(⟨a,b⟩|rfl)
       ·exact⟨.inl a,b⟩
       ·exact⟨.inr rfl,hf.1 h⟩
      ·rintro⟨a|a,b⟩
       ·exact .inl ⟨a,b⟩
       ·exact .inr a
     ·rw[List.mem_singleton]at hb;subst hb;subst e;exact sX ha
    ·refine LJ.e (j+1,gm,l') ?_
     dsimp only
     refine⟨by omega,by omega,by omega,fun m=>?_,j3,by omega⟩
     rw[j2,gE j0 ‹_›,List.mem_append,List.mem_singleton]
     constructor
     ·rintro⟨a,b⟩
      exact⟨.inl a,b⟩
     ·rintro⟨a|rfl,b⟩
      ·exact⟨a,b⟩
      ·exact absurd (hf.2 b) h
   ·rw[js (by omega)]at j2
    refine Yc (Ni (all++l') (by simp;omega) (fun q hq=>(List.mem_append.1 hq).elim (fun h=>(hI.ok q h).small hg) fun h=>Ow q ((j2 q).1 h).1)) ?_
    simp
    have fg:=hI.step hg (next:=N) (last':=l') (all':=iV (all++l')) V8 j2 j3 (wV _) (fun q=>by rw[q7,List.mem_append])
    (with_reducible repeat' first|refine Xk ?_<;>try simp|refine Xs ?_ ?_<;>intro h<;>(try intro h')<;>(try simp[h])<;>(try omega)|refine Xg ?_|omega)
    ·exact Ey.i (false,[]) (by simp) rfl (fun h=>by cases h)
    ·obtain⟨h1,h2,h3⟩:=fg (by omega)
     refine LJ.e (iV (all++l'),l') ?_
     dsimp only
     refine⟨?_,h1⟩
     have v7:last≠[]:=fun e=>by subst e;simp at *
     rw[if_neg v7]
     by_cases e:l' = []
     ·rw[if_pos e];omega
     ·have:=h2 e
      rw[if_neg e];have:=h1.len;omega
 ·refine Ey.i (true,all) (by simp) rfl fun _=>⟨hI.tu,hI.ok,fun q hq=>hI.cl q hq ?_,?_⟩
  ·have:last = []:=aC.1 (by omega)
   rw[this];simp
  ·have:=cG hI.has
   exact⟨this,gW⟩
end Go.Proofs.YtnaefnajkaohgaaGreatDoor
namespace Go.AL
open Go
def Qd(S:List Nat):gC→Bool
 | .call f _ | .callN f _=>elem f S
 | .callv _ _=>false
 | .nextM _=>false
 | _=>true
def mV(S:List Nat):List fC→Bool
 | []=>true
 | e::r=>Qd S e.op&&mV S r
def oo(S:List Nat):IR→Bool
 | .ops l=>mV S l
 | .draw _ l=>mV S l
 | .kF _ l es=>mV S l&&mV S es
 | .seq a b=>oo S a&&oo S b
 | .cond _ a b=>oo S a&&oo S b
 | .block _ _ a=>oo S a
 | .loop _ a=>oo S a
 | .kX _ _ _=>false
 | _=>true
def oq(S:List Nat):uZ→Bool
 | .ops l _=>mV S l
 | .code c _=>oo S c
 | .loop _ _ a _=>oo S a
 | .call f _ _=>elem f S
 | .trace l _=>mV S l
def One(T:gj)(j:uZ)(R:mS→Prop):Prop:=match j with
 | .ops _ _ | .code _ _ | .loop _ _ _ _=>∃ o,R (.out o)∧Ev T j (fun r=>r = .out o)
 | .call _ _ _=>∃ d H,R (.val d H)∧Ev T j (fun r=>r = .val d H)
 | .trace _ _=>∃ rs s,R (.tr rs s)∧Ev T j (fun r=>r = .tr rs s)
theorem One.mono{T:gj}{j:uZ}{R R':mS→Prop}(h:One T j R)(hi:∀ r,R r→R' r):One T j R':=by
 cases j with
 | call f a H=>obtain⟨d,H',h1,h2⟩:=h;exact⟨d,H',hi _ h1,h2⟩
 | trace l s=>obtain⟨d,H',h1,h2⟩:=h;exact⟨d,H',hi _ h1,h2⟩
 | _=>obtain⟨o,h1,h2⟩:=h;exact⟨o,hi _ h1,h2⟩
theorem Qe{S:List Nat}{env:fO}{op:gC}{f:FuncId}{args:List D}(h:Qd S op=true)(hc:iW env op=some (f,args)):elem f S=true:=by
 cases op<;>first|(cases hc;exact h)|(cases h;done)|(cases hc;done)
section
variable{T:gj}{S:List Nat}(hS:∀ f fn,elem f S=true→T.fn f=some fn→oo S fn.body=true)(hN:∀ f,elem f S=true→T.sort f=none∧T.po f=false)
include hS hN
theorem acM{j:uZ}{R:mS→Prop}(h:Ev T j R):oq S j=true→One T j R:=by
 induction h with
 | mono h hi ih=>exact fun hj=>(ih hj).mono hi
 | sort fc l cf hs=>intro hj;rw[(hN _ hj).1]at hs;cases hs
 | yN hs=>intro hj;rw[(hN _ hj).1]at hs;cases hs
 | po l hs=>intro hj;rw[(hN _ hj).2]at hs;cases hs
 | nil h=>exact fun _=>⟨_,h,.nil rfl⟩
 | op hg h t ih=>
  intro hj
  simp only[oq,mV,ah]at hj
  obtain⟨o,h1,h2⟩:=ih hj.2
  exact⟨o,h1,.op hg h h2⟩
 | wU hg h t ih=>
  intro hj
  simp only[oq,mV,ah]at hj
  obtain⟨o,h1,h2⟩:=ih hj.2
  exact⟨o,h1,.wU hg h h2⟩
 | off hg t ih=>
  intro hj
  simp only[oq,mV,ah]at hj
  obtain⟨o,h1,h2⟩:=ih hj.2
  exact⟨o,h1,.off hg h2⟩
 | jx S' hm t ih=>intro hj;obtain⟨o,h1,h2⟩:=ih hj;exact⟨o,h1,.jx S' hm h2⟩
 | Ab S' hm t ih=>intro hj;obtain⟨o,h1,h2⟩:=ih hj;exact⟨o,h1,.Ab S' hm h2⟩
 | IA live t ih=>intro hj;obtain⟨o,h1,h2⟩:=ih hj;exact⟨o,h1,.IA live h2⟩
 | Aa live t ih=>intro hj;obtain⟨o,h1,h2⟩:=ih hj;exact⟨o,h1,.Aa live h2⟩
 | zG hg hc hf hp h ha t ih qS=>
  intro hj
  simp only[oq,mV,ah]at hj
  obtain⟨d,Hn,h1,h2⟩:=ih (Qe hj.1 hc)
  obtain⟨s',fW⟩:=dg.1 (ha d Hn h1)
  obtain⟨o,h3,h4⟩:=qS d Hn s' h1 fW hj.2
  exact⟨o,h3,.zG hg hc hf hp h2 (fun d' Ei e=>by cases e;exact ha _ _ h1) fun d' Ei s2 e lQ=>by
   cases e;rw[fW]at lQ;cases lQ;exact h4⟩
 | zF hg hc hf hp h t ih qS=>
  intro hj
  simp only[oq,mV,ah]at hj
  obtain⟨d,Hn,h1,h2⟩:=ih (Qe hj.1 hc)
  obtain⟨o,h3,h4⟩:=qS d Hn h1 hj.2
  exact⟨o,h3,.zF hg hc hf hp h2 fun d' Ei e=>by cases e;exact h4⟩
 | @EA e r s v args rf env0 Rd Ra Rb R hg hc=>
  intro hj
  simp only[oq,mV,ah]at hj
  exfalso
  have h1:=hj.1
  revert hc h1
  cases e.op<;>intro hc h1<;>first|(cases hc;done)|(cases h1;done)
 | next hg gv=>
  intro hj
  simp only[oq,mV,ah]at hj
  have h1:=hj.1
  rw[gv]at h1;cases h1
 | BZ h=>exact fun _=>⟨_,_,h,.BZ rfl⟩
 | B1 hg h t k ih=>
  intro hj
  simp only[oq,mV,ah]at hj
  obtain⟨rs,s',h1,h2⟩:=ih hj.2
  exact⟨_,s',k rs s' h1,.B1 hg h h2 fun wP s2 e=>by cases e;rfl⟩
 | B0 hg t k ih=>
  intro hj
  simp only[oq,mV,ah]at hj
  obtain⟨rs,s',h1,h2⟩:=ih hj.2
  exact⟨_,s',k rs s' h1,.B0 hg h2 fun wP s2 e=>by cases e;rfl⟩
 | BW hg hc hf hp h h0 hr t k ih qS=>
  intro hj
  simp only[oq,mV,ah]at hj
  obtain⟨rs,s',h1,h2⟩:=qS hj.2
  exact⟨_,s',k rs s' h1,.BW hg hc hf hp h h0 hr h2 fun wP s2 e=>by cases e;rfl⟩
 | BX hg gv ha hf hp h h0 hr t k ih qS=>
  intro hj
  simp only[oq,mV,ah]at hj
  obtain⟨rs,s',h1,h2⟩:=qS hj.2
  exact⟨_,s',k rs s' h1,.BX hg gv ha hf hp h h0 hr h2 fun wP s2 e=>by cases e;rfl⟩
 | BY hg gv ha hf hp UG hv gf fQ h h0 hr t k ih qS=>
  intro hj
  simp only[oq,mV,ah]at hj
  obtain⟨rs,s',h1,h2⟩:=qS hj.2
  exact⟨_,s',k rs s' h1,.BY hg gv ha hf hp UG hv gf fQ h h0 hr h2 fun wP s2 e=>by cases e;rfl⟩
 | draw t hp ih=>
  intro hj
  obtain⟨rs,s',h1,h2⟩:=ih hj
  exact⟨_,(hp rs s' h1).2,.draw h2 fun wP s2 e=>by cases e;exact⟨(hp rs s' h1).1,rfl⟩⟩
 | kF t hp k ih tb=>
  intro hj
  simp only[oq,oo,ah]at hj
  obtain⟨rs,s',h1,h2⟩:=ih hj.1
  obtain⟨o,h3,h4⟩:=tb rs s' h1 hj.2
  exact⟨o,h3,.kF h2 (fun wP s2 e=>by cases e;exact hp _ _ h1) fun wP s2 e=>by cases e;exact h4⟩
 | skip h=>exact fun _=>⟨_,h,.skip rfl⟩
 | zS h ih=>intro hj;obtain⟨o,h1,h2⟩:=ih hj;exact⟨o,h1,.zS h2⟩
 | seq h k hs ih tb=>
  intro hj
  simp only[oq,oo,ah]at hj
  obtain⟨o,h1,h2⟩:=ih hj.1
  cases o with
  | norm s'=>
   obtain⟨o,h3,h4⟩:=tb s' h1 hj.2
   exact⟨o,h3,.seq h2 (fun s2 e=>by cases e;exact h4) fun o e hs=>by cases e;cases hs⟩
  | exit id s'=>exact⟨_,hs _ h1 rfl,.seq h2 (fun s2 e=>by cases e) fun o e hs=>by cases e;rfl⟩
  | ret s'=>exact⟨_,hs _ h1 rfl,.seq h2 (fun s2 e=>by cases e) fun o e hs=>by cases e;rfl⟩
 | @cond c a b s x R hc h ih=>
  intro hj
  simp only[oq,oo,ah]at hj
  obtain⟨o,h1,h2⟩:=ih (by cases x;exact hj.2;exact hj.1)
  exact⟨o,h1,.cond hc h2⟩
 | block h k ih=>
  intro hj
  obtain⟨o,h1,h2⟩:=ih hj
  exact⟨_,k o h1,.block h2 fun o e=>by cases e;rfl⟩
 | loop h ih=>intro hj;obtain⟨o,h1,h2⟩:=ih hj;exact⟨o,h1,.loop h2⟩
 | uH h k hs ih tb=>
  intro hj
  obtain⟨o,h1,h2⟩:=ih hj
  cases o with
  | norm s'=>
   obtain⟨o,h3,h4⟩:=tb s' h1 hj
   exact⟨o,h3,.uH h2 (fun s2 e=>by cases e;exact h4) fun o e hs=>by cases e;cases hs⟩
  | exit id s'=>exact⟨_,hs _ h1 rfl,.uH h2 (fun s2 e=>by cases e) fun o e hs=>by cases e;rfl⟩
  | ret s'=>exact⟨_,hs _ h1 rfl,.uH h2 (fun s2 e=>by cases e) fun o e hs=>by cases e;rfl⟩
 | kX=>intro hj;cases hj
 | exit h=>exact fun _=>⟨_,h,.exit rfl⟩
 | ret h=>exact fun _=>⟨_,h,.ret rfl⟩
 | call own hf hl h k ih=>
  intro hj
  obtain⟨o,h1,h2⟩:=ih (hS _ _ hj hf)
  obtain⟨d,H',h3,h4⟩:=k o h1
  exact⟨d,H',h4,.call own hf hl h2 fun o' e=>by cases e;exact⟨d,H',h3,rfl⟩⟩
end
end Go.AL
namespace Go.AL
open Go
def EE(S:List Nat):Nat→List (Option eW)→Bool
 | _,[]=>true
 | k,a::l=>(bif elem k S then(match a with|some fn=>oo S fn.body|none=>true)else true)&&EE S (k+1) l
theorem Mu{S:List Nat}{fn:eW}:∀ {l:List (Option eW)} {k i:Nat},EE S k l=true→nth l i=some fn→elem (k+i) S=true→oo S fn.body=true
 | [],_,_,_,h,_=>by cases h
 | a::l,k,0,h,h2,h3=>by
  simp only[EE,ah]at h
  cases h2
  rw[bS]at h3
  simpa only[h3,cond_true]using h.1
 | a::l,k,i+1,h,h2,h3=>by
  simp only[EE,ah]at h
  exact Mu (l:=l) (k:=k+1) (i:=i) h.2 h2 (by rw[bj,cQ 1 i];exact h3)
theorem Wf.one{T:gj}{S:List Nat}(hS:∀ f fn,elem f S=true→T.fn f=some fn→oo S fn.body=true)(hN:∀ f,elem f S=true→T.sort f=none∧T.po f=false){f:FuncId}{args:List D}{H:U}{K:D→U→Prop}(h:Wf T f args H K)(hf:elem f S=true) :
  ∃ d H',K d H'∧Wf T f args H fun d2 H2=>d2=d∧H2=H':=by
 obtain⟨d,H',⟨d2,H2,e,h1⟩,h2⟩:=acM hS hN h hf
 cases e
 exact⟨d,H',h1,Ev.mono h2 fun r e=>⟨_,_,e,rfl,rfl⟩⟩
end Go.AL
namespace Go.Proofs.YtnaefnajkaohgaaGreatDoor
open Go Go.AL
def yE:List Nat:=[12,13,14,17,22,24,25,27,32,33,34,35,36,37,38,39,50,51,57,58,59,60,61,62,63,64,65,66,67,68,69,93,94,95,104,105,106,107,108,109,110,111,112,149,150,151,152,153,154,155,156,192,193,194,195,227,228,229,250,251,252,253,254,255,263]
theorem ac7:∀ f fn,elem f yE=true→T.fn f=some fn→oo yE fn.body=true:=fun f fn h h2=>
 Mu (S:=yE) (l:=fns) (k:=0) (i:=f) (by kernel_rfl) h2 (by rw[aY];exact h)
theorem ac8:∀ f,elem f yE=true→T.sort f=none∧T.po f=false:=fun f h=>by
 by_cases h1:f=87
 ·subst h1;exact absurd h (by decide)
 by_cases h2:f=123
 ·subst h2;exact absurd h (by decide)
 by_cases h3:f=160
 ·subst h3;exact absurd h (by decide)
 refine⟨?_,?_⟩
 ·show(if f=87 then some 5 else if f=123 then some 6 else none)=none
  rw[if_neg h1,if_neg h2]
 ·show Nat.beq f 160=false
  cases hb:Nat.beq f 160 with
  | false=>rfl
  | true=>exact absurd (cZ hb) h3
section
variable{f:FuncId}{args:List D}{dst:Option Nat}{s:St}{fn:eW}{R:List Fp}{Q:Rc→St→Prop}
theorem gZ.q{α:Type}{g:α→D}{P:α→Prop}(hf:T.fn f=some fn)(hp:fn.full=false)(h1:elem f yE=true)(h:Wf T f args [] (Ex g P))(hc:fy args=true)(hx:∀ r,closed (g r)=true)
  (k:∀ r,P r→Q ⟨R,[]⟩ { s with env:=put s.env dst (g r) }):gZ T f args R dst s Q .mk:=by
 obtain⟨d,H',⟨r,rfl,rfl,hr⟩,h2⟩:=Wf.one ac7 ac8 h h1
 exact gZ.c hf hp h2 hc (hx r) (k r hr)
end
theorem Yv{f:FuncId}{args:List D}{R:List Fp}{dst:Option Nat}{s:St}{Q:Rc→St→Prop}{fn:eW}{α:Type}{g:α→D}{P:α→Prop}(h:Wf T f args [] (Ex g P))(k:∀ r,P r→Q ⟨R,[]⟩ { s with env:=put s.env dst (g r) })
  (hf:T.fn f=some fn:=by exact rfl) (hp:fn.full=false:=by exact rfl) (h1:elem f yE=true:=by exact rfl) (hc:fy args=true:=by simp) (hx:∀ r,closed (g r)=true:=by intro;simp):gZ T f args R dst s Q .mk:=gZ.q hf hp h1 h hc hx k
end Go.Proofs.YtnaefnajkaohgaaGreatDoor
namespace Go.AL
open Go
abbrev Kn:=Int×Int×Bool
@[irreducible] def fK(x:Kn):List D:=[.i x.1,.i x.2.1,.b x.2.2]
@[simp] theorem ai0(x:Kn):fK x = [.i x.1,.i x.2.1,.b x.2.2]:=by unfold fK;rfl
instance:Fl fK 3:=⟨fun _=>by simp,fun _=>by simp[fy]⟩
@[simp] theorem ah3(l:List Bool)(c:Bool):cl fB l ++ [.b c]=cl fB (l ++ [c]):=by rw[← oZ,Nk]
theorem Sr{α:Type}[Inhabited α]{f:α→List D}{sz:Nat}[F:Fl f sz]{l:List α}{n:Int}{j:Nat}(hj:j<sz){P:D→Prop}:oA (cl f l)[n.toNat*sz+j]? P .mk=(n.toNat<l.length∧oA (f (gt l n))[j]? P .mk):=by
 rw[MC (f:=f) l n.toNat j hj]
 by_cases hn:n.toNat<l.length
 ·rw[List.getElem?_eq_getElem hn]
  have e:gt l n=l[n.toNat]:=by unfold gt;rw[List.getD_eq_getElem?_getD,List.getElem?_eq_getElem hn];rfl
  simp[hn,e]
 ·rw[aI (by omega)];simp[hn]
@[simp] theorem alh{l:List Bool}{n:Int}{P:D→Prop}:oA (cl fB l)[n.toNat]? P .mk=(n.toNat<l.length∧P (.b (gt l n))):=by
 have:=Sr (f:=fB) (l:=l) (n:=n) (j:=0) (by decide) (P:=P)
 simpa using this
theorem MD{α:Type}{f:α→List D}{sz:Nat}[F:Fl f sz](l:List α)(n:Int)(h1:n.toNat<l.length)(a:α):(cl f l).take (n.toNat*sz)++(f a++(cl f l).drop (n.toNat*sz+sz))=cl f (pt l n a):=by
 have:=Sv (f:=f) l n.toNat a h1
 rw[bt]at this
 exact this
theorem BE{α:Type}{f:α→List D}(a:α):∀ n:Nat,(List.replicate n (f a)).flatten=cl f (List.replicate n a)
 | 0=>by simp
 | n+1=>by rw[bL,aN,BE a n,bL,ni]
@[simp] theorem adb(b:Bool)(n:Nat):(List.replicate n [D.b b]).flatten=cl fB (List.replicate n b):=by rw[← BE,Nk]
@[simp] theorem ade(b:Int)(n:Nat):(List.replicate n [D.i b]).flatten=cl f1 (List.replicate n b):=by rw[← BE,rC]
@[simp] theorem amJ(a b:Int)(n:Nat):(List.replicate n [D.i a,D.i b]).flatten=cl fS (List.replicate n (a,b)):=by rw[← BE,tY]
@[simp] theorem amH(b:Bool)(n:Nat):List.replicate n (D.b b)=cl fB (List.replicate n b):=by rw[← adb];simp
@[simp] theorem amI(b:Int)(n:Nat):List.replicate n (D.i b)=cl f1 (List.replicate n b):=by rw[← ade];simp
end Go.AL
namespace Go.Proofs.YtnaefnajkaohgaaGreatDoor
open Go Go.AL Classical
set_option maxRecDepth 10000
set_option maxHeartbeats 1000000
structure mQ(g:eU)(l:List Pos):Prop where
 tu:jn l
 ok:∀ q∈l,fR g q
 cl:∀ q∈l,∀ m,nG g q m→m∈l
 len:l.length≤4000
theorem Cc.c2{g:eU}{l:List Pos}(h:Cc g l):mQ g l:=⟨h.tu,h.ok,h.cl,by have:=h.len;omega⟩
noncomputable def fE(g:eU)(l:List Pos):List (List Int):=l.map fun p=>(gU g p).map (oc l)
set_option maxRecDepth 10000
set_option maxHeartbeats 1000000
theorem r8{g:eU}{l:List Pos}(hl:mQ g l){i:Int}(h0:0≤i)(h1:i<l.length):gt (fE g l) i=(gU g (gt l i)).map (oc l)∧∀ k∈gt (fE g l) i,0≤k∧k<l.length:=by
 have e:gt (fE g l) i=(gU g (gt l i)).map (oc l):=by
  unfold fE gt
  simp only[List.getD_eq_getElem?_getD,au]
  rw[List.getElem?_eq_getElem (by omega)]
  rfl
 refine⟨e,fun k hk=>?_⟩
 rw[e]at hk
 obtain⟨q,hq,rfl⟩:=ao.1 hk
 have:=z' (hl.cl _ (ff h0 h1) q (wD.1 hq))
 exact⟨this.1,this.2.1⟩
end Go.Proofs.YtnaefnajkaohgaaGreatDoor
namespace Go.AL
open Go
section
variable{P:D→Prop}{a b:Int}{k:IntKind}{t:Tag P}
@[simp low] theorem alE:oA (iP .rem k a b) P t=(b≠0∧P (.val (.int k (fi a b)))):=by
 cases t
 simp only[iP]
 by_cases h:b=0<;>simp[h,fi]
def iB(k:IntKind)(a b:Int):Int:=k.wrap (a.tdiv b)
@[simp low] theorem alC:oA (iP .quo k a b) P t=(b≠0∧P (.val (.int k (iB k a b)))):=by
 cases t
 simp only[iP]
 by_cases h:b=0<;>simp[h,iB]
end
@[simp] theorem ajq{ρ:Nat→Option Nat}{H:U}{k:Nat}{t:TypeId}{a b:Int}:lY ρ H (k+1) 1 0 2 (some (t,[.i a,.i b]))=dI [a,b]:=by
 have h:=qF (f:=f1) (ρ:=ρ) (H:=H) (k:=k) (t:=t) (l:=[a,b]) (n:=2) rfl
 rw[l8]at h
 simp only[List.map_cons,List.map_nil,rC,aN,cT,aw,bK,aU]at h
 rw[h];unfold dI;simp only[List.map_cons,List.map_nil,rC]
end Go.AL
namespace Go.Proofs.YtnaefnajkaohgaaGreatDoor
open Go Go.AL Classical
set_option maxRecDepth 10000
set_option maxHeartbeats 1000000
def dW(w:List Int):D:=.agg (w.map fun n=>.val (.int .u8 n))
theorem f34(g:eU)(hg:fr g)(a0 a1 a2 a3 a4 a5:Int)(h:∀ n∈[a0,a1,a2,a3,a4,a5],0≤n∧n<256):Wf T 34 [dG g,dW [a0,a1,a2,a3,a4,a5]] [] (Ey (fun r:List Int=>.agg [dI r]) fun r=>r.length=g.kinds.length):=by
 have hk:=hg.kinds
 refine Yg DM ?_
 simp[DM,dW]
 rcases(show g.kinds.length=1∨g.kinds.length=2 by omega)with e|e
 ·refine fe.un ?_
  refine iO.u ?_
  simp[e]
  refine iO.u ?_
  simp[e]
  exact Ey.i [IntKind.i64.wrap (fi a0 8)] rfl rfl (by simp[e])
 ·refine fe.un ?_
  refine iO.u ?_
  simp[e]
  refine iO.u ?_
  simp[e]
  refine iO.u ?_
  simp[e]
  exact Ey.i [IntKind.i64.wrap (fi a0 8),IntKind.i64.wrap (fi a1 8)] rfl rfl (by simp[e])
end Go.Proofs.YtnaefnajkaohgaaGreatDoor
namespace Go.AL
open Go
@[irreducible] def fU(n:Int):List D:=[.val (.int .u8 n)]
@[simp] theorem Iv(n:Int):fU n = [.val (.int .u8 n)]:=by unfold fU;rfl
instance:Fl fU 1:=⟨fun _=>by simp,fun _=>by simp[fy]⟩
def dU(l:List Int):D:=.sl 1 (l.map fU)
@[simp] theorem aix(l:List Int):closed (dU l)=true:=by unfold dU;exact HW l
@[simp] theorem akF(l:List Int)(H:U):na .slice (dU l) H=some (.i l.length):=by simp[dU]
@[simp] theorem alw{l:List Int}{n:Int}{k:IntKind}{P:D→Prop}:oA (mL 1 (dU l) (.val (.int k n))) P .mk=((0≤n∧n<l.length)∧P (.fh [.val (.int .u8 (gt l n))])):=by unfold dU;rw[tg,Iv]
@[simp] theorem an4(n:Nat)(l:List Int):gG n (dU l) = []:=rfl
@[simp] theorem ahP(l:List Int):cellsOf (dU l)=some [dU l]:=rfl
@[simp] theorem al2(l:List Int):one (dU l)=true:=rfl
structure rl(Ih kinds fq:Int)(l:List eY):Prop where
 steps:∀ x∈l,((x.1=1∨x.1=2∨x.1=7)∧0≤x.2∧x.2<Ih)∨(3≤x.1∧x.1≤6∧x.2=0)∨(x.1=8∧0≤x.2∧x.2<kinds)∨((x.1=9∨x.1=10)∧0≤x.2∧x.2<fq)
 len:l.length≤8
 qu:kr l 6≤2
 push:kr l 7≤1
 zA:kr l 8≤1
@[simp] theorem agX(a b:Int):iP .add .u8 a b=some (.val (.int .u8 (IntKind.u8.wrap (a+b)))):=rfl
@[simp] theorem ag6(a b:Int):iP .sub .u8 a b=some (.val (.int .u8 (IntKind.u8.wrap (a-b)))):=rfl
theorem Rw(n:Int):0≤IntKind.u8.wrap n∧IntKind.u8.wrap n<256:=by
 simp only[IntKind.wrap,IntKind.bits,IntKind.signed]
 simp
 omega
theorem Bw(a b:Int):0≤iB .u8 a b∧iB .u8 a b<256:=Rw _
theorem S2{ρ:Nat→Option Nat}{H:U}{k n:Nat}{t:TypeId}{cs:List D}(l:List Int)(h:cs=l.map fun n=>D.val (.int .u8 n))(hn:n=l.length):lY ρ H (k+1) 1 0 n (some (t,cs))=dU l:=by
 subst hn
 have e:cs=cl fU l:=by
  rw[h,l8]
  clear h
  induction l with
  | nil=>rfl
  | cons a r ih=>simp[← ih]
 rw[e,qF rfl]
 rfl
theorem YJ{sz:Nat}{es:List (List D)}{k:IntKind}{n:Int}{P:D→Prop}:oA (mL sz (.sl sz es) (.val (.int k n))) P .mk=((0≤n∧n<es.length)∧P (.fh (es.getD n.toNat []))):=by
 simp only[mL,true_and,yw,wH]
theorem oA.i{α:Type}{x:Option α}{P:α→Prop}{t:Tag P}{a:α}(h1:x=some a)(h2:P a):oA x P t:=⟨a,h1,h2⟩
end Go.AL
namespace Go.Proofs.YtnaefnajkaohgaaGreatDoor
open Go Go.AL Classical
set_option maxRecDepth 10000
set_option maxHeartbeats 4000000
theorem f192(l:List Int)(k:Int)(hk:0≤k):Wf T 192 [dU l,.i k] [] (Is (.i (if k<l.length then IntKind.i64.wrap (gt l k)else 0))):=by
 refine Yg C8 ?_
 simp[C8]
 (with_reducible repeat' first|refine Xk ?_<;>try simp|refine Xs ?_ ?_<;>intro h<;>(try intro h')<;>(try simp[h])<;>(try omega)|refine Xg ?_|omega)
 all_goals simp[*]
def tc(d o b k r:Int):List (List eY):=[[(1,d),(3,0)],[(1,d),(4,0),(6,0)],[(2,d)],[(2,d),(4,0),(6,0)],[(1,d),(4,0),(6,0),(1,d)],[(1,d),(1,o)],[(1,d),(7,d)],[(1,d),(3,0),(8,k)],[(9,r),(1,d),(1,d),(10,r)],[(1,d),(5,0),(1,d),(3,0)],[(10,r),(1,d)],[(1,d),(4,0),(6,0),(1,b)],[(1,d),(4,0),(6,0),(1,o),(4,0),(6,0)],[(2,d),(5,0),(1,d)],[(1,d),(4,0),(6,0),(8,k)],[(1,d),(7,d),(1,o)]]
theorem XW(d o b k r:Int)(hd:0≤d∧d<8)(ho:0≤o∧o<8)(hb:0≤b∧b<8)(hk:0≤k∧k<6)(hr:0≤r∧r<4):∀ p∈tc d o b k r,rl 8 6 4 p:=by
 have hp:∀ p:List eY,(∀ x∈p,((x.1=1∨x.1=2∨x.1=7)∧0≤x.2∧x.2<8)∨(3≤x.1∧x.1≤6∧x.2=0)∨(x.1=8∧0≤x.2∧x.2<6)∨((x.1=9∨x.1=10)∧0≤x.2∧x.2<4))→p.length≤8∧kr p 6≤2∧kr p 7≤1∧kr p 8≤1→rl 8 6 4 p:=fun p a b=>⟨a,b.1,b.2.1,b.2.2.1,b.2.2.2⟩
 intro p h
 unfold tc at h
 simp only[aq,c8,or_false]at h
 rcases h with rfl|rfl|rfl|rfl|rfl|rfl|rfl|rfl|rfl|rfl|rfl|rfl|rfl|rfl|rfl|rfl
 all_goals
  refine hp _ ?_ ?_
  ·simp;omega
  ·simp[kr]
theorem XV(d o b k r m:Int)(h0:0≤m)(h1:m<16):([[D.sl 2 [[D.i 1,D.i d],[D.i 3,D.i 0]]],[D.sl 2 [[D.i 1,D.i d],[D.i 4,D.i 0],[D.i 6,D.i 0]]],[D.sl 2 [[D.i 2,D.i d]]],[D.sl 2 [[D.i 2,D.i d],[D.i 4,D.i 0],[D.i 6,D.i 0]]],[D.sl 2 [[D.i 1,D.i d],[D.i 4,D.i 0],[D.i 6,D.i 0],[D.i 1,D.i d]]],[D.sl 2 [[D.i 1,D.i d],[D.i 1,D.i o]]],[D.sl 2 [[D.i 1,D.i d],[D.i 7,D.i d]]],[D.sl 2 [[D.i 1,D.i d],[D.i 3,D.i 0],[D.i 8,D.i k]]],[D.sl 2 [[D.i 9,D.i r],[D.i 1,D.i d],[D.i 1,D.i d],[D.i 10,D.i r]]],[D.sl 2 [[D.i 1,D.i d],[D.i 5,D.i 0],[D.i 1,D.i d],[D.i 3,D.i 0]]],[D.sl 2 [[D.i 10,D.i r],[D.i 1,D.i d]]],[D.sl 2 [[D.i 1,D.i d],[D.i 4,D.i 0],[D.i 6,D.i 0],[D.i 1,D.i b]]],[D.sl 2 [[D.i 1,D.i d],[D.i 4,D.i 0],[D.i 6,D.i 0],[D.i 1,D.i o],[D.i 4,D.i 0],[D.i 6,D.i 0]]],[D.sl 2 [[D.i 2,D.i d],[D.i 5,D.i 0],[D.i 1,D.i d]]],[D.sl 2 [[D.i 1,D.i d],[D.i 4,D.i 0],[D.i 6,D.i 0],[D.i 8,D.i k]]],[D.sl 2 [[D.i 1,D.i d],[D.i 7,D.i d],[D.i 1,D.i o]]]].getD m.toNat [])[0]? = some (gQ (gt (tc d o b k r) m)):=by
 rcases(show m=0∨m=1∨m=2∨m=3∨m=4∨m=5∨m=6∨m=7∨m=8∨m=9∨m=10∨m=11∨m=12∨m=13∨m=14∨m=15 by omega)with rfl|rfl|rfl|rfl|rfl|rfl|rfl|rfl|rfl|rfl|rfl|rfl|rfl|rfl|rfl|rfl
 all_goals simp[tc,gt,gQ]
theorem f152(l:List Int)(hl:l.length=5)(h:∀ n∈l,0≤n∧n<256):Wf T 152 [dU l] [] (Ey gQ (rl 8 6 4)):=by
 have e:∀ k:Int,0≤k→k<5→(if k<l.length then IntKind.i64.wrap (gt l k)else 0)=gt l k:=fun k a b=>by
  rw[if_pos (by omega)]
  have:=h _ (ff (l:=l) a (by omega))
  exact oT ⟨by omega,by omega⟩
 have hr:∀ k:Int,0≤k→k<5→0≤gt l k:=fun k a b=>(h _ (ff (l:=l) a (by omega))).1
 refine Yz y6 (gY 121 [0,1,2,3,4,5,6,7,8,9,10,11,12,13,14,15,16,17,18,19,20,21,22,23,24,25,26,27,28] y6.body) ?_
 simp[y6,gY,jc,lW,lX,me,ky]
 refine Yc (f192 l 1 (by omega)) ?_
 simp[e 1 (by omega) (by omega)]
 refine Yc (f192 l 2 (by omega)) ?_
 simp[e 2 (by omega) (by omega)]
 refine Yc (f192 l 3 (by omega)) ?_
 simp[e 3 (by omega) (by omega)]
 refine Yc (f192 l 4 (by omega)) ?_
 simp[e 4 (by omega) (by omega),lY,chunks]
 have r1:=jV (a:=gt l 1) (b:=8) (hr 1 (by omega) (by omega))
 have r2:=jV (a:=gt l 2) (b:=8) (hr 2 (by omega) (by omega))
 have r3:=jV (a:=gt l 3) (b:=6) (hr 3 (by omega) (by omega))
 have r4:=jV (a:=gt l 4) (b:=4) (hr 4 (by omega) (by omega))
 have r0:=jV (a:=gt l 0) (b:=16) (hr 0 (by omega) (by omega))
 have r5:=jV (a:=fi (gt l 1) 8+4) (b:=8) (by omega)
 have Wr:IntKind.i64.wrap (gt l 0)=gt l 0:=by
  have:=e 0 (by omega) (by omega)
  rwa [if_pos (by omega)]at this
 (with_reducible repeat' first|refine Xk ?_<;>try simp|refine Xs ?_ ?_<;>intro h<;>(try intro h')<;>(try simp[h])<;>(try omega)|refine Xg ?_|omega)
 refine Yc (f192 l 0 (by omega)) ?_
 simp[hl,Wr,YJ,lY,chunks]
 (with_reducible repeat' first|refine Xk ?_<;>try simp|refine Xs ?_ ?_<;>intro h<;>(try intro h')<;>(try simp[h])<;>(try omega)|refine Xg ?_|omega)
 have VA:=XW (fi (gt l 1) 8) (fi (gt l 2) 8) (fi (fi (gt l 1) 8+4) 8) (fi (gt l 3) 6) (fi (gt l 4) 4) (by omega) (by omega) (by omega) (by omega) (by omega)
 have hlen:(tc (fi (gt l 1) 8) (fi (gt l 2) 8) (fi (fi (gt l 1) 8+4) 8) (fi (gt l 3) 6) (fi (gt l 4) 4)).length=16:=rfl
 have hg:∀ m:Int,0≤m→m<16→gt (tc (fi (gt l 1) 8) (fi (gt l 2) 8) (fi (fi (gt l 1) 8+4) 8) (fi (gt l 3) 6) (fi (gt l 4) 4)) m∈tc (fi (gt l 1) 8) (fi (gt l 2) 8) (fi (fi (gt l 1) 8+4) 8) (fi (gt l 3) 6) (fi (gt l 4) 4):=fun m a b=>ff a (by omega)
 refine oA.i (a:=gQ (gt (tc (fi (gt l 1) 8) (fi (gt l 2) 8) (fi (fi (gt l 1) 8+4) 8) (fi (gt l 3) 6) (fi (gt l 4) 4)) (fi (gt l 0) 16))) ?_ ?_
 ·exact XV _ _ _ _ _ _ (by omega) (by omega)
 ·simp
  exact Ey.i (gt (tc (fi (gt l 1) 8) (fi (gt l 2) 8) (fi (fi (gt l 1) 8+4) 8) (fi (gt l 3) 6) (fi (gt l 4) 4)) (fi (gt l 0) 16)) rfl rfl (VA _ (hg _ (by omega) (by omega)))
