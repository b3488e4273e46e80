/- 14 -/
import Derived.Test.YtnaefnajkaohgaaGreatDoorH13
set_option linter.all false
namespace Go.Proofs.YtnaefnajkaohgaaGreatDoor
open Go Go.AL Classical
set_option maxRecDepth 10000
set_option maxHeartbeats 1000000
def OJ{g:eH}{p:Pos}(h:¬ ended g p){r:List Pos}(hs:jM r)(hm:∀ q,q∈r↔pj g p q):e7 r=q5 g p:=by
 unfold q5;rw[if_neg h,Mo hs hm]
def f60(g:eH)(hg:fe g)(p:Pos)(hp:fO g p):Wf T 60 [dG g,dP p] [] (Is (q5 g p)):=by
 refine Yz AY (gL 66 [2] AY.body) ?_
 simp[AY,gL,jg,lD,lH,lS,ku]
 refine Yc (f106 g hg p hp) ?_
 simp
 (with_reducible repeat' first|refine Xk ?_<;>try simp|refine Xs ?_ ?_<;>intro h<;>(try intro h')<;>(try simp[h])<;>try omega|refine Xg ?_|omega)
 ·unfold q5;rw[if_pos (G8.1 ‹_›)]
 have gw:¬ ended g p:=fun h2=>h (G8.2 h2)
 refine Yq (f107 g hg p hp) fun l hl=>?_
 simp
 have iA:=hl.2
 refine eN.e ((0,false):Int×Bool) (fun y=>[(2,.ptr 0 0 0),(3,.ptr 1 0 0),(5,mH l),(6,.eF 2 0 5 0 0),(7,.b y.2),(8,.i y.1)]) (fun y=>[.row 41 0 g.cells,.row 44 0 p.cells,.row 44 0 []]) (fun y=>0≤y.1∧y.1≤l.length∧(y.2=true↔g.lg=true∧∃ o∈l.take y.1.toNat,o.iL=true)) (fun y=>l.length-y.1.toNat) ?_ ?_
 ·simp
 rintro⟨i,lg⟩ ⟨h0,h1,h2⟩
 dsimp only at h0 h1 h2 ⊢
 by_cases tv:i<l.length
 ·have e:∀ o,o∈l.take (i+1).toNat↔o∈l.take i.toNat∨o=gt l i:=fun o=>by rw[gx h0 tv,List.mem_append,List.mem_singleton]
  cases om:g.lg<;>cases lg<;>simp[om,tv]
  ·(with_reducible repeat' first|refine Xk ?_<;>try simp|refine Xs ?_ ?_<;>intro h<;>(try intro h')<;>(try simp[h])<;>try omega|refine Xg ?_|omega)
   refine LJ.i (i+1,false) (by first|rfl|simp[om]) (by first|rfl|simp[om]) rfl rfl ?_
   dsimp only
   exact eY (by simp[om])
  ·simp[om]at h2
  ·(with_reducible repeat' first|refine Xk ?_<;>try simp|refine Xs ?_ ?_<;>intro h<;>(try intro h')<;>(try simp[h])<;>try omega|refine Xg ?_|omega)
   refine LJ.i (i+1,(gt l i).iL) (by first|rfl|simp[om]) (by first|rfl|simp[om]) rfl rfl ?_
   dsimp only
   refine eY ?_
   simp[om]at h2 ⊢
   constructor
   ·intro h;exact⟨_,(e _).2 (.inr rfl),h⟩
   ·rintro⟨o,ho,h⟩
    rcases(e o).1 ho with ho|ho
    ·exact absurd h (by simpa using h2 o ho)
    ·rw[← ho];exact h
  ·(with_reducible repeat' first|refine Xk ?_<;>try simp|refine Xs ?_ ?_<;>intro h<;>(try intro h')<;>(try simp[h])<;>try omega|refine Xg ?_|omega)
   refine LJ.i (i+1,true) (by first|rfl|simp[om]) (by first|rfl|simp[om]) rfl rfl ?_
   dsimp only
   refine eY ?_
   simp[om]at h2 ⊢
   obtain⟨o,ho,h⟩:=h2
   exact⟨o,(e o).2 (.inl ho),h⟩
 ·simp[tv]
  rw[jh (by omega)]at h2
  refine eN.e ((0,0,[]):Int×Nat×List Pos) (fun y=>[(2,.ptr 0 0 0),(3,.ptr 1 0 0),(5,mH l),(6,.eF 2 y.2.1 5 0 y.2.2.length),(7,.b lg),(9,.i y.1)]) (fun y=>[.row 41 0 g.cells,.row 44 0 p.cells,.row 44 y.2.1 (cl Pos.cells y.2.2)]) (fun y=>0≤y.1∧y.1≤l.length∧(∀ q,q∈y.2.2↔∃ o∈l.take y.1.toNat,(lg=true→o.iL=true)∧o.p=q)∧y.2.2.length≤y.1.toNat) (fun y=>l.length-y.1.toNat) ?_ ?_
  ·simp
  rintro⟨j,gn,out⟩ ⟨j0,j1,j2,j3⟩
  dsimp only at j0 j1 j2 j3 ⊢
  by_cases oG:j<l.length
  ·have e:∀ o,o∈l.take (j+1).toNat↔o∈l.take j.toNat∨o=gt l j:=fun o=>by rw[gx j0 oG,List.mem_append,List.mem_singleton]
   simp[oG]
   cases lg<;>simp
   ·(with_reducible repeat' first|refine Xk ?_<;>try simp|refine Xs ?_ ?_<;>intro h<;>(try intro h')<;>(try simp[h])<;>try omega|refine Xg ?_|omega)
    refine LJ.e (j+1,gn+1,out ++ [(gt l j).p]) ?_
    dsimp only
    refine⟨by omega,by omega,by omega,fun q=>?_,by simp;omega⟩
    rw[List.mem_append,List.mem_singleton,j2]
    simp only[e]
    constructor
    ·rintro(⟨o,a,b⟩|a)
     ·exact⟨o,.inl a,b⟩
     ·exact⟨_,.inr rfl,(fun h=>by cases h),a.symm⟩
    ·rintro⟨o,a|a,b,d⟩
     ·exact .inl ⟨o,a,b,d⟩
     ·subst a;exact .inr d.symm
   ·(with_reducible repeat' first|refine Xk ?_<;>try simp|refine Xs ?_ ?_<;>intro h<;>(try intro h')<;>(try simp[h])<;>try omega|refine Xg ?_|omega)
    ·skip
     refine LJ.e (j+1,gn+1,out ++ [(gt l j).p]) ?_
     dsimp only
     refine⟨by omega,by omega,by omega,fun q=>?_,by simp;omega⟩
     rw[List.mem_append,List.mem_singleton,j2]
     simp only[e]
     constructor
     ·rintro(⟨o,a,b⟩|a)
      ·exact⟨o,.inl a,b⟩
      ·exact⟨_,.inr rfl,(fun _ => ‹_›),a.symm⟩
     ·rintro⟨o,a|a,b,d⟩
      ·exact .inl ⟨o,a,b,d⟩
      ·subst a;exact .inr d.symm
    ·refine LJ.e (j+1,gn,out) ?_
     dsimp only
     refine⟨by omega,by omega,by omega,fun q=>?_,by omega⟩
     rw[j2]
     simp only[e]
     constructor
     ·rintro⟨o,a,b⟩
      exact⟨o,.inl a,b⟩
     ·rintro⟨o,a|a,b,d⟩
      ·exact⟨o,a,b,d⟩
      ·subst a;have:=b trivial;simp_all
  ·simp[oG]
   rw[jh (by omega)]at j2
   have v7:∀ q∈out,Small q:=fun q hq=>by
    obtain⟨o,a,_,rfl⟩:=(j2 q).1 hq
    exact(IQ hg hp ((hl.1 o).1 a)).small hg
   cases lg<;>simp
   ·have hm:¬ (g.lg=true∧∃ o∈oN g p,o.iL=true):=by
     simp only[← hl.1]
     exact fun h=>by have:=h2.2 h;cases this
    refine Yq (f108 g hg p hp) fun dr PS=>?_
    simp
    (with_reducible repeat' first|refine Xk ?_<;>try simp|refine Xs ?_ ?_<;>intro h<;>(try intro h')<;>(try simp[h])<;>try omega|refine Xg ?_|omega)
    refine Yq (f61 (out++dr) (by simp;omega) (fun q hq=>(List.mem_append.1 hq).elim (v7 q) (fun h=>OS hg hp ((PS.2.2 q).1 h)))) fun r hr=>?_
    simp
    refine OJ gw hr.1 fun q=>?_
    rw[hr.2.2,List.mem_append,PS.2.2,j2]
    unfold pj
    rw[if_neg hm]
    simp only[CW gw,hl.1]
    simp
    exact fun _ c hc=>CW gw c hc
   ·have hm:=h2.1 rfl
    refine Yq (f61 out (by omega) v7) fun r hr=>?_
    simp
    refine OJ gw hr.1 fun q=>?_
    rw[hr.2.2,j2]
    unfold pj
    simp only[hl.1]at hm ⊢
    rw[if_pos hm]
    constructor
    ·rintro⟨o,a,b,rfl⟩
     have:=b trivial
     refine⟨CW gw,?_⟩
     cases o;simp_all
    ·rintro⟨_,a⟩
     exact⟨_,a,fun _=>rfl,rfl⟩
def f112(g:eH)(hg:fe g)(p:Pos)(hp:fO g p):Wf T 112 [dG g,dP p] [] (Is (.agg [.i (stat g p).1,.b (stat g p).2])):=by
 refine Yg DV ?_
 simp[DV]
 refine Yc (f106 g hg p hp) ?_
 simp
 (with_reducible repeat' first|refine Xk ?_<;>try simp|refine Xs ?_ ?_<;>intro h<;>(try intro h')<;>(try simp[h])<;>try omega|refine Xg ?_|omega)
 ·have he:=G8.1 h
  have:=J9 he
  (with_reducible repeat' first|refine Xk ?_<;>try simp|refine Xs ?_ ?_<;>intro h<;>(try intro h')<;>(try simp[h])<;>try omega|refine Xg ?_|omega)
  simp[stat,he,ID he]
 ·have he:¬ ended g p:=fun h2=>h (G8.2 h2)
  refine Yc (f60 g hg p hp) ?_
  simp
  (with_reducible repeat' first|refine Xk ?_<;>try simp|refine Xs ?_ ?_<;>intro h<;>(try intro h')<;>(try simp[h])<;>try omega|refine Xg ?_|omega)
  all_goals simp[stat, *]
def f58(g:eH)(hg:fe g)(p:Pos)(hp:fO g p)(l:List Int)(hl:l.length≤100)(h0:∀ n∈l,0≤n∧n<256):Wf T 58 [dG g,dP p,dI l] [] (Ey e7 fun r=>(0<r.length∧r.length≤101)∧∀ q∈r,fO g q):=by
 refine Yg FN ?_
 simp[FN]
 refine eN.e ((0,p,0,[p]):Int×Pos×Nat×List Pos) (fun y=>[(2,dI l),(3,.ptr 0 0 0),(4,.ptr 1 0 0),(7,.eF 2 y.2.2.1 5 0 y.2.2.2.length),(8,.i y.1)]) (fun y=>[.row 41 0 g.cells,.row 44 0 y.2.1.cells,.row 44 y.2.2.1 (cl Pos.cells y.2.2.2)]) (fun y=>0≤y.1∧y.1≤l.length∧fO g y.2.1∧(0<y.2.2.2.length∧y.2.2.2.length≤y.1.toNat+1)∧∀ q∈y.2.2.2,fO g q) (fun y=>l.length-y.1.toNat) ?_ ?_
 ·simp;exact hp
 rintro⟨i,p,gn,out⟩ ⟨i0,i1,hp,i2,i3⟩
 dsimp only at i0 i1 hp i2 i3 ⊢
 simp
 (with_reducible repeat' first|refine Xk ?_<;>try simp|refine Xs ?_ ?_<;>intro h<;>(try intro h')<;>(try simp[h])<;>try omega|refine Xg ?_|omega)
 ·refine Yc (f60 g hg p hp) ?_
  simp
  have hn:=h0 _ (eQ i0 ‹_›)
  have zS:0<(gR g p).length→0≤eZ (gt l i) (gR g p).length∧eZ (gt l i) (gR g p).length<(gR g p).length:=fun h=>by
   rw[kC hn.1]
   exact⟨bW _ (by omega),bU _ (by omega)⟩
  (with_reducible repeat' first|refine Xk ?_<;>try simp|refine Xs ?_ ?_<;>intro h<;>(try intro h')<;>(try simp[h])<;>try omega|refine Xg ?_|omega)
  ·exact Ey.i out rfl rfl (nk i3)
  ·have hlen:0<(gR g p).length:=az.2 ‹_›
   have:=zS hlen
   omega
  ·have hlen:0<(gR g p).length:=az.2 ‹_›
   have:=zS hlen
   (with_reducible repeat' first|refine Xk ?_<;>try simp|refine Xs ?_ ?_<;>intro h<;>(try intro h')<;>(try simp[h])<;>try omega|refine Xg ?_|omega)
   have eM:=Mn hg hp (x9.1 (eQ (l:=gR g p) this.1 this.2))
   refine LJ.e (i+1,gt (gR g p) (eZ (gt l i) (gR g p).length),gn+1,out ++ [gt (gR g p) (eZ (gt l i) (gR g p).length)]) ?_
   dsimp only
   refine⟨by omega,by omega,by omega,eM,by simp;omega,fun q hq=>?_⟩
   rcases List.mem_append.1 hq with hq|hq
   ·exact i3 q hq
   ·rw[List.mem_singleton]at hq;subst hq;exact eM
 ·exact Ey.i out rfl rfl (nk i3)
structure Gt(g:eH)(p:Pos)(all last:List Pos):Prop where
 tW:jM all
 ok:∀ q∈all,fO g q
 has:p∈all
 sub:∀ q∈last,q∈all
 cl:∀ q∈all,q ∉ last→∀ m,pj g q m→m∈all
 len:all.length≤80
 aac:last.length≤all.length
def Gt.step{g:eH}(hg:fe g){p:Pos}{all last next last' all':List Pos}(h:Gt g p all last)(hn:∀ m,m∈next↔∃ q∈last,pj g q m)(hl:∀ m,m∈last'↔m∈next∧m ∉ all)
  (lz:last'.Nodup) (hs:jM all') (ha:∀ q,q∈all'↔q∈all∨q∈last') (hlen:all'.length≤80):Gt g p all' last'∧(last'≠[]→all.length<all'.length)∧all.length≤all'.length:=by
 have h1:all.length+last'.length≤all'.length:=by
  rw[← ay]
  refine rR (aZ.2 ⟨h.tW.nodup,lz,fun a ha b hb e=>?_⟩) fun x hx=>(ha x).2 (List.mem_append.1 hx)
  subst e;exact((hl a).1 hb).2 ha
 refine⟨⟨hs,fun q hq=>?_,(ha p).2 (.inl h.has),fun q hq=>(ha q).2 (.inr hq),fun q hq zP m hm=>?_,hlen,by omega⟩,fun he=>?_,by omega⟩
 ·rcases(ha q).1 hq with hq|hq
  ·exact h.ok q hq
  ·obtain⟨r,hr,hm⟩:=(hn q).1 ((hl q).1 hq).1
   exact Mn hg (h.ok r (h.sub r hr)) hm
 ·rcases(ha q).1 hq with hq|hq
  ·by_cases Qq:q∈last
   ·by_cases Qd:m∈all
    ·exact(ha m).2 (.inl Qd)
    ·exact(ha m).2 (.inr ((hl m).2 ⟨(hn m).2 ⟨q,Qq,hm⟩,Qd⟩))
   ·exact(ha m).2 (.inl (h.cl q hq Qq m hm))
  ·exact absurd hq zP
 ·have:0<last'.length:=az.2 he
  omega
structure DM(g:eH)(l:List Pos):Prop where
 tW:jM l
 ok:∀ q∈l,fO g q
 cl:∀ q∈l,∀ m,pj g q m→m∈l
 len:0<l.length∧l.length≤80
def f33(g:eH)(hg:fe g)(p:Pos)(hp:fO g p):Wf T 33 [dG g,dP p,.i 80] [] (Ey (fun x:Bool×List Pos=>.agg [if x.1 then e7 x.2 else .eG,.i (if x.1 then 0 else 2)]) (fun x=>x.1=true→DM g x.2)):=by
 have jB:=hp.small hg
 refine Yz AU (jg 62 [6,7] (gL 34 [5] AU.body)) ?_
 simp[AU,gL,jg,lD,lH,lS,ku]
 refine eN.fz [3,4] rfl ?_
 refine eN.e (([p],[p]):List Pos×List Pos) (fun y=>[(2,.i 80),(3,.ptr 0 0 0),(6,.ptr 2 0 0),(7,e7 y.1),(8,e7 y.2)]) (fun y=>[.row 41 0 g.cells,.row 44 0 p.cells,.row 92 0 [.eG,.i 0],.dead,.dead]) (fun y=>Gt g p y.1 y.2) (fun y=>(81-y.1.length)*2+(if y.2 = []then 0 else 1)) ?_ ?_
 ·refine⟨fun i h1 h2=>by simp at h2;omega,by simpa using hp,by simp,by simp,by simp,by simp,by simp⟩
 rintro⟨all,last⟩ hI
 have iR:=hI.len
 have iA:=hI.aac
 dsimp only at hI iR iA ⊢
 simp
 (with_reducible repeat' first|refine Xk ?_<;>try simp|refine Xs ?_ ?_<;>intro h<;>(try intro h')<;>(try simp[h])<;>try omega|refine Xg ?_|omega)
 ·refine eN.e ((0,0,[]):Int×Nat×List Pos) (fun y=>[(2,.i 80),(3,.ptr 0 0 0),(6,.ptr 2 0 0),(7,e7 all),(8,e7 last),(9,.eF 5 y.2.1 5 0 y.2.2.length),(10,.i y.1)]) (fun y=>[.row 41 0 g.cells,.row 44 0 p.cells,.row 92 0 [.eG,.i 0],.dead,.dead,.row 44 y.2.1 (cl Pos.cells y.2.2)]) (fun y=>0≤y.1∧y.1≤last.length∧(∀ m,m∈y.2.2↔∃ q∈last.take y.1.toNat,pj g q m)∧y.2.2.length≤y.1.toNat*4000000000) (fun y=>last.length-y.1.toNat) ?_ ?_
  ·simp
  rintro⟨i,gn,nx⟩ ⟨i0,i1,i2,i3⟩
  dsimp only at i0 i1 i2 i3 ⊢
  simp
  (with_reducible repeat' first|refine Xk ?_<;>try simp|refine Xs ?_ ?_<;>intro h<;>(try intro h')<;>(try simp[h])<;>try omega|refine Xg ?_|omega)
  ·have hq:=hI.ok _ (hI.sub _ (eQ i0 ‹_›))
   have Qf:=tN hg hq
   refine Yt (f60 g hg _ hq) ?_
   simp
   (with_reducible repeat' first|refine Xk ?_<;>try simp|refine Xs ?_ ?_<;>intro h<;>(try intro h')<;>(try simp[h])<;>try omega|refine Xg ?_|omega)
   refine LJ.e (i+1,gn+1,nx++gR g (gt last i)) ?_
   dsimp only
   refine⟨by omega,by omega,by omega,fun m=>?_,?_⟩
   ·rw[List.mem_append,i2,x9,gx i0 ‹_›]
    simp only[List.mem_append,List.mem_singleton]
    constructor
    ·rintro(⟨q,a,b⟩|a)
     ·exact⟨q,.inl a,b⟩
     ·exact⟨_,.inr rfl,a⟩
    ·rintro⟨q,a|rfl,b⟩
     ·exact .inl ⟨q,a,b⟩
     ·exact .inr b
   ·rw[ay,show(i+1).toNat=i.toNat+1 by omega,bS]
    omega
  ·rw[jh (by omega)]at i2
   have HV:∀ q∈nx,fO g q:=fun q hq=>by
    obtain⟨r,hr,hm⟩:=(i2 q).1 hq
    exact Mn hg (hI.ok r (hI.sub r hr)) hm
   refine Yc (O8 nx (by omega) (fun q hq=>(HV q hq).small hg)) ?_
   simp
   have Qy:=Jk nx
   have pV:=jM.nodup (yz nx)
   have YG:∀ q,q∈jy nx↔∃ r∈last,pj g r q:=fun q=>by rw[sO,i2]
   have Qk:∀ q∈jy nx,Small q:=fun q hq=>(HV q (sO.1 hq)).small hg
   generalize hN:jy nx=N at *
   refine eN.e ((0,0,[]):Int×Nat×List Pos) (fun y=>[(2,.i 80),(3,.ptr 0 0 0),(6,.ptr 2 0 0),(7,e7 all),(8,.eF 6 y.2.1 5 0 y.2.2.length),(9,e7 N),(11,.i y.1)]) (fun y=>[.row 41 0 g.cells,.row 44 0 p.cells,.row 92 0 [.eG,.i 0],.dead,.dead,.dead,.row 44 y.2.1 (cl Pos.cells y.2.2)]) (fun y=>0≤y.1∧y.1≤N.length∧(∀ m,m∈y.2.2↔m∈N.take y.1.toNat∧m ∉ all)∧y.2.2.Nodup∧y.2.2.length≤y.1.toNat) (fun y=>N.length-y.1.toNat) ?_ ?_
   ·simp
   rintro⟨j,gm,l'⟩ ⟨j0,j1,j2,j3,j4⟩
   dsimp only at j0 j1 j2 j3 j4 ⊢
   simp
   (with_reducible repeat' first|refine Xk ?_<;>try simp|refine Xs ?_ ?_<;>intro h<;>(try intro h')<;>(try simp[h])<;>try omega|refine Xg ?_|omega)
   ·refine Yc (f27 all (gt N j) (by omega) (fun q hq=>(hI.ok q hq).small hg) (Qk _ (eQ j0 ‹_›)) hI.tW) ?_
    simp
    have hf:oe all (gt N j)<0↔gt N j ∉ all:=by
     by_cases hm:gt N j∈all
     ·have:=BI hm
      simp[hm];omega
     ·rw[Pf hm];simp[hm]
    (with_reducible repeat' first|refine Xk ?_<;>try simp|refine Xs ?_ ?_<;>intro h<;>(try intro h')<;>(try simp[h])<;>try omega|refine Xg ?_|omega)
    ·refine LJ.e (j+1,gm+1,l' ++ [gt N j]) ?_
     dsimp only
     have qO:gt N j ∉ l':=fun hm=>by
      have:=(j2 _).1 hm
      obtain⟨k,hk,e⟩:=c9.1 this.1
      refine aV.1 pV k j.toNat (by omega) (by omega) (by omega) ?_
      rw[e,mw j0 ‹_›]
     refine⟨by omega,by omega,by omega,fun m=>?_,aZ.2 ⟨j3,by simp,fun a ha b hb e=>?_⟩,by simp;omega⟩
     ·rw[List.mem_append,j2,gx j0 ‹_›,List.mem_append,List.mem_singleton]
      constructor
      ·rintro(⟨a,b⟩|rfl)
       ·exact⟨.inl a,b⟩
       ·exact⟨.inr rfl,hf.1 h⟩
      ·rintro⟨a|a,b⟩
       ·exact .inl ⟨a,b⟩
       ·exact .inr a
     ·rw[List.mem_singleton]at hb;subst hb;subst e;exact qO ha
    ·refine LJ.e (j+1,gm,l') ?_
     dsimp only
     refine⟨by omega,by omega,by omega,fun m=>?_,j3,by omega⟩
     rw[j2,gx j0 ‹_›,List.mem_append,List.mem_singleton]
     constructor
     ·rintro⟨a,b⟩
      exact⟨.inl a,b⟩
     ·rintro⟨a|rfl,b⟩
      ·exact⟨a,b⟩
      ·exact absurd (hf.2 b) h
   ·rw[jh (by omega)]at j2
    refine Yc (O8 (all++l') (by simp;omega) (fun q hq=>(List.mem_append.1 hq).elim (fun h=>(hI.ok q h).small hg) fun h=>Qk q ((j2 q).1 h).1)) ?_
    simp
    have eX:=hI.step hg (next:=N) (last':=l') (all':=jy (all++l')) YG j2 j3 (yz _) (fun q=>by rw[sO,List.mem_append])
    (with_reducible repeat' first|refine Xk ?_<;>try simp|refine Xs ?_ ?_<;>intro h<;>(try intro h')<;>(try simp[h])<;>try omega|refine Xg ?_|omega)
    ·exact Ey.i (false,[]) (by simp) rfl (fun h=>by cases h)
    ·obtain⟨h1,h2,h3⟩:=eX (by omega)
     refine LJ.e (jy (all++l'),l') ?_
     dsimp only
     refine⟨?_,h1⟩
     have xL:last≠[]:=fun e=>by subst e;simp at *
     rw[if_neg xL]
     by_cases e:l' = []
     ·rw[if_pos e];omega
     ·have:=h2 e
      rw[if_neg e];have:=h1.len;omega
 ·refine Ey.i (true,all) (by simp) rfl fun _=>⟨hI.tW,hI.ok,fun q hq=>hI.cl q hq ?_,?_⟩
  ·have:last = []:=aB.1 (by omega)
   rw[this];simp
  ·have:=cv hI.has
   exact⟨this,iR⟩
end Go.Proofs.YtnaefnajkaohgaaGreatDoor
namespace Go.AL
open Go
def R5(S:List Nat):gP→Bool
 | .call f _ | .callN f _=>elem f S
 | .callv _ _=>false
 | .nextM _=>false
 | _=>true
def oa(S:List Nat):List eT→Bool
 | []=>true
 | e::r=>R5 S e.op&&oa S r
def pH(S:List Nat):IR→Bool
 | .ops l=>oa S l
 | .kr _ l=>oa S l
 | .lF _ l es=>oa S l&&oa S es
 | .seq a b=>pH S a&&pH S b
 | .cond _ a b=>pH S a&&pH S b
 | .block _ _ a=>pH S a
 | .loop _ a=>pH S a
 | .l5 _ _ _=>false
 | _=>true
def pI(S:List Nat):wJ→Bool
 | .ops l _=>oa S l
 | .code c _=>pH S c
 | .loop _ _ a _=>pH S a
 | .call f _ _=>elem f S
 | .trace l _=>oa S l
def One(T:gy)(j:wJ)(R:nY→Prop):Prop:=match j with
 | .ops _ _ | .code _ _ | .loop _ _ _ _=>∃ o,R (.out o)∧Ev T j (fun r=>r = .out o)
 | .call _ _ _=>∃ d H,R (.val d H)∧Ev T j (fun r=>r = .val d H)
 | .trace _ _=>∃ rs s,R (.tr rs s)∧Ev T j (fun r=>r = .tr rs s)
def One.mono{T:gy}{j:wJ}{R R':nY→Prop}(h:One T j R)(hi:∀ r,R r→R' r):One T j R':=by
 cases j with
 | call f a H=>obtain⟨d,H',h1,h2⟩:=h;exact⟨d,H',hi _ h1,h2⟩
 | trace l s=>obtain⟨d,H',h1,h2⟩:=h;exact⟨d,H',hi _ h1,h2⟩
 | _=>obtain⟨o,h1,h2⟩:=h;exact⟨o,hi _ h1,h2⟩
def R6{S:List Nat}{env:fQ}{op:gP}{f:FuncId}{args:List D}(h:R5 S op=true)(hc:jA env op=some (f,args)):elem f S=true:=by
 cases op<;>first|(cases hc;exact h)|(cases h;done)|(cases hc;done)
section
variable{T:gy}{S:List Nat}(hS:∀ f fn,elem f S=true→T.fn f=some fn→pH S fn.body=true)(hN:∀ f,elem f S=true→T.sort f=none∧T.qB f=false)
include hS hN
theorem afd{j:wJ}{R:nY→Prop}(h:Ev T j R):pI S j=true→One T j R:=by
 induction h with
 | mono h hi ih=>exact fun hj=>(ih hj).mono hi
 | sort fc l cf hs=>intro hj;rw[(hN _ hj).1]at hs;cases hs
 | Ar hs=>intro hj;rw[(hN _ hj).1]at hs;cases hs
 | qB l hs=>intro hj;rw[(hN _ hj).2]at hs;cases hs
 | nil h=>exact fun _=>⟨_,h,.nil rfl⟩
 | op hg h t ih=>
  intro hj
  simp only[pI,oa,ah]at hj
  obtain⟨o,h1,h2⟩:=ih hj.2
  exact⟨o,h1,.op hg h h2⟩
 | yy hg h t ih=>
  intro hj
  simp only[pI,oa,ah]at hj
  obtain⟨o,h1,h2⟩:=ih hj.2
  exact⟨o,h1,.yy hg h h2⟩
 | off hg t ih=>
  intro hj
  simp only[pI,oa,ah]at hj
  obtain⟨o,h1,h2⟩:=ih hj.2
  exact⟨o,h1,.off hg h2⟩
 | kb S' hm t ih=>intro hj;obtain⟨o,h1,h2⟩:=ih hj;exact⟨o,h1,.kb S' hm h2⟩
 | BK S' hm t ih=>intro hj;obtain⟨o,h1,h2⟩:=ih hj;exact⟨o,h1,.BK S' hm h2⟩
 | Kq live t ih=>intro hj;obtain⟨o,h1,h2⟩:=ih hj;exact⟨o,h1,.Kq live h2⟩
 | BJ live t ih=>intro hj;obtain⟨o,h1,h2⟩:=ih hj;exact⟨o,h1,.BJ live h2⟩
 | Bk hg hc hf hp h ha t ih sG=>
  intro hj
  simp only[pI,oa,ah]at hj
  obtain⟨d,Hn,h1,h2⟩:=ih (R6 hj.1 hc)
  obtain⟨s',fZ⟩:=da.1 (ha d Hn h1)
  obtain⟨o,h3,h4⟩:=sG d Hn s' h1 fZ hj.2
  exact⟨o,h3,.Bk hg hc hf hp h2 (fun d' A2 e=>by cases e;exact ha _ _ h1) fun d' A2 s2 e mJ=>by
   cases e;rw[fZ]at mJ;cases mJ;exact h4⟩
 | Bj hg hc hf hp h t ih sG=>
  intro hj
  simp only[pI,oa,ah]at hj
  obtain⟨d,Hn,h1,h2⟩:=ih (R6 hj.1 hc)
  obtain⟨o,h3,h4⟩:=sG d Hn h1 hj.2
  exact⟨o,h3,.Bj hg hc hf hp h2 fun d' A2 e=>by cases e;exact h4⟩
 | @GD e r s v args rf env0 Rd Ra Rb R hg hc=>
  intro hj
  simp only[pI,oa,ah]at hj
  exfalso
  have h1:=hj.1
  revert hc h1
  cases e.op<;>intro hc h1<;>first|(cases hc;done)|(cases h1;done)
 | next hg gD=>
  intro hj
  simp only[pI,oa,ah]at hj
  have h1:=hj.1
  rw[gD]at h1;cases h1
 | Dz h=>exact fun _=>⟨_,_,h,.Dz rfl⟩
 | DB hg h t k ih=>
  intro hj
  simp only[pI,oa,ah]at hj
  obtain⟨rs,s',h1,h2⟩:=ih hj.2
  exact⟨_,s',k rs s' h1,.DB hg h h2 fun yp s2 e=>by cases e;rfl⟩
 | DA hg t k ih=>
  intro hj
  simp only[pI,oa,ah]at hj
  obtain⟨rs,s',h1,h2⟩:=ih hj.2
  exact⟨_,s',k rs s' h1,.DA hg h2 fun yp s2 e=>by cases e;rfl⟩
 | Dw hg hc hf hp h h0 hr t k ih sG=>
  intro hj
  simp only[pI,oa,ah]at hj
  obtain⟨rs,s',h1,h2⟩:=sG hj.2
  exact⟨_,s',k rs s' h1,.Dw hg hc hf hp h h0 hr h2 fun yp s2 e=>by cases e;rfl⟩
 | Dx hg gD ha hf hp h h0 hr t k ih sG=>
  intro hj
  simp only[pI,oa,ah]at hj
  obtain⟨rs,s',h1,h2⟩:=sG hj.2
  exact⟨_,s',k rs s' h1,.Dx hg gD ha hf hp h h0 hr h2 fun yp s2 e=>by cases e;rfl⟩
 | Dy hg gD ha hf hp WT hv gq fM h h0 hr t k ih sG=>
  intro hj
  simp only[pI,oa,ah]at hj
  obtain⟨rs,s',h1,h2⟩:=sG hj.2
  exact⟨_,s',k rs s' h1,.Dy hg gD ha hf hp WT hv gq fM h h0 hr h2 fun yp s2 e=>by cases e;rfl⟩
 | kr t hp ih=>
  intro hj
  obtain⟨rs,s',h1,h2⟩:=ih hj
  exact⟨_,(hp rs s' h1).2,.kr h2 fun yp s2 e=>by cases e;exact⟨(hp rs s' h1).1,rfl⟩⟩
 | lF t hp k ih uX=>
  intro hj
  simp only[pI,pH,ah]at hj
  obtain⟨rs,s',h1,h2⟩:=ih hj.1
  obtain⟨o,h3,h4⟩:=uX rs s' h1 hj.2
  exact⟨o,h3,.lF h2 (fun yp s2 e=>by cases e;exact hp _ _ h1) fun yp s2 e=>by cases e;exact h4⟩
 | skip h=>exact fun _=>⟨_,h,.skip rfl⟩
 | Bu h ih=>intro hj;obtain⟨o,h1,h2⟩:=ih hj;exact⟨o,h1,.Bu h2⟩
 | seq h k hs ih uX=>
  intro hj
  simp only[pI,pH,ah]at hj
  obtain⟨o,h1,h2⟩:=ih hj.1
  cases o with
  | norm s'=>
   obtain⟨o,h3,h4⟩:=uX s' h1 hj.2
   exact⟨o,h3,.seq h2 (fun s2 e=>by cases e;exact h4) fun o e hs=>by cases e;cases hs⟩
  | exit id s'=>exact⟨_,hs _ h1 rfl,.seq h2 (fun s2 e=>by cases e) fun o e hs=>by cases e;rfl⟩
  | ret s'=>exact⟨_,hs _ h1 rfl,.seq h2 (fun s2 e=>by cases e) fun o e hs=>by cases e;rfl⟩
 | @cond c a b s x R hc h ih=>
  intro hj
  simp only[pI,pH,ah]at hj
  obtain⟨o,h1,h2⟩:=ih (by cases x;exact hj.2;exact hj.1)
  exact⟨o,h1,.cond hc h2⟩
 | block h k ih=>
  intro hj
  obtain⟨o,h1,h2⟩:=ih hj
  exact⟨_,k o h1,.block h2 fun o e=>by cases e;rfl⟩
 | loop h ih=>intro hj;obtain⟨o,h1,h2⟩:=ih hj;exact⟨o,h1,.loop h2⟩
 | wj h k hs ih uX=>
  intro hj
  obtain⟨o,h1,h2⟩:=ih hj
  cases o with
  | norm s'=>
   obtain⟨o,h3,h4⟩:=uX s' h1 hj
   exact⟨o,h3,.wj h2 (fun s2 e=>by cases e;exact h4) fun o e hs=>by cases e;cases hs⟩
  | exit id s'=>exact⟨_,hs _ h1 rfl,.wj h2 (fun s2 e=>by cases e) fun o e hs=>by cases e;rfl⟩
  | ret s'=>exact⟨_,hs _ h1 rfl,.wj h2 (fun s2 e=>by cases e) fun o e hs=>by cases e;rfl⟩
 | l5=>intro hj;cases hj
 | exit h=>exact fun _=>⟨_,h,.exit rfl⟩
 | ret h=>exact fun _=>⟨_,h,.ret rfl⟩
 | call own hf hl h k ih=>
  intro hj
  obtain⟨o,h1,h2⟩:=ih (hS _ _ hj hf)
  obtain⟨d,H',h3,h4⟩:=k o h1
  exact⟨d,H',h4,.call own hf hl h2 fun o' e=>by cases e;exact⟨d,H',h3,rfl⟩⟩
end
end Go.AL
namespace Go.AL
open Go
def GK(S:List Nat):Nat→List (Option eI)→Bool
 | _,[]=>true
 | k,a::l=>(bif elem k S then(match a with|some fn=>pH S fn.body|none=>true)else true)&&GK S (k+1) l
theorem Of{S:List Nat}{fn:eI}:∀ {l:List (Option eI)} {k i:Nat},GK S k l=true→nth l i=some fn→elem (k+i) S=true→pH S fn.body=true
 | [],_,_,_,h,_=>by cases h
 | a::l,k,0,h,h2,h3=>by
  simp only[GK,ah]at h
  cases h2
  rw[cc]at h3
  simpa only[h3,cond_true]using h.1
 | a::l,k,i+1,h,h2,h3=>by
  simp only[GK,ah]at h
  exact Of (l:=l) (k:=k+1) (i:=i) h.2 h2 (by rw[a7,cK 1 i];exact h3)
def Wf.one{T:gy}{S:List Nat}(hS:∀ f fn,elem f S=true→T.fn f=some fn→pH S fn.body=true)(hN:∀ f,elem f S=true→T.sort f=none∧T.qB f=false){f:FuncId}{args:List D}{H:U}{K:D→U→Prop}(h:Wf T f args H K)(hf:elem f S=true) :
  ∃ d H',K d H'∧Wf T f args H fun d2 H2=>d2=d∧H2=H':=by
 obtain⟨d,H',⟨d2,H2,e,h1⟩,h2⟩:=afd hS hN h hf
 cases e
 exact⟨d,H',h1,Ev.mono h2 fun r e=>⟨_,_,e,rfl,rfl⟩⟩
end Go.AL
namespace Go.Proofs.YtnaefnajkaohgaaGreatDoor
open Go Go.AL
def Ai:List Nat:=[12,13,14,17,22,24,25,27,32,33,34,35,36,37,38,39,50,51,57,58,59,60,61,62,63,64,65,66,67,68,69,93,94,95,104,105,106,107,108,109,110,111,112,149,150,151,152,153,154,155,156,192,193,194,195,227,228,229,250,251,252,253,254,255,263]
def afx:∀ f fn,elem f Ai=true→T.fn f=some fn→pH Ai fn.body=true:=fun f fn h h2=>
 Of (S:=Ai) (l:=fns) (k:=0) (i:=f) (by kernel_rfl) h2 (by rw[aU];exact h)
def afy:∀ f,elem f Ai=true→T.sort f=none∧T.qB f=false:=fun f h=>by
 by_cases h1:f=87
 ·subst h1;exact absurd h (by decide)
 by_cases h2:f=123
 ·subst h2;exact absurd h (by decide)
 by_cases h3:f=160
 ·subst h3;exact absurd h (by decide)
 refine⟨?_,?_⟩
 ·show(if f=87 then some 5 else if f=123 then some 6 else none)=none
  rw[if_neg h1,if_neg h2]
 ·show Nat.beq f 160=false
  cases hb:Nat.beq f 160 with
  | false=>rfl
  | true=>exact absurd (cS hb) h3
section
variable{f:FuncId}{args:List D}{dst:Option Nat}{s:St}{fn:eI}{R:List Fp}{Q:Rc→St→Prop}
def gQ.q{α:Type}{g:α→D}{P:α→Prop}(hf:T.fn f=some fn)(hp:fn.full=false)(h1:elem f Ai=true)(h:Wf T f args [] (Ex g P))(hc:fu args=true)(hx:∀ r,closed (g r)=true)
  (k:∀ r,P r→Q ⟨R,[]⟩ { s with env:=put s.env dst (g r) }):gQ T f args R dst s Q .mk:=by
 obtain⟨d,H',⟨r,rfl,rfl,hr⟩,h2⟩:=Wf.one afx afy h h1
 exact gQ.c hf hp h2 hc (hx r) (k r hr)
end
def Yv{f:FuncId}{args:List D}{R:List Fp}{dst:Option Nat}{s:St}{Q:Rc→St→Prop}{fn:eI}{α:Type}{g:α→D}{P:α→Prop}(h:Wf T f args [] (Ex g P))(k:∀ r,P r→Q ⟨R,[]⟩ { s with env:=put s.env dst (g r) })
  (hf:T.fn f=some fn:=by exact rfl) (hp:fn.full=false:=by exact rfl) (h1:elem f Ai=true:=by exact rfl) (hc:fu args=true:=by simp) (hx:∀ r,closed (g r)=true:=by intro;simp):gQ T f args R dst s Q .mk:=gQ.q hf hp h1 h hc hx k
end Go.Proofs.YtnaefnajkaohgaaGreatDoor
namespace Go.AL
open Go
abbrev Kn:=Int×Int×Bool
@[irreducible] def fK(x:Kn):List D:=[.i x.1,.i x.2.1,.b x.2.2]
@[simp] theorem zj(x:Kn):fK x = [.i x.1,.i x.2.1,.b x.2.2]:=by unfold fK;rfl
instance:Fl fK 3:=⟨fun _=>by simp,fun _=>by simp[fu]⟩
@[simp] theorem aku(l:List Kn)(a b:Int)(c:Bool):cl fK l ++ [.i a,.i b,.b c]=cl fK (l ++ [(a,b,c)]):=by rw[← pR,zj]
@[simp] theorem akr(l:List Bool)(c:Bool):cl fB l ++ [.b c]=cl fB (l ++ [c]):=by rw[← pR,Kh]
theorem Ot{α:Type}[Inhabited α]{f:α→List D}{sz:Nat}[F:Fl f sz]{l:List α}{n:Int}{j:Nat}(hj:j<sz){P:D→Prop}:oA (cl f l)[n.toNat*sz+j]? P .mk=(n.toNat<l.length∧oA (f (gt l n))[j]? P .mk):=by
 rw[Oq (f:=f) l n.toNat j hj]
 by_cases hn:n.toNat<l.length
 ·rw[List.getElem?_eq_getElem hn]
  have e:gt l n=l[n.toNat]:=by unfold gt;rw[List.getD_eq_getElem?_getD,List.getElem?_eq_getElem hn];rfl
  simp[hn,e]
 ·rw[aO (by omega)];simp[hn]
@[simp] theorem anQ{l:List Kn}{n:Int}{P:D→Prop}:oA (cl fK l)[n.toNat*3+2]? P .mk=(n.toNat<l.length∧P (.b (gt l n).2.2)):=by
 have:=Ot (f:=fK) (l:=l) (n:=n) (j:=2) (by decide) (P:=P)
 simpa using this
@[simp] theorem anP{l:List Bool}{n:Int}{P:D→Prop}:oA (cl fB l)[n.toNat]? P .mk=(n.toNat<l.length∧P (.b (gt l n))):=by
 have:=Ot (f:=fB) (l:=l) (n:=n) (j:=0) (by decide) (P:=P)
 simpa using this
def Ol{l:List Kn}{n:Int}(h:n.toNat<l.length):(cl fK l).drop (n.toNat*3)=fK (gt l n)++cl fK (l.drop (n.toNat+1)):=by
 rw[te,bR h,mY]
 congr 1
 unfold gt;rw[List.getD_eq_getElem?_getD,List.getElem?_eq_getElem h];rfl
def Up{l:List Kn}{n:Int}(h:n.toNat<l.length)(a b:Int):(cl fK l).take (n.toNat*3) ++ .i a :: .i b::(cl fK l).drop (n.toNat*3+2)=cl fK (pt l n (a,b,(gt l n).2.2)):=by
 have e:(cl fK l).drop (n.toNat*3+2) = .b (gt l n).2.2::cl fK (l.drop (n.toNat+1)):=by
  rw[← cU,Ol h,zj];rfl
 rw[e,tf]
 unfold pt
 rw[← zb,mY,zj]
 rfl
@[simp] theorem amT{l:List Kn}{t:TypeId}{n:Int}:tI 2 (n.toNat*3) (some (t,cl fK l))=if n.toNat<l.length then some (.agg [.i (gt l n).1,.i (gt l n).2.1])else none:=by
 unfold tI
 dsimp only
 by_cases h:n.toNat<l.length
 ·rw[if_pos h,if_pos (by rw[xa];omega),Ol h,zj];rfl
 ·rw[if_neg h,if_neg (by rw[xa];omega)]
def GO{α:Type}{f:α→List D}{sz:Nat}[F:Fl f sz](l:List α)(n:Int)(h1:n.toNat<l.length)(a:α):(cl f l).take (n.toNat*sz)++(f a++(cl f l).drop (n.toNat*sz+sz))=cl f (pt l n a):=by
 have:=Uu (f:=f) l n.toNat a h1
 rw[bj]at this
 exact this
theorem Dc{α:Type}{f:α→List D}(a:α):∀ n:Nat,(List.replicate n (f a)).flatten=cl f (List.replicate n a)
 | 0=>by simp
 | n+1=>by rw[bK,aL,Dc a n,bK,mY]
@[simp] theorem afB(b:Bool)(n:Nat):(List.replicate n [D.b b]).flatten=cl fB (List.replicate n b):=by rw[← Dc,Kh]
@[simp] theorem afC(b:Int)(n:Nat):(List.replicate n [D.i b]).flatten=cl f1 (List.replicate n b):=by rw[← Dc,vK]
@[simp] theorem apg(a b:Int)(n:Nat):(List.replicate n [D.i a,D.i b]).flatten=cl fS (List.replicate n (a,b)):=by rw[← Dc,uC]
@[simp] theorem ape(b:Bool)(n:Nat):List.replicate n (D.b b)=cl fB (List.replicate n b):=by rw[← afB];simp
@[simp] theorem apf(b:Int)(n:Nat):List.replicate n (D.i b)=cl f1 (List.replicate n b):=by rw[← afC];simp
def rA(l:List Bool):Nat:=l.countP fun b => !b
def Sg{α:Type}[Inhabited α]{l:List α}{n:Int}{a b:α}(h0:0≤n)(h:n<l.length:=by omega):pt (pt l n a) n b=pt l n b:=by
 rw[C1 (l:=pt l n a) h0 (by rw[gN h0 h];exact h),C1 h0 h,C1 h0 h,List.set_set]
def VY{l:List Bool}{n:Int}(h0:0≤n)(h:n<l.length)(hf:gt l n=false)(b:Bool):rA (pt l n b)+(if b then 1 else 0)=rA l:=by
 have e:l=l.take n.toNat++gt l n::l.drop (n.toNat+1):=by
  rw[← lQ h0 h,bC]
 unfold pt
 conv=>rhs;rw[e]
 unfold rA
 rw[cy,cy,cu,cu,hf]
 cases b<;>simp<;>omega
end Go.AL
namespace Go.Proofs.YtnaefnajkaohgaaGreatDoor
open Go Go.AL Classical
set_option maxRecDepth 10000
set_option maxHeartbeats 1000000
structure jo(g:eH)(l:List Pos):Prop where
 tW:jM l
 ok:∀ q∈l,fO g q
 cl:∀ q∈l,∀ m,pj g q m→m∈l
 len:l.length≤4000
def DM.c2{g:eH}{l:List Pos}(h:DM g l):jo g l:=⟨h.tW,h.ok,h.cl,by have:=h.len;omega⟩
noncomputable def eS(g:eH)(l:List Pos):List (List Int):=l.map fun p=>(gR g p).map (oe l)
def f37(g:eH)(hg:fe g)(l:List Pos)(hl:jo g l):Wf T 37 [dG g,e7 l] [] (Is (.tup [.sl 1 ((eS g l).map fI),.b true])):=by
 have hlen:=hl.len
 have jB:∀ q∈l,Small q:=fun q hq=>(hl.ok q hq).small hg
 refine Yz AV (gL 59 [2] AV.body) ?_
 simp[AV,gL,jg,lD,lH,lS,ku]
 (with_reducible repeat' first|refine Xk ?_<;>try simp|refine Xs ?_ ?_<;>intro h<;>(try intro h')<;>(try simp[h])<;>try omega|refine Xg ?_|omega)
 refine Yc (f64 l (by omega) jB) ?_
 simp
 have hs:=hl.tW
 (with_reducible repeat' first|refine Xk ?_<;>try simp|refine Xs ?_ ?_<;>intro h<;>(try intro h')<;>(try simp[h])<;>try omega|refine Xg ?_|omega)
 refine eN.e ((0,0,[]):Int×Nat×List (List Int)) (fun y=>[(1,e7 l),(2,.ptr 0 0 0),(6,.eF 1 y.2.1 1 0 y.2.2.length),(7,.i y.1)]) (fun y=>[.row 41 0 g.cells,.row 33 y.2.1 (cl fI y.2.2)]) (fun y=>0≤y.1∧y.1≤l.length∧y.2.2=(l.take y.1.toNat).map fun p=>(gR g p).map (oe l)) (fun y=>l.length-y.1.toNat) ?_ ?_
 ·simp
 rintro⟨i,gn,out⟩ ⟨i0,i1,i2⟩
 dsimp only at i0 i1 i2 ⊢
 simp
 have zJ:out.length≤4000:=by rw[i2];simp;omega
 (with_reducible repeat' first|refine Xk ?_<;>try simp|refine Xs ?_ ?_<;>intro h<;>(try intro h')<;>(try simp[h])<;>try omega|refine Xg ?_|omega)
 ·have hp:=hl.ok _ (eQ i0 ‹_›)
  refine Yt (f65 g _ hg hp) ?_
  simp
  (with_reducible repeat' first|refine Xk ?_<;>try simp|refine Xs ?_ ?_<;>intro h<;>(try intro h')<;>(try simp[h])<;>try omega|refine Xg ?_|omega)
  refine Yt (f60 g hg _ hp) ?_
  simp
  have Qf:=tN hg hp
  have kz:∀ q∈gR g (gt l i),q∈l:=fun q hq=>hl.cl _ (eQ i0 ‹_›) q (x9.1 hq)
  refine eN.e ((0,0,[]):Int×Nat×List Int) (fun y=>[(1,e7 l),(2,.ptr 0 0 0),(6,.eF 1 gn 1 0 out.length),(7,.i i),(8,q5 g (gt l i)),(9,.eF 2 y.2.1 1 0 y.2.2.length),(10,.i y.1)]) (fun y=>[.row 41 0 g.cells,.row 33 gn (cl fI out),.row 3 y.2.1 (cl f1 y.2.2)]) (fun y=>0≤y.1∧y.1≤(gR g (gt l i)).length∧y.2.2=((gR g (gt l i)).take y.1.toNat).map (oe l)) (fun y=>(gR g (gt l i)).length-y.1.toNat) ?_ ?_
  ·simp
  rintro⟨j,gm,row⟩ ⟨j0,j1,j2⟩
  dsimp only at j0 j1 j2 ⊢
  have ie:row.length≤j.toNat:=by rw[j2];simp;omega
  simp
  (with_reducible repeat' first|refine Xk ?_<;>try simp|refine Xs ?_ ?_<;>intro h<;>(try intro h')<;>(try simp[h])<;>try omega|refine Xg ?_|omega)
  ·have hm:=kz _ (eQ j0 ‹_›)
   refine Yc (f27 l _ (by omega) jB (jB _ hm) hs) ?_
   simp
   have hf:=BI hm
   (with_reducible repeat' first|refine Xk ?_<;>try simp|refine Xs ?_ ?_<;>intro h<;>(try intro h')<;>(try simp[h])<;>try omega|refine Xg ?_|omega)
   refine LJ.e (j+1,gm+1,row ++ [oe l (gt (gR g (gt l i)) j)]) ?_
   dsimp only
   refine eY ?_
   rw[gx j0 ‹_›,List.map_append,j2];rfl
  ·(with_reducible repeat' first|refine Xk ?_<;>try simp|refine Xs ?_ ?_<;>intro h<;>(try intro h')<;>(try simp[h])<;>try omega|refine Xg ?_|omega)
   refine LJ.e (i+1,gn+1,out ++ [row]) ?_
   dsimp only
   refine eY ?_
   rw[gx i0 ‹_›,List.map_append,i2]
   rw[jh (by omega)]at j2
   rw[j2];rfl
 ·rw[i2,jh (by omega)];rfl
noncomputable def qh(g:eH)(p:Pos):Kn:=((stat g p).1,0,(stat g p).2)
def VR(g:eH)(hg:fe g)(l:List Pos)(hl:jo g l):Wf T 66 [dG g,e7 l] [] (fun d H=>d = .eF 0 l.length 3 0 l.length∧H = [.row 134 l.length (cl fK (l.map (qh g)))]):=by
 have hlen:=hl.len
 refine Wf.xo 1 (fn:=AZ) rfl (by simp[AZ]) ?_
 simp[AZ]
 refine eN.e ((0,[]):Int×List Kn) (fun y=>[(1,e7 l),(2,.ptr 0 0 0),(5,.eF 1 y.2.length 3 0 y.2.length),(6,.i y.1)]) (fun y=>[.row 41 0 g.cells,.row 134 y.2.length (cl fK y.2)]) (fun y=>0≤y.1∧y.1≤l.length∧y.2=(l.take y.1.toNat).map (qh g)) (fun y=>l.length-y.1.toNat) ?_ ?_
 ·simp
 rintro⟨i,out⟩ ⟨i0,i1,i2⟩
 dsimp only at i0 i1 i2 ⊢
 have zJ:out.length=i.toNat:=by rw[i2];simp;omega
 simp
 (with_reducible repeat' first|refine Xk ?_<;>try simp|refine Xs ?_ ?_<;>intro h<;>(try intro h')<;>(try simp[h])<;>try omega|refine Xg ?_|omega)
 ·refine Yt (f112 g hg _ (hl.ok _ (eQ i0 ‹_›))) ?_
  simp
  (with_reducible repeat' first|refine Xk ?_<;>try simp|refine Xs ?_ ?_<;>intro h<;>(try intro h')<;>(try simp[h])<;>try omega|refine Xg ?_|omega)
  refine LJ.i (i+1,out ++ [qh g (gt l i)]) (by first|rfl|simp[qh]) (by first|rfl|simp[qh]) rfl rfl ?_
  dsimp only
  refine eY ?_
  rw[gx i0 ‹_›,List.map_append,i2];rfl
 ·have e:out=l.map (qh g):=by rw[i2,jh (by omega)]
  have e2:out.length=l.length:=by rw[e];simp
  rw[← e]
def mB{g:eH}{l:List Pos}(hl:jo g l){i:Int}(h0:0≤i)(h1:i<l.length):gt (eS g l) i=(gR g (gt l i)).map (oe l)∧∀ k∈gt (eS g l) i,0≤k∧k<l.length:=by
 have e:gt (eS g l) i=(gR g (gt l i)).map (oe l):=by
  unfold eS gt
  simp only[List.getD_eq_getElem?_getD,av]
  rw[List.getElem?_eq_getElem (by omega)]
  rfl
 refine⟨e,fun k hk=>?_⟩
 rw[e]at hk
 obtain⟨q,hq,rfl⟩:=ao.1 hk
 have:=BI (hl.cl _ (eQ h0 h1) q (x9.1 hq))
 exact⟨this.1,this.2.1⟩
def f69(o s:Int)(hs:0≤s∧s≤1):Wf T 69 [.i o,.i s] [] (Is (.i (if o=1 then s else if o=3 then 1-s else -1))):=by
 refine Yg FY ?_
 simp[FY]
 (with_reducible repeat' first|refine Xk ?_<;>try simp|refine Xs ?_ ?_<;>intro h<;>(try intro h')<;>(try simp[h])<;>try omega|refine Xg ?_|omega)
 all_goals simp[*]
def f68(g:eH)(hg:fe g)(l:List Pos)(hl:jo g l)(side:Int)(ik:0≤side∧side≤1:=by omega):Wf T 68 [dG g,e7 l,.sl 1 ((eS g l).map fI),.i side] [] (Ey (fun r:List Bool=>.sl 1 (r.map fB)) fun r=>r.length=l.length):=by
 have hlen:=hl.len
 have tw:(eS g l).length=l.length:=by simp[eS]
 have xP:=fun(i:Int) (a:0≤i) (b:i<l.length)=>mB hl a b
 have qO:∀ i:Int,0≤i→i<l.length→(gt (eS g l) i).length≤4000000000:=fun i a b=>by
  rw[(xP i a b).1,List.length_map]
  exact tN hg (hl.ok _ (eQ a b))
 refine Yg FX ?_
 simp[FX]
 (with_reducible repeat' first|refine Xk ?_<;>try simp|refine Xs ?_ ?_<;>intro h<;>(try intro h')<;>(try simp[h])<;>try omega|refine Xg ?_|omega)
 refine eN.e ((List.replicate l.length false,true):List Bool×Bool) (fun y=>[(1,e7 l),(2,.sl 1 ((eS g l).map fI)),(3,.i side),(4,.ptr 0 0 0),(9,.eF 1 0 1 0 l.length),(10,.b y.2)]) (fun y=>[.row 41 0 g.cells,.row 4 0 (cl fB y.1)]) (fun y=>y.1.length=l.length) (fun y=>2*rA y.1+(if y.2 then 1 else 0)) ?_ ?_
 ·simp
 rintro⟨o0,ch⟩ h0
 dsimp only at h0 ⊢
 cases ch
 ·simp[h0]
  exact Ey.i o0 rfl rfl h0
 simp
 refine eN.e ((0,o0,false):Int×List Bool×Bool) (fun y=>[(1,e7 l),(2,.sl 1 ((eS g l).map fI)),(3,.i side),(4,.ptr 0 0 0),(9,.eF 1 0 1 0 l.length),(10,.b y.2.2),(11,.i y.1)]) (fun y=>[.row 41 0 g.cells,.row 4 0 (cl fB y.2.1)]) (fun y=>0≤y.1∧y.1≤l.length∧y.2.1.length=l.length∧rA y.2.1≤rA o0∧(y.2.2=true→rA y.2.1<rA o0)) (fun y=>l.length-y.1.toNat) ?_ ?_
 ·simpa using h0
 rintro⟨i,w,ch⟩ ⟨i0,i1,i2,i3,i4⟩
 dsimp only at i0 i1 i2 i3 i4 ⊢
 by_cases hi:i<l.length
 ·have hp:=hl.ok _ (eQ i0 hi)
  simp[hi]
  (with_reducible repeat' first|refine Xk ?_<;>try simp|refine Xs ?_ ?_<;>intro h<;>(try intro h')<;>(try simp[h])<;>try omega|refine Xg ?_|omega)
  ·refine LJ.e (i+1,w,ch) ?_
   dsimp only
   exact eY ⟨i2,i3,i4⟩
  ·refine Yt (f112 g hg _ hp) ?_
   simp
   have qo:=h
   refine eN.e ((0,false,true):Int×Bool×Bool) (fun y=>[(1,e7 l),(2,.sl 1 ((eS g l).map fI)),(3,.i side),(4,.ptr 0 0 0),(9,.eF 1 0 1 0 l.length),(10,.b ch),(11,.i i),(12,.ptr 2 0 0),(13,.b y.2.1),(14,.b y.2.2),(15,.i y.1)]) (fun y=>[.row 41 0 g.cells,.row 4 0 (cl fB w),.row 189 0 [.i (stat g (gt l i)).1,.b (stat g (gt l i)).2]]) (fun y=>0≤y.1∧y.1≤(gt (eS g l) i).length) (fun y=>(gt (eS g l) i).length-y.1.toNat) ?_ ?_
   ·simp
   rintro⟨k,sm,al⟩ ⟨k0,k1⟩
   dsimp only at k0 k1 ⊢
   by_cases hk:k<(gt (eS g l) i).length
   ·have hx:=(xP i i0 hi).2 _ (eQ k0 hk)
    have hb:=qO i i0 hi
    generalize Y2:gt (gt (eS g l) i) k=x at *
    cases sm<;>cases al<;>simp[hi,hk,Y2]<;>(with_reducible repeat' first|refine Xk ?_<;>try simp|refine Xs ?_ ?_<;>intro h<;>(try intro h')<;>(try simp[h])<;>try omega|refine Xg ?_|omega)
    ·refine LJ.e (k+1,gt w x,false) ?_
     dsimp only;omega
    ·refine LJ.e (k+1,gt w x,gt w x) ?_
     dsimp only;omega
    ·refine LJ.e (k+1,true,false) ?_
     dsimp only;omega
    ·refine LJ.e (k+1,true,gt w x) ?_
     dsimp only;omega
   ·have gK:∀ v,(pt w i v).length=w.length:=fun v=>gN i0 (by omega)
    have qQ:∀ v,gt (pt w i v) i=v:=fun v=>xv i0 (by omega)
    have fin:∀ b:Bool,0≤i+1∧i+1≤l.length∧(pt w i b).length=l.length∧rA (pt w i b)≤rA o0∧((ch||b)=true→rA (pt w i b)<rA o0):=fun b=>by
     have h1:=VY i0 (by omega) qo b
     refine⟨by omega,by omega,by rw[gK];exact i2,by omega,fun h2=>?_⟩
     cases b
     ·simp at h2 h1;have:=i4 h2;omega
     ·simp at h1;omega
    cases ch
    ·simp[hi,hk]
     have fin:∀ b:Bool,_:=fin
     (with_reducible repeat' first|refine Xk ?_<;>try simp[gK,qQ]|refine Xs ?_ ?_<;>intro h<;>(try intro h')<;>(try simp[h,gK,qQ])<;>try omega|refine Xg ?_|omega)
     ·refine Yt (f69 (stat g (gt l i)).1 _ hp.side) ?_
      simp[gK,qQ]
      (with_reducible repeat' first|refine Xk ?_<;>try simp[gK,qQ]|refine Xs ?_ ?_<;>intro h<;>(try intro h')<;>(try simp[h,gK,qQ])<;>try omega|refine Xg ?_|omega)
      refine LJ.e (i+1,pt w i (!decide ((if (stat g (gt l i)).1=1 then(gt l i).side else if (stat g (gt l i)).1=3 then 1-(gt l i).side else -1)=1-side)),false || !decide ((if (stat g (gt l i)).1=1 then(gt l i).side else if (stat g (gt l i)).1=3 then 1-(gt l i).side else -1)=1-side)) ?_
      exact nj (fin _)
     ·refine LJ.e (i+1,pt w i sm,false||sm) ?_
      exact nj (fin _)
     ·refine LJ.e (i+1,pt w i al,false||al) ?_
      exact nj (fin _)
    ·simp[hi,hk]
     have fin:∀ b:Bool,_:=fin
     (with_reducible repeat' first|refine Xk ?_<;>try simp[gK,qQ]|refine Xs ?_ ?_<;>intro h<;>(try intro h')<;>(try simp[h,gK,qQ])<;>try omega|refine Xg ?_|omega)
     ·refine Yt (f69 (stat g (gt l i)).1 _ hp.side) ?_
      simp[gK,qQ]
      (with_reducible repeat' first|refine Xk ?_<;>try simp[gK,qQ]|refine Xs ?_ ?_<;>intro h<;>(try intro h')<;>(try simp[h,gK,qQ])<;>try omega|refine Xg ?_|omega)
      refine LJ.e (i+1,pt w i (!decide ((if (stat g (gt l i)).1=1 then(gt l i).side else if (stat g (gt l i)).1=3 then 1-(gt l i).side else -1)=1-side)),true || !decide ((if (stat g (gt l i)).1=1 then(gt l i).side else if (stat g (gt l i)).1=3 then 1-(gt l i).side else -1)=1-side)) ?_
      exact nj (fin _)
     ·refine LJ.e (i+1,pt w i sm,true||sm) ?_
      exact nj (fin _)
     ·refine LJ.e (i+1,pt w i al,true||al) ?_
      exact nj (fin _)
 ·simp[hi]
  refine LJ.e (w,ch) ?_
  dsimp only
  refine⟨?_,i2⟩
  cases ch
  ·simp;omega
  ·have:=i4 rfl
   simp;omega
def f39(g:eH)(hg:fe g)(l:List Pos)(hl:jo g l)(v:List eO)(hv:v.length=l.length):Wf T 39 [dG g,e7 l,.sl 1 ((eS g l).map fI),fh v] [] (Ey dI fun _=>True):=by
 have hlen:=hl.len
 refine Yg FD ?_
 simp[FD]
 refine eN.e ((0,[]):Int×List Int) (fun y=>[(1,e7 l),(2,.sl 1 ((eS g l).map fI)),(3,fh v),(4,.ptr 0 0 0),(9,.eF 1 y.2.length 1 0 y.2.length),(10,.i y.1)]) (fun y=>[.row 41 0 g.cells,.row 3 y.2.length (cl f1 y.2)]) (fun y=>0≤y.1∧y.1≤v.length∧y.2.length=y.1.toNat) (fun y=>v.length-y.1.toNat) ?_ ?_
 ·simp
 rintro⟨i,w⟩ ⟨i0,i1,i2⟩
 dsimp only at i0 i1 i2 ⊢
 simp
 (with_reducible repeat' first|refine Xk ?_<;>try simp|refine Xs ?_ ?_<;>intro h<;>(try intro h')<;>(try simp[h])<;>try omega|refine Xg ?_|omega)
 ·refine LJ.e (i+1,w ++ [(gt v i).1]) ?_
  exact eY (by simp;omega)
 ·exact Ey.i w rfl rfl trivial
 ·have c:=f68 g hg l hl 0
  simp only[dG,eH.cells]at c
  rw[h]at c
  refine fg.q rfl rfl c (by simp) (fun r=>by simp[Bo]) ?_
  intro r hr
  simp
  refine eN.e ((0,w):Int×List Int) (fun y=>[(1,e7 l),(3,fh v),(9,.eF 1 w.length 1 0 w.length),(11,.i 1),(12,.sl 1 (r.map fB)),(13,.i y.1)]) (fun y=>[.row 41 0 g.cells,.row 3 w.length (cl f1 y.2)]) (fun y=>0≤y.1∧y.1≤l.length∧y.2.length=w.length) (fun y=>l.length-y.1.toNat) ?_ ?_
  ·simp
  rintro⟨j,u⟩ ⟨j0,j1,j2⟩
  dsimp only at j0 j1 j2 ⊢
  by_cases hj:j<l.length
  ·have gK:∀ x:Int,(pt u j x).length=u.length:=fun x=>gN j0 (by omega)
   have vZ:∀ x y:Int,pt (pt u j x) j y=pt u j y:=fun x y=>Sg j0
   have hp:=hl.ok _ (eQ j0 hj)
   simp[hj]
   (with_reducible repeat' first|refine Xk ?_<;>try simp|refine Xs ?_ ?_<;>intro h<;>(try intro h')<;>(try simp[h])<;>try omega|refine Xg ?_|omega)
   refine Yt (f69 (gt v j).1 _ hp.side) ?_
   simp[gK,vZ]
   (with_reducible repeat' first|refine Xk ?_<;>try simp[gK,vZ]|refine Xs ?_ ?_<;>intro h<;>(try intro h')<;>(try simp[h,gK,vZ])<;>try omega|refine Xg ?_|omega)
   all_goals first
    | (refine LJ.i (j+1,u) rfl rfl rfl rfl (eY (by first|exact j2|(dsimp only;rw[gK];exact j2)));done)
    | (refine LJ.i (j+1,pt u j 2) rfl rfl rfl rfl (eY (by first|exact j2|(dsimp only;rw[gK];exact j2)));done)
    | (refine LJ.i (j+1,pt u j 1) rfl rfl rfl rfl (eY (by first|exact j2|(dsimp only;rw[gK];exact j2)));done)
    | (refine LJ.i (j+1,pt u j 3) rfl rfl rfl rfl (eY (by first|exact j2|(dsimp only;rw[gK];exact j2)));done)
  ·simp[hj]
   exact Ey.i u (by simp[j2]) rfl trivial
 ·have c:=f68 g hg l hl 1
  simp only[dG,eH.cells]at c
  refine fg.q rfl rfl c (by simp) (fun r=>by simp[Bo]) ?_
  intro r hr
  simp
  refine eN.e ((0,w):Int×List Int) (fun y=>[(1,e7 l),(3,fh v),(9,.eF 1 w.length 1 0 w.length),(11,.i 0),(12,.sl 1 (r.map fB)),(13,.i y.1)]) (fun y=>[.row 41 0 g.cells,.row 3 w.length (cl f1 y.2)]) (fun y=>0≤y.1∧y.1≤l.length∧y.2.length=w.length) (fun y=>l.length-y.1.toNat) ?_ ?_
  ·simp
  rintro⟨j,u⟩ ⟨j0,j1,j2⟩
  dsimp only at j0 j1 j2 ⊢
  by_cases hj:j<l.length
  ·have gK:∀ x:Int,(pt u j x).length=u.length:=fun x=>gN j0 (by omega)
   have vZ:∀ x y:Int,pt (pt u j x) j y=pt u j y:=fun x y=>Sg j0
   have hp:=hl.ok _ (eQ j0 hj)
   simp[hj]
   (with_reducible repeat' first|refine Xk ?_<;>try simp|refine Xs ?_ ?_<;>intro h<;>(try intro h')<;>(try simp[h])<;>try omega|refine Xg ?_|omega)
   refine Yt (f69 (gt v j).1 _ hp.side) ?_
   simp[gK,vZ]
   (with_reducible repeat' first|refine Xk ?_<;>try simp[gK,vZ]|refine Xs ?_ ?_<;>intro h<;>(try intro h')<;>(try simp[h,gK,vZ])<;>try omega|refine Xg ?_|omega)
   all_goals first
    | (refine LJ.i (j+1,u) rfl rfl rfl rfl (eY (by first|exact j2|(dsimp only;rw[gK];exact j2)));done)
    | (refine LJ.i (j+1,pt u j 2) rfl rfl rfl rfl (eY (by first|exact j2|(dsimp only;rw[gK];exact j2)));done)
    | (refine LJ.i (j+1,pt u j 1) rfl rfl rfl rfl (eY (by first|exact j2|(dsimp only;rw[gK];exact j2)));done)
    | (refine LJ.i (j+1,pt u j 3) rfl rfl rfl rfl (eY (by first|exact j2|(dsimp only;rw[gK];exact j2)));done)
  ·simp[hj]
   exact Ey.i u (by simp[j2]) rfl trivial
