/- Part 15 of the proof of skewer.skewerlaw15.TableAgain. -/
import Derived.Test.YtnaefnajkaohgaaGreatDoorD14
import Derived.Test.YtnaefnajkaohgaaGreatDoorD06
import Derived.Test.YtnaefnajkaohgaaGreatDoorD07
import Derived.Test.YtnaefnajkaohgaaGreatDoorD12
set_option linter.all false
namespace Go.Proofs.YtnaefnajkaohgaaGreatDoor
open Go Go.AL Classical
set_option maxRecDepth 10000
set_option maxHeartbeats 1000000
theorem Ml{g:eO}{p:Pos}(h:¬ ended g p){r:List Pos}(hs:iZ r)(hm:∀ q,q∈r↔mU g p q):fW r=qx g p:=by
 unfold qx;rw[if_neg h,JJ hs hm]
theorem f60(g:eO)(hg:fi g)(p:Pos)(hp:fF g p):Wf T 60 [dG g,dP p] [] (Is (qx g p)):=by
 refine Yz yA (gH 66 [2] yA.body) ?_
 simp[yA,gH,iJ,kU,kX,lr,jN]
 refine Yc (f106 g hg p hp) ?_
 simp
 (with_reducible repeat' first|refine Xk ?_<;>try simp|refine Xs ?_ ?_<;>intro h<;>(try intro h')<;>(try simp[h])<;>(try omega)|refine Xg ?_|omega)
 ·unfold qx;rw[if_pos (Mv.1 ‹_›)]
 have fY:¬ ended g p:=fun h2=>h (Mv.2 h2)
 refine Yq (f107 g hg p hp) fun l hl=>?_
 simp
 have gS:=hl.2
 refine eW.e ((0,false):Int×Bool) (fun y=>[(2,.ptr 0 0 0),(3,.ptr 1 0 0),(5,lj l),(6,.eN 2 0 5 0 0),(7,.b y.2),(8,.i y.1)]) (fun y=>[.row 41 0 g.cells,.row 44 0 p.cells,.row 44 0 []]) (fun y=>0≤y.1∧y.1≤l.length∧(y.2=true↔g.kS=true∧∃ o∈l.take y.1.toNat,o.ig=true)) (fun y=>l.length-y.1.toNat) ?_ ?_
 ·simp
 rintro⟨i,kS⟩ ⟨h0,h1,h2⟩
 dsimp only at h0 h1 h2 ⊢
 by_cases pL:i<l.length
 ·have e:∀ o,o∈l.take (i+1).toNat↔o∈l.take i.toNat∨o=gt l i:=fun o=>by rw[gx h0 pL,List.mem_append,List.mem_singleton]
  cases mw:g.kS<;>cases kS<;>simp[mw,pL]
  ·(with_reducible repeat' first|refine Xk ?_<;>try simp|refine Xs ?_ ?_<;>intro h<;>(try intro h')<;>(try simp[h])<;>(try omega)|refine Xg ?_|omega)
   refine LJ.i (i+1,false) (by first|rfl|simp[mw]) (by first|rfl|simp[mw]) rfl rfl ?_
   dsimp only
   exact⟨by omega,by omega,by omega,by simp[mw]⟩
  ·simp[mw]at h2
  ·(with_reducible repeat' first|refine Xk ?_<;>try simp|refine Xs ?_ ?_<;>intro h<;>(try intro h')<;>(try simp[h])<;>(try omega)|refine Xg ?_|omega)
   refine LJ.i (i+1,(gt l i).ig) (by first|rfl|simp[mw]) (by first|rfl|simp[mw]) rfl rfl ?_
   dsimp only
   refine⟨by omega,by omega,by omega,?_⟩
   simp[mw]at h2 ⊢
   constructor
   ·intro h;exact⟨_,(e _).2 (.inr rfl),h⟩
   ·rintro⟨o,ho,h⟩
    rcases(e o).1 ho with ho|ho
    ·exact absurd h (by simpa using h2 o ho)
    ·rw[← ho];exact h
  ·(with_reducible repeat' first|refine Xk ?_<;>try simp|refine Xs ?_ ?_<;>intro h<;>(try intro h')<;>(try simp[h])<;>(try omega)|refine Xg ?_|omega)
   refine LJ.i (i+1,true) (by first|rfl|simp[mw]) (by first|rfl|simp[mw]) rfl rfl ?_
   dsimp only
   refine⟨by omega,by omega,by omega,?_⟩
   simp[mw]at h2 ⊢
   obtain⟨o,ho,h⟩:=h2
   exact⟨o,(e o).2 (.inl ho),h⟩
 ·simp[pL]
  rw[jg (by omega)]at h2
  refine eW.e ((0,0,[]):Int×Nat×List Pos) (fun y=>[(2,.ptr 0 0 0),(3,.ptr 1 0 0),(5,lj l),(6,.eN 2 y.2.1 5 0 y.2.2.length),(7,.b kS),(9,.i y.1)]) (fun y=>[.row 41 0 g.cells,.row 44 0 p.cells,.row 44 y.2.1 (cl Pos.cells y.2.2)]) (fun y=>0≤y.1∧y.1≤l.length∧(∀ q,q∈y.2.2↔∃ o∈l.take y.1.toNat,(kS=true→o.ig=true)∧o.p=q)∧y.2.2.length≤y.1.toNat) (fun y=>l.length-y.1.toNat) ?_ ?_
  ·simp
  rintro⟨j,gn,out⟩ ⟨j0,j1,j2,j3⟩
  dsimp only at j0 j1 j2 j3 ⊢
  by_cases l7:j<l.length
  ·have e:∀ o,o∈l.take (j+1).toNat↔o∈l.take j.toNat∨o=gt l j:=fun o=>by rw[gx j0 l7,List.mem_append,List.mem_singleton]
   simp[l7]
   cases kS<;>simp
   ·(with_reducible repeat' first|refine Xk ?_<;>try simp|refine Xs ?_ ?_<;>intro h<;>(try intro h')<;>(try simp[h])<;>(try omega)|refine Xg ?_|omega)
    refine LJ.e (j+1,gn+1,out ++ [(gt l j).p]) ?_
    dsimp only
    refine⟨by omega,by omega,by omega,fun q=>?_,by simp;omega⟩
    rw[List.mem_append,List.mem_singleton,j2]
    simp only[e]
    constructor
    ·rintro(⟨o,a,b⟩|a)
     ·exact⟨o,.inl a,b⟩
     ·exact⟨_,.inr rfl,(fun h=>by cases h),a.symm⟩
    ·rintro⟨o,a|a,b,d⟩
     ·exact .inl ⟨o,a,b,d⟩
     ·subst a;exact .inr d.symm
   ·(with_reducible repeat' first|refine Xk ?_<;>try simp|refine Xs ?_ ?_<;>intro h<;>(try intro h')<;>(try simp[h])<;>(try omega)|refine Xg ?_|omega)
    ·skip
     refine LJ.e (j+1,gn+1,out ++ [(gt l j).p]) ?_
     dsimp only
     refine⟨by omega,by omega,by omega,fun q=>?_,by simp;omega⟩
     rw[List.mem_append,List.mem_singleton,j2]
     simp only[e]
     constructor
     ·rintro(⟨o,a,b⟩|a)
      ·exact⟨o,.inl a,b⟩
      ·exact⟨_,.inr rfl,(fun _ => ‹_›),a.symm⟩
     ·rintro⟨o,a|a,b,d⟩
      ·exact .inl ⟨o,a,b,d⟩
      ·subst a;exact .inr d.symm
    ·refine LJ.e (j+1,gn,out) ?_
     dsimp only
     refine⟨by omega,by omega,by omega,fun q=>?_,by omega⟩
     rw[j2]
     simp only[e]
     constructor
     ·rintro⟨o,a,b⟩
      exact⟨o,.inl a,b⟩
     ·rintro⟨o,a|a,b,d⟩
      ·exact⟨o,a,b,d⟩
      ·subst a;have:=b trivial;simp_all
  ·simp[l7]
   rw[jg (by omega)]at j2
   have tR:∀ q∈out,Small q:=fun q hq=>by
    obtain⟨o,a,_,rfl⟩:=(j2 q).1 hq
    exact(FV hg hp ((hl.1 o).1 a)).small hg
   cases kS<;>simp
   ·have hm:¬ (g.kS=true∧∃ o∈mE g p,o.ig=true):=by
     simp only[← hl.1]
     exact fun h=>by have:=h2.2 h;cases this
    refine Yq (f108 g hg p hp) fun dr Nn=>?_
    simp
    (with_reducible repeat' first|refine Xk ?_<;>try simp|refine Xs ?_ ?_<;>intro h<;>(try intro h')<;>(try simp[h])<;>(try omega)|refine Xg ?_|omega)
    refine Yq (f61 (out++dr) (by simp;omega) (fun q hq=>(List.mem_append.1 hq).elim (tR q) (fun h=>Mr hg hp ((Nn.2.2 q).1 h)))) fun r hr=>?_
    simp
    refine Ml fY hr.1 fun q=>?_
    rw[hr.2.2,List.mem_append,Nn.2.2,j2]
    unfold mU
    rw[if_neg hm]
    simp only[AG fY,hl.1]
    simp
    exact fun _ c hc=>AG fY c hc
   ·have hm:=h2.1 rfl
    refine Yq (f61 out (by omega) tR) fun r hr=>?_
    simp
    refine Ml fY hr.1 fun q=>?_
    rw[hr.2.2,j2]
    unfold mU
    simp only[hl.1]at hm ⊢
    rw[if_pos hm]
    constructor
    ·rintro⟨o,a,b,rfl⟩
     have:=b trivial
     refine⟨AG fY,?_⟩
     cases o;simp_all
    ·rintro⟨_,a⟩
     exact⟨_,a,fun _=>rfl,rfl⟩
set_option maxRecDepth 10000
set_option maxHeartbeats 1000000
theorem f58(g:eO)(hg:fi g)(p:Pos)(hp:fF g p)(l:List Int)(hl:l.length≤100)(h0:∀ n∈l,0≤n∧n<256):Wf T 58 [dG g,dP p,dI l] [] (Ey fW fun r=>(0<r.length∧r.length≤101)∧∀ q∈r,fF g q):=by
 refine Yg C8 ?_
 simp[C8]
 refine eW.e ((0,p,0,[p]):Int×Pos×Nat×List Pos) (fun y=>[(2,dI l),(3,.ptr 0 0 0),(4,.ptr 1 0 0),(7,.eN 2 y.2.2.1 5 0 y.2.2.2.length),(8,.i y.1)]) (fun y=>[.row 41 0 g.cells,.row 44 0 y.2.1.cells,.row 44 y.2.2.1 (cl Pos.cells y.2.2.2)]) (fun y=>0≤y.1∧y.1≤l.length∧fF g y.2.1∧(0<y.2.2.2.length∧y.2.2.2.length≤y.1.toNat+1)∧∀ q∈y.2.2.2,fF g q) (fun y=>l.length-y.1.toNat) ?_ ?_
 ·simp;exact hp
 rintro⟨i,p,gn,out⟩ ⟨i0,i1,hp,i2,i3⟩
 dsimp only at i0 i1 hp i2 i3 ⊢
 simp
 (with_reducible repeat' first|refine Xk ?_<;>try simp|refine Xs ?_ ?_<;>intro h<;>(try intro h')<;>(try simp[h])<;>(try omega)|refine Xg ?_|omega)
 ·refine Yc (f60 g hg p hp) ?_
  simp
  have hn:=h0 _ (eY i0 ‹_›)
  have xp:0<(gM g p).length→0≤e7 (gt l i) (gM g p).length∧e7 (gt l i) (gM g p).length<(gM g p).length:=fun h=>by
   rw[jw hn.1]
   exact⟨bW _ (by omega),bT _ (by omega)⟩
  (with_reducible repeat' first|refine Xk ?_<;>try simp|refine Xs ?_ ?_<;>intro h<;>(try intro h')<;>(try simp[h])<;>(try omega)|refine Xg ?_|omega)
  ·exact Ey.i out rfl rfl ⟨by omega,by omega,i3⟩
  ·have hlen:0<(gM g p).length:=aA.2 ‹_›
   have:=xp hlen
   omega
  ·have hlen:0<(gM g p).length:=aA.2 ‹_›
   have:=xp hlen
   (with_reducible repeat' first|refine Xk ?_<;>try simp|refine Xs ?_ ?_<;>intro h<;>(try intro h')<;>(try simp[h])<;>(try omega)|refine Xg ?_|omega)
   have eR:=JH hg hp (vL.1 (eY (l:=gM g p) this.1 this.2))
   refine LJ.e (i+1,gt (gM g p) (e7 (gt l i) (gM g p).length),gn+1,out ++ [gt (gM g p) (e7 (gt l i) (gM g p).length)]) ?_
   dsimp only
   refine⟨by omega,by omega,by omega,eR,by simp;omega,fun q hq=>?_⟩
   rcases List.mem_append.1 hq with hq|hq
   ·exact i3 q hq
   ·rw[List.mem_singleton]at hq;subst hq;exact eR
 ·exact Ey.i out rfl rfl ⟨by omega,by omega,i3⟩
structure Dz(g:eO)(p:Pos)(all last:List Pos):Prop where
 wg:iZ all
 ok:∀ q∈all,fF g q
 has:p∈all
 sub:∀ q∈last,q∈all
 cl:∀ q∈all,q ∉ last→∀ m,mU g q m→m∈all
 len:all.length≤80
 Wp:last.length≤all.length
theorem Dz.step{g:eO}(hg:fi g){p:Pos}{all last next last' all':List Pos}(h:Dz g p all last)(hn:∀ m,m∈next↔∃ q∈last,mU g q m)(hl:∀ m,m∈last'↔m∈next∧m ∉ all)
  (mP:last'.Nodup) (hs:iZ all') (ha:∀ q,q∈all'↔q∈all∨q∈last') (hlen:all'.length≤80):Dz g p all' last'∧(last'≠[]→all.length<all'.length)∧all.length≤all'.length:=by
 have h1:all.length+last'.length≤all'.length:=by
  rw[← ay]
  refine xG (a7.2 ⟨h.wg.nodup,mP,fun a ha b hb e=>?_⟩) fun x hx=>(ha x).2 (List.mem_append.1 hx)
  subst e;exact((hl a).1 hb).2 ha
 refine⟨⟨hs,fun q hq=>?_,(ha p).2 (.inl h.has),fun q hq=>(ha q).2 (.inr hq),fun q hq xm m hm=>?_,hlen,by omega⟩,fun he=>?_,by omega⟩
 ·rcases(ha q).1 hq with hq|hq
  ·exact h.ok q hq
  ·obtain⟨r,hr,hm⟩:=(hn q).1 ((hl q).1 hq).1
   exact JH hg (h.ok r (h.sub r hr)) hm
 ·rcases(ha q).1 hq with hq|hq
  ·by_cases EZ:q∈last
   ·by_cases NF:m∈all
    ·exact(ha m).2 (.inl NF)
    ·exact(ha m).2 (.inr ((hl m).2 ⟨(hn m).2 ⟨q,EZ,hm⟩,NF⟩))
   ·exact(ha m).2 (.inl (h.cl q hq EZ m hm))
  ·exact absurd hq xm
 ·have:0<last'.length:=aA.2 he
  omega
structure Bu(g:eO)(l:List Pos):Prop where
 wg:iZ l
 ok:∀ q∈l,fF g q
 cl:∀ q∈l,∀ m,mU g q m→m∈l
 len:0<l.length∧l.length≤80
theorem f33(g:eO)(hg:fi g)(p:Pos)(hp:fF g p):Wf T 33 [dG g,dP p,.i 80] [] (Ey (fun x:Bool×List Pos=>.agg [if x.1 then fW x.2 else .emp,.i (if x.1 then 0 else 2)]) (fun x=>x.1=true→Bu g x.2)):=by
 have jl:=hp.small hg
 refine Yz yx (iJ 62 [6,7] (gH 34 [5] yx.body)) ?_
 simp[yx,gH,iJ,kU,kX,lr,jN]
 refine eW.fz [3,4] rfl ?_
 refine eW.e (([p],[p]):List Pos×List Pos) (fun y=>[(2,.i 80),(3,.ptr 0 0 0),(6,.ptr 2 0 0),(7,fW y.1),(8,fW y.2)]) (fun y=>[.row 41 0 g.cells,.row 44 0 p.cells,.row 92 0 [.emp,.i 0],.dead,.dead]) (fun y=>Dz g p y.1 y.2) (fun y=>(81-y.1.length)*2+(if y.2 = []then 0 else 1)) ?_ ?_
 ·refine⟨fun i h1 h2=>by simp at h2;omega,by simpa using hp,by simp,by simp,by simp,by simp,by simp⟩
 rintro⟨all,last⟩ hI
 have ib:=hI.len
 have gS:=hI.Wp
 dsimp only at hI ib gS ⊢
 simp
 (with_reducible repeat' first|refine Xk ?_<;>try simp|refine Xs ?_ ?_<;>intro h<;>(try intro h')<;>(try simp[h])<;>(try omega)|refine Xg ?_|omega)
 ·refine eW.e ((0,0,[]):Int×Nat×List Pos) (fun y=>[(2,.i 80),(3,.ptr 0 0 0),(6,.ptr 2 0 0),(7,fW all),(8,fW last),(9,.eN 5 y.2.1 5 0 y.2.2.length),(10,.i y.1)]) (fun y=>[.row 41 0 g.cells,.row 44 0 p.cells,.row 92 0 [.emp,.i 0],.dead,.dead,.row 44 y.2.1 (cl Pos.cells y.2.2)]) (fun y=>0≤y.1∧y.1≤last.length∧(∀ m,m∈y.2.2↔∃ q∈last.take y.1.toNat,mU g q m)∧y.2.2.length≤y.1.toNat*4000000000) (fun y=>last.length-y.1.toNat) ?_ ?_
  ·simp
  rintro⟨i,gn,nx⟩ ⟨i0,i1,i2,i3⟩
  dsimp only at i0 i1 i2 i3 ⊢
  simp
  (with_reducible repeat' first|refine Xk ?_<;>try simp|refine Xs ?_ ?_<;>intro h<;>(try intro h')<;>(try simp[h])<;>(try omega)|refine Xg ?_|omega)
  ·have hq:=hI.ok _ (hI.sub _ (eY i0 ‹_›))
   have UA:=FJ hg hq
   refine Yt (f60 g hg _ hq) ?_
   simp
   (with_reducible repeat' first|refine Xk ?_<;>try simp|refine Xs ?_ ?_<;>intro h<;>(try intro h')<;>(try simp[h])<;>(try omega)|refine Xg ?_|omega)
   refine LJ.e (i+1,gn+1,nx++gM g (gt last i)) ?_
   dsimp only
   refine⟨by omega,by omega,by omega,fun m=>?_,?_⟩
   ·rw[List.mem_append,i2,vL,gx i0 ‹_›]
    simp only[List.mem_append,List.mem_singleton]
    constructor
    ·rintro(⟨q,a,b⟩|a)
     ·exact⟨q,.inl a,b⟩
     ·exact⟨_,.inr rfl,a⟩
    ·rintro⟨q,a|rfl,b⟩
     ·exact .inl ⟨q,a,b⟩
     ·exact .inr b
   ·rw[ay,show(i+1).toNat=i.toNat+1 by omega,bR]
    omega
  ·rw[jg (by omega)]at i2
   have EV:∀ q∈nx,fF g q:=fun q hq=>by
    obtain⟨r,hr,hm⟩:=(i2 q).1 hq
    exact JH hg (hI.ok r (hI.sub r hr)) hm
   refine Yc (MG nx (by omega) (fun q hq=>(EV q hq).small hg)) ?_
   simp
   have NV:=Gp nx
   have pQ:=iZ.nodup (we nx)
   have UZ:∀ q,q∈iL nx↔∃ r∈last,mU g r q:=fun q=>by rw[qE,i2]
   have NJ:∀ q∈iL nx,Small q:=fun q hq=>(EV q (qE.1 hq)).small hg
   generalize hN:iL nx=N at *
   refine eW.e ((0,0,[]):Int×Nat×List Pos) (fun y=>[(2,.i 80),(3,.ptr 0 0 0),(6,.ptr 2 0 0),(7,fW all),(8,.eN 6 y.2.1 5 0 y.2.2.length),(9,fW N),(11,.i y.1)]) (fun y=>[.row 41 0 g.cells,.row 44 0 p.cells,.row 92 0 [.emp,.i 0],.dead,.dead,.dead,.row 44 y.2.1 (cl Pos.cells y.2.2)]) (fun y=>0≤y.1∧y.1≤N.length∧(∀ m,m∈y.2.2↔m∈N.take y.1.toNat∧m ∉ all)∧y.2.2.Nodup∧y.2.2.length≤y.1.toNat) (fun y=>N.length-y.1.toNat) ?_ ?_
   ·simp
   rintro⟨j,gm,l'⟩ ⟨j0,j1,j2,j3,j4⟩
   dsimp only at j0 j1 j2 j3 j4 ⊢
   simp
   (with_reducible repeat' first|refine Xk ?_<;>try simp|refine Xs ?_ ?_<;>intro h<;>(try intro h')<;>(try simp[h])<;>(try omega)|refine Xg ?_|omega)
   ·refine Yc (f27 all (gt N j) (by omega) (fun q hq=>(hI.ok q hq).small hg) (NJ _ (eY j0 ‹_›)) hI.wg) ?_
    simp
    have hf:nK all (gt N j)<0↔gt N j ∉ all:=by
     by_cases hm:gt N j∈all
     ·have:=zk hm
      simp[hm];omega
     ·rw[MP hm];simp[hm]
    (with_reducible repeat' first|refine Xk ?_<;>try simp|refine Xs ?_ ?_<;>intro h<;>(try intro h')<;>(try simp[h])<;>(try omega)|refine Xg ?_|omega)
    ·refine LJ.e (j+1,gm+1,l' ++ [gt N j]) ?_
     dsimp only
     have sx:gt N j ∉ l':=fun hm=>by
      have:=(j2 _).1 hm
      obtain⟨k,hk,e⟩:=cW.1 this.1
      refine bk.1 pQ k j.toNat (by omega) (by omega) (by omega) ?_
      rw[e,nL j0 ‹_›]
     refine⟨by omega,by omega,by omega,fun m=>?_,a7.2 ⟨j3,by simp,fun a ha b hb e=>?_⟩,by simp;omega⟩
     ·rw[List.mem_append,j2,gx j0 ‹_›,List.mem_append,List.mem_singleton]
      constructor
      ·rintro(⟨a,b⟩|rfl)
       ·exact⟨.inl a,b⟩
       ·exact⟨.inr rfl,hf.1 h⟩
      ·rintro⟨a|a,b⟩
       ·exact .inl ⟨a,b⟩
       ·exact .inr a
     ·rw[List.mem_singleton]at hb;subst hb;subst e;exact sx ha
    ·refine LJ.e (j+1,gm,l') ?_
     dsimp only
     refine⟨by omega,by omega,by omega,fun m=>?_,j3,by omega⟩
     rw[j2,gx j0 ‹_›,List.mem_append,List.mem_singleton]
     constructor
     ·rintro⟨a,b⟩
      exact⟨.inl a,b⟩
     ·rintro⟨a|rfl,b⟩
      ·exact⟨a,b⟩
      ·exact absurd (hf.2 b) h
   ·rw[jg (by omega)]at j2
    refine Yc (MG (all++l') (by simp;omega) (fun q hq=>(List.mem_append.1 hq).elim (fun h=>(hI.ok q h).small hg) fun h=>NJ q ((j2 q).1 h).1)) ?_
    simp
    have eX:=hI.step hg (next:=N) (last':=l') (all':=iL (all++l')) UZ j2 j3 (we _) (fun q=>by rw[qE,List.mem_append])
    (with_reducible repeat' first|refine Xk ?_<;>try simp|refine Xs ?_ ?_<;>intro h<;>(try intro h')<;>(try simp[h])<;>(try omega)|refine Xg ?_|omega)
    ·exact Ey.i (false,[]) (by simp) rfl (fun h=>by cases h)
    ·obtain⟨h1,h2,h3⟩:=eX (by omega)
     refine LJ.e (iL (all++l'),l') ?_
     dsimp only
     refine⟨?_,h1⟩
     have vz:last≠[]:=fun e=>by subst e;simp at *
     rw[if_neg vz]
     by_cases e:l' = []
     ·rw[if_pos e];omega
     ·have:=h2 e
      rw[if_neg e];have:=h1.len;omega
 ·refine Ey.i (true,all) (by simp) rfl fun _=>⟨hI.wg,hI.ok,fun q hq=>hI.cl q hq ?_,?_⟩
  ·have:last = []:=aC.1 (by omega)
   rw[this];simp
  ·have:=dw hI.has
   exact⟨this,ib⟩
end Go.Proofs.YtnaefnajkaohgaaGreatDoor
namespace Go.AL
open Go
def Pq(S:List Nat):gp→Bool
 | .call f _ | .callN f _=>elem f S
 | .callv _ _=>false
 | .nextM _=>false
 | _=>true
def mq(S:List Nat):List fo→Bool
 | []=>true
 | e::r=>Pq S e.op&&mq S r
def nR(S:List Nat):IR→Bool
 | .ops l=>mq S l
 | .draw _ l=>mq S l
 | .kh _ l es=>mq S l&&mq S es
 | .seq a b=>nR S a&&nR S b
 | .cond _ a b=>nR S a&&nR S b
 | .block _ _ a=>nR S a
 | .loop _ a=>nR S a
 | .kF _ _ _=>false
 | _=>true
def nS(S:List Nat):uD→Bool
 | .ops l _=>mq S l
 | .code c _=>nR S c
 | .loop _ _ a _=>nR S a
 | .call f _ _=>elem f S
 | .trace l _=>mq S l
def One(T:gb)(j:uD)(R:ml→Prop):Prop:=match j with
 | .ops _ _ | .code _ _ | .loop _ _ _ _=>∃ o,R (.out o)∧Ev T j (fun r=>r = .out o)
 | .call _ _ _=>∃ d H,R (.val d H)∧Ev T j (fun r=>r = .val d H)
 | .trace _ _=>∃ rs s,R (.tr rs s)∧Ev T j (fun r=>r = .tr rs s)
theorem One.mono{T:gb}{j:uD}{R R':ml→Prop}(h:One T j R)(hi:∀ r,R r→R' r):One T j R':=by
 cases j with
 | call f a H=>obtain⟨d,H',h1,h2⟩:=h;exact⟨d,H',hi _ h1,h2⟩
 | trace l s=>obtain⟨d,H',h1,h2⟩:=h;exact⟨d,H',hi _ h1,h2⟩
 | _=>obtain⟨o,h1,h2⟩:=h;exact⟨o,hi _ h1,h2⟩
theorem Pr{S:List Nat}{env:fD}{op:gp}{f:FuncId}{args:List D}(h:Pq S op=true)(hc:iM env op=some (f,args)):elem f S=true:=by
 cases op<;>first|(cases hc;exact h)|(cases h;done)|(cases hc;done)
section
variable{T:gb}{S:List Nat}(hS:∀ f fn,elem f S=true→T.fn f=some fn→nR S fn.body=true)(hN:∀ f,elem f S=true→T.sort f=none∧T.pA f=false)
include hS hN
theorem abp{j:uD}{R:ml→Prop}(h:Ev T j R):nS S j=true→One T j R:=by
 induction h with
 | mono h hi ih=>exact fun hj=>(ih hj).mono hi
 | sort fc l cf hs=>intro hj;rw[(hN _ hj).1]at hs;cases hs
 | x5 hs=>intro hj;rw[(hN _ hj).1]at hs;cases hs
 | pA l hs=>intro hj;rw[(hN _ hj).2]at hs;cases hs
 | nil h=>exact fun _=>⟨_,h,.nil rfl⟩
 | op hg h t ih=>
  intro hj
  simp only[nS,mq,ah]at hj
  obtain⟨o,h1,h2⟩:=ih hj.2
  exact⟨o,h1,.op hg h h2⟩
 | v8 hg h t ih=>
  intro hj
  simp only[nS,mq,ah]at hj
  obtain⟨o,h1,h2⟩:=ih hj.2
  exact⟨o,h1,.v8 hg h h2⟩
 | off hg t ih=>
  intro hj
  simp only[nS,mq,ah]at hj
  obtain⟨o,h1,h2⟩:=ih hj.2
  exact⟨o,h1,.off hg h2⟩
 | jF S' hm t ih=>intro hj;obtain⟨o,h1,h2⟩:=ih hj;exact⟨o,h1,.jF S' hm h2⟩
 | zl S' hm t ih=>intro hj;obtain⟨o,h1,h2⟩:=ih hj;exact⟨o,h1,.zl S' hm h2⟩
 | HE live t ih=>intro hj;obtain⟨o,h1,h2⟩:=ih hj;exact⟨o,h1,.HE live h2⟩
 | Ek live t ih=>intro hj;obtain⟨o,h1,h2⟩:=ih hj;exact⟨o,h1,.Ek live h2⟩
 | yU hg hc hf hp h ha t ih qu=>
  intro hj
  simp only[nS,mq,ah]at hj
  obtain⟨d,Hn,h1,h2⟩:=ih (Pr hj.1 hc)
  obtain⟨s',fH⟩:=cY.1 (ha d Hn h1)
  obtain⟨o,h3,h4⟩:=qu d Hn s' h1 fH hj.2
  exact⟨o,h3,.yU hg hc hf hp h2 (fun d' Dv e=>by cases e;exact ha _ _ h1) fun d' Dv s2 e lu=>by
   cases e;rw[fH]at lu;cases lu;exact h4⟩
 | yT hg hc hf hp h t ih qu=>
  intro hj
  simp only[nS,mq,ah]at hj
  obtain⟨d,Hn,h1,h2⟩:=ih (Pr hj.1 hc)
  obtain⟨o,h3,h4⟩:=qu d Hn h1 hj.2
  exact⟨o,h3,.yT hg hc hf hp h2 fun d' Dv e=>by cases e;exact h4⟩
 | @DI e r s v args rf env0 Rd Ra Rb R hg hc=>
  intro hj
  simp only[nS,mq,ah]at hj
  exfalso
  have h1:=hj.1
  revert hc h1
  cases e.op<;>intro hc h1<;>first|(cases hc;done)|(cases h1;done)
 | next hg gf=>
  intro hj
  simp only[nS,mq,ah]at hj
  have h1:=hj.1
  rw[gf]at h1;cases h1
 | Bi h=>exact fun _=>⟨_,_,h,.Bi rfl⟩
 | Bk hg h t k ih=>
  intro hj
  simp only[nS,mq,ah]at hj
  obtain⟨rs,s',h1,h2⟩:=ih hj.2
  exact⟨_,s',k rs s' h1,.Bk hg h h2 fun vX s2 e=>by cases e;rfl⟩
 | Bj hg t k ih=>
  intro hj
  simp only[nS,mq,ah]at hj
  obtain⟨rs,s',h1,h2⟩:=ih hj.2
  exact⟨_,s',k rs s' h1,.Bj hg h2 fun vX s2 e=>by cases e;rfl⟩
 | Bf hg hc hf hp h h0 hr t k ih qu=>
  intro hj
  simp only[nS,mq,ah]at hj
  obtain⟨rs,s',h1,h2⟩:=qu hj.2
  exact⟨_,s',k rs s' h1,.Bf hg hc hf hp h h0 hr h2 fun vX s2 e=>by cases e;rfl⟩
 | Bg hg gf ha hf hp h h0 hr t k ih qu=>
  intro hj
  simp only[nS,mq,ah]at hj
  obtain⟨rs,s',h1,h2⟩:=qu hj.2
  exact⟨_,s',k rs s' h1,.Bg hg gf ha hf hp h h0 hr h2 fun vX s2 e=>by cases e;rfl⟩
 | Bh hg gf ha hf hp TC hv fR fE h h0 hr t k ih qu=>
  intro hj
  simp only[nS,mq,ah]at hj
  obtain⟨rs,s',h1,h2⟩:=qu hj.2
  exact⟨_,s',k rs s' h1,.Bh hg gf ha hf hp TC hv fR fE h h0 hr h2 fun vX s2 e=>by cases e;rfl⟩
 | draw t hp ih=>
  intro hj
  obtain⟨rs,s',h1,h2⟩:=ih hj
  exact⟨_,(hp rs s' h1).2,.draw h2 fun vX s2 e=>by cases e;exact⟨(hp rs s' h1).1,rfl⟩⟩
 | kh t hp k ih sG=>
  intro hj
  simp only[nS,nR,ah]at hj
  obtain⟨rs,s',h1,h2⟩:=ih hj.1
  obtain⟨o,h3,h4⟩:=sG rs s' h1 hj.2
  exact⟨o,h3,.kh h2 (fun vX s2 e=>by cases e;exact hp _ _ h1) fun vX s2 e=>by cases e;exact h4⟩
 | skip h=>exact fun _=>⟨_,h,.skip rfl⟩
 | y9 h ih=>intro hj;obtain⟨o,h1,h2⟩:=ih hj;exact⟨o,h1,.y9 h2⟩
 | seq h k hs ih sG=>
  intro hj
  simp only[nS,nR,ah]at hj
  obtain⟨o,h1,h2⟩:=ih hj.1
  cases o with
  | norm s'=>
   obtain⟨o,h3,h4⟩:=sG s' h1 hj.2
   exact⟨o,h3,.seq h2 (fun s2 e=>by cases e;exact h4) fun o e hs=>by cases e;cases hs⟩
  | exit id s'=>exact⟨_,hs _ h1 rfl,.seq h2 (fun s2 e=>by cases e) fun o e hs=>by cases e;rfl⟩
  | ret s'=>exact⟨_,hs _ h1 rfl,.seq h2 (fun s2 e=>by cases e) fun o e hs=>by cases e;rfl⟩
 | @cond c a b s x R hc h ih=>
  intro hj
  simp only[nS,nR,ah]at hj
  obtain⟨o,h1,h2⟩:=ih (by cases x;exact hj.2;exact hj.1)
  exact⟨o,h1,.cond hc h2⟩
 | block h k ih=>
  intro hj
  obtain⟨o,h1,h2⟩:=ih hj
  exact⟨_,k o h1,.block h2 fun o e=>by cases e;rfl⟩
 | loop h ih=>intro hj;obtain⟨o,h1,h2⟩:=ih hj;exact⟨o,h1,.loop h2⟩
 | tZ h k hs ih sG=>
  intro hj
  obtain⟨o,h1,h2⟩:=ih hj
  cases o with
  | norm s'=>
   obtain⟨o,h3,h4⟩:=sG s' h1 hj
   exact⟨o,h3,.tZ h2 (fun s2 e=>by cases e;exact h4) fun o e hs=>by cases e;cases hs⟩
  | exit id s'=>exact⟨_,hs _ h1 rfl,.tZ h2 (fun s2 e=>by cases e) fun o e hs=>by cases e;rfl⟩
  | ret s'=>exact⟨_,hs _ h1 rfl,.tZ h2 (fun s2 e=>by cases e) fun o e hs=>by cases e;rfl⟩
 | kF=>intro hj;cases hj
 | exit h=>exact fun _=>⟨_,h,.exit rfl⟩
 | ret h=>exact fun _=>⟨_,h,.ret rfl⟩
 | call own hf hl h k ih=>
  intro hj
  obtain⟨o,h1,h2⟩:=ih (hS _ _ hj hf)
  obtain⟨d,H',h3,h4⟩:=k o h1
  exact⟨d,H',h4,.call own hf hl h2 fun o' e=>by cases e;exact⟨d,H',h3,rfl⟩⟩
end
end Go.AL
namespace Go.AL
open Go
def DM(S:List Nat):Nat→List (Option eQ)→Bool
 | _,[]=>true
 | k,a::l=>(bif elem k S then(match a with|some fn=>nR S fn.body|none=>true)else true)&&DM S (k+1) l
theorem LS{S:List Nat}{fn:eQ}:∀ {l:List (Option eQ)} {k i:Nat},DM S k l=true→nth l i=some fn→elem (k+i) S=true→nR S fn.body=true
 | [],_,_,_,h,_=>by cases h
 | a::l,k,0,h,h2,h3=>by
  simp only[DM,ah]at h
  cases h2
  rw[bQ]at h3
  simpa only[h3,cond_true]using h.1
 | a::l,k,i+1,h,h2,h3=>by
  simp only[DM,ah]at h
  exact LS (l:=l) (k:=k+1) (i:=i) h.2 h2 (by rw[br,dE 1 i];exact h3)
theorem Wf.one{T:gb}{S:List Nat}(hS:∀ f fn,elem f S=true→T.fn f=some fn→nR S fn.body=true)(hN:∀ f,elem f S=true→T.sort f=none∧T.pA f=false){f:FuncId}{args:List D}{H:U}{K:D→U→Prop}(h:Wf T f args H K)(hf:elem f S=true) :
  ∃ d H',K d H'∧Wf T f args H fun d2 H2=>d2=d∧H2=H':=by
 obtain⟨d,H',⟨d2,H2,e,h1⟩,h2⟩:=abp hS hN h hf
 cases e
 exact⟨d,H',h1,Ev.mono h2 fun r e=>⟨_,_,e,rfl,rfl⟩⟩
end Go.AL
namespace Go.Proofs.YtnaefnajkaohgaaGreatDoor
open Go Go.AL
def xT:List Nat:=[12,13,14,17,22,24,25,27,32,33,34,35,36,37,38,39,50,51,57,58,59,60,61,62,63,64,65,66,67,68,69,93,94,95,104,105,106,107,108,109,110,111,112,149,150,151,152,153,154,155,156,192,193,194,195,227,228,229,250,251,252,253,254,255,263]
theorem abJ:∀ f fn,elem f xT=true→T.fn f=some fn→nR xT fn.body=true:=fun f fn h h2=>
 LS (S:=xT) (l:=fns) (k:=0) (i:=f) (by kernel_rfl) h2 (by rw[bj];exact h)
theorem abK:∀ f,elem f xT=true→T.sort f=none∧T.pA f=false:=fun f h=>by
 by_cases h1:f=87
 ·subst h1;exact absurd h (by decide)
 by_cases h2:f=123
 ·subst h2;exact absurd h (by decide)
 by_cases h3:f=160
 ·subst h3;exact absurd h (by decide)
 refine⟨?_,?_⟩
 ·show(if f=87 then some 5 else if f=123 then some 6 else none)=none
  rw[if_neg h1,if_neg h2]
 ·show Nat.beq f 160=false
  cases hb:Nat.beq f 160 with
  | false=>rfl
  | true=>exact absurd (cN hb) h3
section
variable{f:FuncId}{args:List D}{dst:Option Nat}{s:St}{fn:eQ}{R:List Fp}{Q:Rc→St→Prop}
theorem gR.q{α:Type}{g:α→D}{P:α→Prop}(hf:T.fn f=some fn)(hp:fn.full=false)(h1:elem f xT=true)(h:Wf T f args [] (Ex g P))(hc:fm args=true)(hx:∀ r,closed (g r)=true)
  (k:∀ r,P r→Q ⟨R,[]⟩ { s with env:=put s.env dst (g r) }):gR T f args R dst s Q .mk:=by
 obtain⟨d,H',⟨r,rfl,rfl,hr⟩,h2⟩:=Wf.one abJ abK h h1
 exact gR.c hf hp h2 hc (hx r) (k r hr)
end
theorem Yv{f:FuncId}{args:List D}{R:List Fp}{dst:Option Nat}{s:St}{Q:Rc→St→Prop}{fn:eQ}{α:Type}{g:α→D}{P:α→Prop}(h:Wf T f args [] (Ex g P))(k:∀ r,P r→Q ⟨R,[]⟩ { s with env:=put s.env dst (g r) })
  (hf:T.fn f=some fn:=by exact rfl) (hp:fn.full=false:=by exact rfl) (h1:elem f xT=true:=by exact rfl) (hc:fm args=true:=by simp) (hx:∀ r,closed (g r)=true:=by intro;simp):gR T f args R dst s Q .mk:=gR.q hf hp h1 h hc hx k
end Go.Proofs.YtnaefnajkaohgaaGreatDoor
namespace Go.AL
open Go
abbrev Kn:=Int×Int×Bool
@[irreducible] def fK(x:Kn):List D:=[.i x.1,.i x.2.1,.b x.2.2]
@[simp] theorem ahx(x:Kn):fK x = [.i x.1,.i x.2.1,.b x.2.2]:=by unfold fK;rfl
instance:Fl fK 3:=⟨fun _=>by simp,fun _=>by simp[fm]⟩
@[simp] theorem agB(l:List Bool)(c:Bool):cl fB l ++ [.b c]=cl fB (l ++ [c]):=by rw[← oI,MI]
theorem Rx{α:Type}[Inhabited α]{f:α→List D}{sz:Nat}[F:Fl f sz]{l:List α}{n:Int}{j:Nat}(hj:j<sz){P:D→Prop}:oA (cl f l)[n.toNat*sz+j]? P .mk=(n.toNat<l.length∧oA (f (gt l n))[j]? P .mk):=by
 rw[L4 (f:=f) l n.toNat j hj]
 by_cases hn:n.toNat<l.length
 ·rw[List.getElem?_eq_getElem hn]
  have e:gt l n=l[n.toNat]:=by unfold gt;rw[List.getD_eq_getElem?_getD,List.getElem?_eq_getElem hn];rfl
  simp[hn,e]
 ·rw[aG (by omega)];simp[hn]
@[simp] theorem ajQ{l:List Bool}{n:Int}{P:D→Prop}:oA (cl fB l)[n.toNat]? P .mk=(n.toNat<l.length∧P (.b (gt l n))):=by
 have:=Rx (f:=fB) (l:=l) (n:=n) (j:=0) (by decide) (P:=P)
 simpa using this
theorem L5{α:Type}{f:α→List D}{sz:Nat}[F:Fl f sz](l:List α)(n:Int)(h1:n.toNat<l.length)(a:α):(cl f l).take (n.toNat*sz)++(f a++(cl f l).drop (n.toNat*sz+sz))=cl f (pt l n a):=by
 have:=RA (f:=f) l n.toNat a h1
 rw[bt]at this
 exact this
theorem AZ{α:Type}{f:α→List D}(a:α):∀ n:Nat,(List.replicate n (f a)).flatten=cl f (List.replicate n a)
 | 0=>by simp
 | n+1=>by rw[bJ,aQ,AZ a n,bJ,mH]
@[simp] theorem abM(b:Bool)(n:Nat):(List.replicate n [D.b b]).flatten=cl fB (List.replicate n b):=by rw[← AZ,MI]
@[simp] theorem abN(b:Int)(n:Nat):(List.replicate n [D.i b]).flatten=cl f1 (List.replicate n b):=by rw[← AZ,qV]
@[simp] theorem alf(a b:Int)(n:Nat):(List.replicate n [D.i a,D.i b]).flatten=cl fS (List.replicate n (a,b)):=by rw[← AZ,tw]
@[simp] theorem ald(b:Bool)(n:Nat):List.replicate n (D.b b)=cl fB (List.replicate n b):=by rw[← abM];simp
@[simp] theorem ale(b:Int)(n:Nat):List.replicate n (D.i b)=cl f1 (List.replicate n b):=by rw[← abN];simp
end Go.AL
namespace Go.Proofs.YtnaefnajkaohgaaGreatDoor
open Go Go.AL Classical
set_option maxRecDepth 10000
set_option maxHeartbeats 1000000
structure p5(g:eO)(l:List Pos):Prop where
 wg:iZ l
 ok:∀ q∈l,fF g q
 cl:∀ q∈l,∀ m,mU g q m→m∈l
 len:l.length≤4000
theorem Bu.c2{g:eO}{l:List Pos}(h:Bu g l):p5 g l:=⟨h.wg,h.ok,h.cl,by have:=h.len;omega⟩
noncomputable def fy(g:eO)(l:List Pos):List (List Int):=l.map fun p=>(gM g p).map (nK l)
set_option maxRecDepth 10000
set_option maxHeartbeats 1000000
theorem ue{g:eO}{l:List Pos}(hl:p5 g l){i:Int}(h0:0≤i)(h1:i<l.length):gt (fy g l) i=(gM g (gt l i)).map (nK l)∧∀ k∈gt (fy g l) i,0≤k∧k<l.length:=by
 have e:gt (fy g l) i=(gM g (gt l i)).map (nK l):=by
  unfold fy gt
  simp only[List.getD_eq_getElem?_getD,ar]
  rw[List.getElem?_eq_getElem (by omega)]
  rfl
 refine⟨e,fun k hk=>?_⟩
 rw[e]at hk
 obtain⟨q,hq,rfl⟩:=av.1 hk
 have:=zk (hl.cl _ (eY h0 h1) q (vL.1 hq))
 exact⟨this.1,this.2.1⟩
end Go.Proofs.YtnaefnajkaohgaaGreatDoor
namespace Go.AL
open Go
section
variable{P:D→Prop}{a b:Int}{k:IntKind}{t:Tag P}
@[simp low] theorem akb:oA (iD .rem k a b) P t=(b≠0∧P (.val (.int k (e7 a b)))):=by
 cases t
 simp only[iD]
 by_cases h:b=0<;>simp[h,e7]
def iv(k:IntKind)(a b:Int):Int:=k.wrap (a.tdiv b)
@[simp low] theorem aj9:oA (iD .quo k a b) P t=(b≠0∧P (.val (.int k (iv k a b)))):=by
 cases t
 simp only[iD]
 by_cases h:b=0<;>simp[h,iv]
end
@[simp] theorem ahX{ρ:Nat→Option Nat}{H:U}{k:Nat}{t:TypeId}{a b:Int}:lI ρ H (k+1) 1 0 2 (some (t,[.i a,.i b]))=dI [a,b]:=by
 have h:=qW (f:=f1) (ρ:=ρ) (H:=H) (k:=k) (t:=t) (l:=[a,b]) (n:=2) rfl
 rw[lF]at h
 simp only[List.map_cons,List.map_nil,qV,aQ,cG,aw,cF,aY]at h
 rw[h];unfold dI;simp only[List.map_cons,List.map_nil,qV]
end Go.AL
namespace Go.Proofs.YtnaefnajkaohgaaGreatDoor
open Go Go.AL Classical
set_option maxRecDepth 10000
set_option maxHeartbeats 1000000
def dW(w:List Int):D:=.agg (w.map fun n=>.val (.int .u8 n))
theorem f34(g:eO)(hg:fi g)(a0 a1 a2 a3 a4 a5:Int)(h:∀ n∈[a0,a1,a2,a3,a4,a5],0≤n∧n<256):Wf T 34 [dG g,dW [a0,a1,a2,a3,a4,a5]] [] (Ey (fun r:List Int=>.agg [dI r]) fun r=>r.length=g.kinds.length):=by
 have hk:=hg.kinds
 refine Yg CZ ?_
 simp[CZ,dW]
 rcases(show g.kinds.length=1∨g.kinds.length=2 by omega)with e|e
 ·refine eW.un ?_
  refine iR.u ?_
  simp[e]
  refine iR.u ?_
  simp[e]
  exact Ey.i [IntKind.i64.wrap (e7 a0 8)] rfl rfl (by simp[e])
 ·refine eW.un ?_
  refine iR.u ?_
  simp[e]
  refine iR.u ?_
  simp[e]
  refine iR.u ?_
  simp[e]
  exact Ey.i [IntKind.i64.wrap (e7 a0 8),IntKind.i64.wrap (e7 a1 8)] rfl rfl (by simp[e])
end Go.Proofs.YtnaefnajkaohgaaGreatDoor
namespace Go.AL
open Go
@[irreducible] def fU(n:Int):List D:=[.val (.int .u8 n)]
@[simp] theorem Hz(n:Int):fU n = [.val (.int .u8 n)]:=by unfold fU;rfl
instance:Fl fU 1:=⟨fun _=>by simp,fun _=>by simp[fm]⟩
def dU(l:List Int):D:=.sl 1 (l.map fU)
@[simp] theorem ag6(l:List Int):closed (dU l)=true:=by unfold dU;exact G9 l
@[simp] theorem aje(l:List Int)(H:U):nq .slice (dU l) H=some (.i l.length):=by simp[dU]
@[simp] theorem aj3{l:List Int}{n:Int}{k:IntKind}{P:D→Prop}:oA (mb 1 (dU l) (.val (.int k n))) P .mk=((0≤n∧n<l.length)∧P (.eZ [.val (.int .u8 (gt l n))])):=by unfold dU;rw[sM,Hz]
@[simp] theorem amD(n:Nat)(l:List Int):gE n (dU l) = []:=rfl
@[simp] theorem agm(l:List Int):cellsOf (dU l)=some [dU l]:=rfl
@[simp] theorem akA(l:List Int):one (dU l)=true:=rfl
structure qM(Hl kinds fg:Int)(l:List eT):Prop where
 steps:∀ x∈l,((x.1=1∨x.1=2∨x.1=7)∧0≤x.2∧x.2<Hl)∨(3≤x.1∧x.1≤6∧x.2=0)∨(x.1=8∧0≤x.2∧x.2<kinds)∨((x.1=9∨x.1=10)∧0≤x.2∧x.2<fg)
 len:l.length≤8
 pX:jY l 6≤2
 push:jY l 7≤1
 yP:jY l 8≤1
@[simp] theorem aft(a b:Int):iD .add .u8 a b=some (.val (.int .u8 (IntKind.u8.wrap (a+b)))):=rfl
@[simp] theorem afC(a b:Int):iD .sub .u8 a b=some (.val (.int .u8 (IntKind.u8.wrap (a-b)))):=rfl
theorem QJ(n:Int):0≤IntKind.u8.wrap n∧IntKind.u8.wrap n<256:=by
 simp only[IntKind.wrap,IntKind.bits,IntKind.signed]
 simp
 omega
theorem AQ(a b:Int):0≤iv .u8 a b∧iv .u8 a b<256:=QJ _
theorem R5{ρ:Nat→Option Nat}{H:U}{k n:Nat}{t:TypeId}{cs:List D}(l:List Int)(h:cs=l.map fun n=>D.val (.int .u8 n))(hn:n=l.length):lI ρ H (k+1) 1 0 n (some (t,cs))=dU l:=by
 subst hn
 have e:cs=cl fU l:=by
  rw[h,lF]
  clear h
  induction l with
  | nil=>rfl
  | cons a r ih=>simp[← ih]
 rw[e,qW rfl]
 rfl
theorem Xc{sz:Nat}{es:List (List D)}{k:IntKind}{n:Int}{P:D→Prop}:oA (mb sz (.sl sz es) (.val (.int k n))) P .mk=((0≤n∧n<es.length)∧P (.eZ (es.getD n.toNat []))):=by
 simp only[mb,true_and,xJ,vP]
theorem oA.i{α:Type}{x:Option α}{P:α→Prop}{t:Tag P}{a:α}(h1:x=some a)(h2:P a):oA x P t:=⟨a,h1,h2⟩
end Go.AL
namespace Go.Proofs.YtnaefnajkaohgaaGreatDoor
open Go Go.AL Classical
set_option maxRecDepth 10000
set_option maxHeartbeats 4000000
theorem f192(l:List Int)(k:Int)(hk:0≤k):Wf T 192 [dU l,.i k] [] (Is (.i (if k<l.length then IntKind.i64.wrap (gt l k)else 0))):=by
 refine Yg Ck ?_
 simp[Ck]
 (with_reducible repeat' first|refine Xk ?_<;>try simp|refine Xs ?_ ?_<;>intro h<;>(try intro h')<;>(try simp[h])<;>(try omega)|refine Xg ?_|omega)
 all_goals simp[*]
def sH(d o b k r:Int):List (List eT):=[[(1,d),(3,0)],[(1,d),(4,0),(6,0)],[(2,d)],[(2,d),(4,0),(6,0)],[(1,d),(4,0),(6,0),(1,d)],[(1,d),(1,o)],[(1,d),(7,d)],[(1,d),(3,0),(8,k)],[(9,r),(1,d),(1,d),(10,r)],[(1,d),(5,0),(1,d),(3,0)],[(10,r),(1,d)],[(1,d),(4,0),(6,0),(1,b)],[(1,d),(4,0),(6,0),(1,o),(4,0),(6,0)],[(2,d),(5,0),(1,d)],[(1,d),(4,0),(6,0),(8,k)],[(1,d),(7,d),(1,o)]]
theorem Wv(d o b k r:Int)(hd:0≤d∧d<8)(ho:0≤o∧o<8)(hb:0≤b∧b<8)(hk:0≤k∧k<6)(hr:0≤r∧r<4):∀ p∈sH d o b k r,qM 8 6 4 p:=by
 have hp:∀ p:List eT,(∀ x∈p,((x.1=1∨x.1=2∨x.1=7)∧0≤x.2∧x.2<8)∨(3≤x.1∧x.1≤6∧x.2=0)∨(x.1=8∧0≤x.2∧x.2<6)∨((x.1=9∨x.1=10)∧0≤x.2∧x.2<4))→p.length≤8∧jY p 6≤2∧jY p 7≤1∧jY p 8≤1→qM 8 6 4 p:=fun p a b=>⟨a,b.1,b.2.1,b.2.2.1,b.2.2.2⟩
 intro p h
 unfold sH at h
 simp only[au,cQ,or_false]at h
 rcases h with rfl|rfl|rfl|rfl|rfl|rfl|rfl|rfl|rfl|rfl|rfl|rfl|rfl|rfl|rfl|rfl
 all_goals
  refine hp _ ?_ ?_
  ·simp;omega
  ·simp[jY]
theorem Wu(d o b k r m:Int)(h0:0≤m)(h1:m<16):([[D.sl 2 [[D.i 1,D.i d],[D.i 3,D.i 0]]],[D.sl 2 [[D.i 1,D.i d],[D.i 4,D.i 0],[D.i 6,D.i 0]]],[D.sl 2 [[D.i 2,D.i d]]],[D.sl 2 [[D.i 2,D.i d],[D.i 4,D.i 0],[D.i 6,D.i 0]]],[D.sl 2 [[D.i 1,D.i d],[D.i 4,D.i 0],[D.i 6,D.i 0],[D.i 1,D.i d]]],[D.sl 2 [[D.i 1,D.i d],[D.i 1,D.i o]]],[D.sl 2 [[D.i 1,D.i d],[D.i 7,D.i d]]],[D.sl 2 [[D.i 1,D.i d],[D.i 3,D.i 0],[D.i 8,D.i k]]],[D.sl 2 [[D.i 9,D.i r],[D.i 1,D.i d],[D.i 1,D.i d],[D.i 10,D.i r]]],[D.sl 2 [[D.i 1,D.i d],[D.i 5,D.i 0],[D.i 1,D.i d],[D.i 3,D.i 0]]],[D.sl 2 [[D.i 10,D.i r],[D.i 1,D.i d]]],[D.sl 2 [[D.i 1,D.i d],[D.i 4,D.i 0],[D.i 6,D.i 0],[D.i 1,D.i b]]],[D.sl 2 [[D.i 1,D.i d],[D.i 4,D.i 0],[D.i 6,D.i 0],[D.i 1,D.i o],[D.i 4,D.i 0],[D.i 6,D.i 0]]],[D.sl 2 [[D.i 2,D.i d],[D.i 5,D.i 0],[D.i 1,D.i d]]],[D.sl 2 [[D.i 1,D.i d],[D.i 4,D.i 0],[D.i 6,D.i 0],[D.i 8,D.i k]]],[D.sl 2 [[D.i 1,D.i d],[D.i 7,D.i d],[D.i 1,D.i o]]]].getD m.toNat [])[0]? = some (gq (gt (sH d o b k r) m)):=by
 rcases(show m=0∨m=1∨m=2∨m=3∨m=4∨m=5∨m=6∨m=7∨m=8∨m=9∨m=10∨m=11∨m=12∨m=13∨m=14∨m=15 by omega)with rfl|rfl|rfl|rfl|rfl|rfl|rfl|rfl|rfl|rfl|rfl|rfl|rfl|rfl|rfl|rfl
 all_goals simp[sH,gt,gq]
theorem f152(l:List Int)(hl:l.length=5)(h:∀ n∈l,0≤n∧n<256):Wf T 152 [dU l] [] (Ey gq (qM 8 6 4)):=by
 have e:∀ k:Int,0≤k→k<5→(if k<l.length then IntKind.i64.wrap (gt l k)else 0)=gt l k:=fun k a b=>by
  rw[if_pos (by omega)]
  have:=h _ (eY (l:=l) a (by omega))
  exact nZ ⟨by omega,by omega⟩
 have hr:∀ k:Int,0≤k→k<5→0≤gt l k:=fun k a b=>(h _ (eY (l:=l) a (by omega))).1
 refine Yz ym (gH 121 [0,1,2,3,4,5,6,7,8,9,10,11,12,13,14,15,16,17,18,19,20,21,22,23,24,25,26,27,28] ym.body) ?_
 simp[ym,gH,iJ,kU,kX,lr,jN]
 refine Yc (f192 l 1 (by omega)) ?_
 simp[e 1 (by omega) (by omega)]
 refine Yc (f192 l 2 (by omega)) ?_
 simp[e 2 (by omega) (by omega)]
 refine Yc (f192 l 3 (by omega)) ?_
 simp[e 3 (by omega) (by omega)]
 refine Yc (f192 l 4 (by omega)) ?_
 simp[e 4 (by omega) (by omega),lI,chunks]
 have r1:=jw (a:=gt l 1) (b:=8) (hr 1 (by omega) (by omega))
 have r2:=jw (a:=gt l 2) (b:=8) (hr 2 (by omega) (by omega))
 have r3:=jw (a:=gt l 3) (b:=6) (hr 3 (by omega) (by omega))
 have r4:=jw (a:=gt l 4) (b:=4) (hr 4 (by omega) (by omega))
 have r0:=jw (a:=gt l 0) (b:=16) (hr 0 (by omega) (by omega))
 have r5:=jw (a:=e7 (gt l 1) 8+4) (b:=8) (by omega)
 have Vc:IntKind.i64.wrap (gt l 0)=gt l 0:=by
  have:=e 0 (by omega) (by omega)
  rwa [if_pos (by omega)]at this
 (with_reducible repeat' first|refine Xk ?_<;>try simp|refine Xs ?_ ?_<;>intro h<;>(try intro h')<;>(try simp[h])<;>(try omega)|refine Xg ?_|omega)
 refine Yc (f192 l 0 (by omega)) ?_
 simp[hl,Vc,Xc,lI,chunks]
 (with_reducible repeat' first|refine Xk ?_<;>try simp|refine Xs ?_ ?_<;>intro h<;>(try intro h')<;>(try simp[h])<;>(try omega)|refine Xg ?_|omega)
 have Uu:=Wv (e7 (gt l 1) 8) (e7 (gt l 2) 8) (e7 (e7 (gt l 1) 8+4) 8) (e7 (gt l 3) 6) (e7 (gt l 4) 4) (by omega) (by omega) (by omega) (by omega) (by omega)
 have hlen:(sH (e7 (gt l 1) 8) (e7 (gt l 2) 8) (e7 (e7 (gt l 1) 8+4) 8) (e7 (gt l 3) 6) (e7 (gt l 4) 4)).length=16:=rfl
 have hg:∀ m:Int,0≤m→m<16→gt (sH (e7 (gt l 1) 8) (e7 (gt l 2) 8) (e7 (e7 (gt l 1) 8+4) 8) (e7 (gt l 3) 6) (e7 (gt l 4) 4)) m∈sH (e7 (gt l 1) 8) (e7 (gt l 2) 8) (e7 (e7 (gt l 1) 8+4) 8) (e7 (gt l 3) 6) (e7 (gt l 4) 4):=fun m a b=>eY a (by omega)
 refine oA.i (a:=gq (gt (sH (e7 (gt l 1) 8) (e7 (gt l 2) 8) (e7 (e7 (gt l 1) 8+4) 8) (e7 (gt l 3) 6) (e7 (gt l 4) 4)) (e7 (gt l 0) 16))) ?_ ?_
 ·exact Wu _ _ _ _ _ _ (by omega) (by omega)
 ·simp
  exact Ey.i (gt (sH (e7 (gt l 1) 8) (e7 (gt l 2) 8) (e7 (e7 (gt l 1) 8+4) 8) (e7 (gt l 3) 6) (e7 (gt l 4) 4)) (e7 (gt l 0) 16)) rfl rfl (Uu _ (hg _ (by omega) (by omega)))
