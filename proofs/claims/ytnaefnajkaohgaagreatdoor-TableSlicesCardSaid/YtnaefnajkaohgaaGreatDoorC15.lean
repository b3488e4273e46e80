/- Part 15 of the proof of skewer.skewerlaw15.TableSlices. -/
import Derived.Test.YtnaefnajkaohgaaGreatDoorC14
import Derived.Test.YtnaefnajkaohgaaGreatDoorC06
import Derived.Test.YtnaefnajkaohgaaGreatDoorC07
import Derived.Test.YtnaefnajkaohgaaGreatDoorC13
set_option linter.all false
namespace Go.Proofs.YtnaefnajkaohgaaGreatDoor
open Go Go.AL Classical
set_option maxRecDepth 10000
set_option maxHeartbeats 1000000
theorem dMv{g:Game}{p:Pos}(h:¬ ended g p){r:List Pos}(hs:Sorted r)(hm:∀ q,q∈r↔IsMove g p q):dPs r=mvD g p:=by
 unfold mvD;rw[if_neg h,mvL_eq hs hm]
theorem f60(g:Game)(hg:GameOK g)(p:Pos)(hp:PosOK g p):Wf T 60 [dG g,dP p] [] (Is (mvD g p)):=by
 refine Yz F60 (insB 66 [2] F60.body) ?_
 simp[F60,insB,insC,befK,froK,hasK,headIs]
 refine Yc (f106 g hg p hp) ?_
 simp
 (with_reducible repeat' first|refine Xk ?_<;>try simp|refine Xs ?_ ?_<;>intro h<;>(try intro h')<;>(try simp[h])<;>(try omega)|refine Xg ?_|omega)
 ·unfold mvD;rw[if_pos (endI_nonneg.1 ‹_›)]
 have hne:¬ ended g p:=fun h2=>h (endI_nonneg.2 h2)
 refine Yq (f107 g hg p hp) fun l hl=>?_
 simp
 have hl2:=hl.2
 refine XLoop.e ((0,false):Int×Bool) (fun y=>[(2,.ptr 0 0 0),(3,.ptr 1 0 0),(5,dOut l),(6,.osl 2 0 5 0 0),(7,.b y.2),(8,.i y.1)]) (fun y=>[.row 41 0 g.cells,.row 44 0 p.cells,.row 44 0 []]) (fun y=>0≤y.1∧y.1≤l.length∧(y.2=true↔g.must=true∧∃ o∈l.take y.1.toNat,o.took=true)) (fun y=>l.length-y.1.toNat) ?_ ?_
 ·simp
 rintro⟨i,must⟩ ⟨h0,h1,h2⟩
 dsimp only at h0 h1 h2 ⊢
 by_cases hil:i<l.length
 ·have e:∀ o,o∈l.take (i+1).toNat↔o∈l.take i.toNat∨o=gt l i:=fun o=>by rw[take_gt h0 hil,List.mem_append,List.mem_singleton]
  cases hgm:g.must<;>cases must<;>simp[hgm,hil]
  ·(with_reducible repeat' first|refine Xk ?_<;>try simp|refine Xs ?_ ?_<;>intro h<;>(try intro h')<;>(try simp[h])<;>(try omega)|refine Xg ?_|omega)
   refine LJ.i (i+1,false) (by first|rfl|simp[hgm]) (by first|rfl|simp[hgm]) rfl rfl ?_
   dsimp only
   exact⟨by omega,by omega,by omega,by simp[hgm]⟩
  ·simp[hgm]at h2
  ·(with_reducible repeat' first|refine Xk ?_<;>try simp|refine Xs ?_ ?_<;>intro h<;>(try intro h')<;>(try simp[h])<;>(try omega)|refine Xg ?_|omega)
   refine LJ.i (i+1,(gt l i).took) (by first|rfl|simp[hgm]) (by first|rfl|simp[hgm]) rfl rfl ?_
   dsimp only
   refine⟨by omega,by omega,by omega,?_⟩
   simp[hgm]at h2 ⊢
   constructor
   ·intro h;exact⟨_,(e _).2 (.inr rfl),h⟩
   ·rintro⟨o,ho,h⟩
    rcases(e o).1 ho with ho|ho
    ·exact absurd h (by simpa using h2 o ho)
    ·rw[← ho];exact h
  ·(with_reducible repeat' first|refine Xk ?_<;>try simp|refine Xs ?_ ?_<;>intro h<;>(try intro h')<;>(try simp[h])<;>(try omega)|refine Xg ?_|omega)
   refine LJ.i (i+1,true) (by first|rfl|simp[hgm]) (by first|rfl|simp[hgm]) rfl rfl ?_
   dsimp only
   refine⟨by omega,by omega,by omega,?_⟩
   simp[hgm]at h2 ⊢
   obtain⟨o,ho,h⟩:=h2
   exact⟨o,(e o).2 (.inl ho),h⟩
 ·simp[hil]
  rw[take_all (by omega)]at h2
  refine XLoop.e ((0,0,[]):Int×Nat×List Pos) (fun y=>[(2,.ptr 0 0 0),(3,.ptr 1 0 0),(5,dOut l),(6,.osl 2 y.2.1 5 0 y.2.2.length),(7,.b must),(9,.i y.1)]) (fun y=>[.row 41 0 g.cells,.row 44 0 p.cells,.row 44 y.2.1 (cl Pos.cells y.2.2)]) (fun y=>0≤y.1∧y.1≤l.length∧(∀ q,q∈y.2.2↔∃ o∈l.take y.1.toNat,(must=true→o.took=true)∧o.p=q)∧y.2.2.length≤y.1.toNat) (fun y=>l.length-y.1.toNat) ?_ ?_
  ·simp
  rintro⟨j,gn,out⟩ ⟨j0,j1,j2,j3⟩
  dsimp only at j0 j1 j2 j3 ⊢
  by_cases hjl:j<l.length
  ·have e:∀ o,o∈l.take (j+1).toNat↔o∈l.take j.toNat∨o=gt l j:=fun o=>by rw[take_gt j0 hjl,List.mem_append,List.mem_singleton]
   simp[hjl]
   cases must<;>simp
   ·(with_reducible repeat' first|refine Xk ?_<;>try simp|refine Xs ?_ ?_<;>intro h<;>(try intro h')<;>(try simp[h])<;>(try omega)|refine Xg ?_|omega)
    refine LJ.e (j+1,gn+1,out ++ [(gt l j).p]) ?_
    dsimp only
    refine⟨by omega,by omega,by omega,fun q=>?_,by simp;omega⟩
    rw[List.mem_append,List.mem_singleton,j2]
    simp only[e]
    constructor
    ·rintro(⟨o,a,b⟩|a)
     ·exact⟨o,.inl a,b⟩
     ·exact⟨_,.inr rfl,(fun h=>by cases h),a.symm⟩
    ·rintro⟨o,a|a,b,d⟩
     ·exact .inl ⟨o,a,b,d⟩
     ·subst a;exact .inr d.symm
   ·(with_reducible repeat' first|refine Xk ?_<;>try simp|refine Xs ?_ ?_<;>intro h<;>(try intro h')<;>(try simp[h])<;>(try omega)|refine Xg ?_|omega)
    ·skip
     refine LJ.e (j+1,gn+1,out ++ [(gt l j).p]) ?_
     dsimp only
     refine⟨by omega,by omega,by omega,fun q=>?_,by simp;omega⟩
     rw[List.mem_append,List.mem_singleton,j2]
     simp only[e]
     constructor
     ·rintro(⟨o,a,b⟩|a)
      ·exact⟨o,.inl a,b⟩
      ·exact⟨_,.inr rfl,(fun _ => ‹_›),a.symm⟩
     ·rintro⟨o,a|a,b,d⟩
      ·exact .inl ⟨o,a,b,d⟩
      ·subst a;exact .inr d.symm
    ·refine LJ.e (j+1,gn,out) ?_
     dsimp only
     refine⟨by omega,by omega,by omega,fun q=>?_,by omega⟩
     rw[j2]
     simp only[e]
     constructor
     ·rintro⟨o,a,b⟩
      exact⟨o,.inl a,b⟩
     ·rintro⟨o,a|a,b,d⟩
      ·exact⟨o,a,b,d⟩
      ·subst a;have:=b trivial;simp_all
  ·simp[hjl]
   rw[take_all (by omega)]at j2
   have hso:∀ q∈out,Small q:=fun q hq=>by
    obtain⟨o,a,_,rfl⟩:=(j2 q).1 hq
    exact(outsL_ok hg hp ((hl.1 o).1 a)).small hg
   cases must<;>simp
   ·have hm:¬ (g.must=true∧∃ o∈outsL g p,o.took=true):=by
     simp only[← hl.1]
     exact fun h=>by have:=h2.2 h;cases this
    refine Yq (f108 g hg p hp) fun dr hdr=>?_
    simp
    (with_reducible repeat' first|refine Xk ?_<;>try simp|refine Xs ?_ ?_<;>intro h<;>(try intro h')<;>(try simp[h])<;>(try omega)|refine Xg ?_|omega)
    refine Yq (f61 (out++dr) (by simp;omega) (fun q hq=>(List.mem_append.1 hq).elim (hso q) (fun h=>drops_small hg hp ((hdr.2.2 q).1 h)))) fun r hr=>?_
    simp
    refine dMv hne hr.1 fun q=>?_
    rw[hr.2.2,List.mem_append,hdr.2.2,j2]
    unfold IsMove
    rw[if_neg hm]
    simp only[not_ended hne,hl.1]
    simp
    exact fun _ c hc=>not_ended hne c hc
   ·have hm:=h2.1 rfl
    refine Yq (f61 out (by omega) hso) fun r hr=>?_
    simp
    refine dMv hne hr.1 fun q=>?_
    rw[hr.2.2,j2]
    unfold IsMove
    simp only[hl.1]at hm ⊢
    rw[if_pos hm]
    constructor
    ·rintro⟨o,a,b,rfl⟩
     have:=b trivial
     refine⟨not_ended hne,?_⟩
     cases o;simp_all
    ·rintro⟨_,a⟩
     exact⟨_,a,fun _=>rfl,rfl⟩
set_option maxRecDepth 10000
set_option maxHeartbeats 1000000
theorem f58(g:Game)(hg:GameOK g)(p:Pos)(hp:PosOK g p)(l:List Int)(hl:l.length≤100)(h0:∀ n∈l,0≤n∧n<256):Wf T 58 [dG g,dP p,dI l] [] (Ey dPs fun r=>(0<r.length∧r.length≤101)∧∀ q∈r,PosOK g q):=by
 refine Yg F58 ?_
 simp[F58]
 refine XLoop.e ((0,p,0,[p]):Int×Pos×Nat×List Pos) (fun y=>[(2,dI l),(3,.ptr 0 0 0),(4,.ptr 1 0 0),(7,.osl 2 y.2.2.1 5 0 y.2.2.2.length),(8,.i y.1)]) (fun y=>[.row 41 0 g.cells,.row 44 0 y.2.1.cells,.row 44 y.2.2.1 (cl Pos.cells y.2.2.2)]) (fun y=>0≤y.1∧y.1≤l.length∧PosOK g y.2.1∧(0<y.2.2.2.length∧y.2.2.2.length≤y.1.toNat+1)∧∀ q∈y.2.2.2,PosOK g q) (fun y=>l.length-y.1.toNat) ?_ ?_
 ·simp;exact hp
 rintro⟨i,p,gn,out⟩ ⟨i0,i1,hp,i2,i3⟩
 dsimp only at i0 i1 hp i2 i3 ⊢
 simp
 (with_reducible repeat' first|refine Xk ?_<;>try simp|refine Xs ?_ ?_<;>intro h<;>(try intro h')<;>(try simp[h])<;>(try omega)|refine Xg ?_|omega)
 ·refine Yc (f60 g hg p hp) ?_
  simp
  have hn:=h0 _ (gt_mem i0 ‹_›)
  have hrm:0<(mvL g p).length→0≤remI (gt l i) (mvL g p).length∧remI (gt l i) (mvL g p).length<(mvL g p).length:=fun h=>by
   rw[remI_eq hn.1]
   exact⟨Int.emod_nonneg _ (by omega),Int.emod_lt_of_pos _ (by omega)⟩
  (with_reducible repeat' first|refine Xk ?_<;>try simp|refine Xs ?_ ?_<;>intro h<;>(try intro h')<;>(try simp[h])<;>(try omega)|refine Xg ?_|omega)
  ·exact Ey.i out rfl rfl ⟨by omega,by omega,i3⟩
  ·have hlen:0<(mvL g p).length:=List.length_pos_iff.2 ‹_›
   have:=hrm hlen
   omega
  ·have hlen:0<(mvL g p).length:=List.length_pos_iff.2 ‹_›
   have:=hrm hlen
   (with_reducible repeat' first|refine Xk ?_<;>try simp|refine Xs ?_ ?_<;>intro h<;>(try intro h')<;>(try simp[h])<;>(try omega)|refine Xg ?_|omega)
   have hok:=move_ok hg hp (mvL_mem.1 (gt_mem (l:=mvL g p) this.1 this.2))
   refine LJ.e (i+1,gt (mvL g p) (remI (gt l i) (mvL g p).length),gn+1,out ++ [gt (mvL g p) (remI (gt l i) (mvL g p).length)]) ?_
   dsimp only
   refine⟨by omega,by omega,by omega,hok,by simp;omega,fun q hq=>?_⟩
   rcases List.mem_append.1 hq with hq|hq
   ·exact i3 q hq
   ·rw[List.mem_singleton]at hq;subst hq;exact hok
 ·exact Ey.i out rfl rfl ⟨by omega,by omega,i3⟩
structure WithI(g:Game)(p:Pos)(all last:List Pos):Prop where
 srt:Sorted all
 ok:∀ q∈all,PosOK g q
 has:p∈all
 sub:∀ q∈last,q∈all
 cl:∀ q∈all,q ∉ last→∀ m,IsMove g q m→m∈all
 len:all.length≤80
 len2:last.length≤all.length
theorem WithI.step{g:Game}(hg:GameOK g){p:Pos}{all last next last' all':List Pos}(h:WithI g p all last)(hn:∀ m,m∈next↔∃ q∈last,IsMove g q m)(hl:∀ m,m∈last'↔m∈next∧m ∉ all)
  (hnd:last'.Nodup) (hs:Sorted all') (ha:∀ q,q∈all'↔q∈all∨q∈last') (hlen:all'.length≤80):WithI g p all' last'∧(last'≠[]→all.length<all'.length)∧all.length≤all'.length:=by
 have h1:all.length+last'.length≤all'.length:=by
  rw[← List.length_append]
  refine nodup_len (List.nodup_append.2 ⟨h.srt.nodup,hnd,fun a ha b hb e=>?_⟩) fun x hx=>(ha x).2 (List.mem_append.1 hx)
  subst e;exact((hl a).1 hb).2 ha
 refine⟨⟨hs,fun q hq=>?_,(ha p).2 (.inl h.has),fun q hq=>(ha q).2 (.inr hq),fun q hq hq2 m hm=>?_,hlen,by omega⟩,fun he=>?_,by omega⟩
 ·rcases(ha q).1 hq with hq|hq
  ·exact h.ok q hq
  ·obtain⟨r,hr,hm⟩:=(hn q).1 ((hl q).1 hq).1
   exact move_ok hg (h.ok r (h.sub r hr)) hm
 ·rcases(ha q).1 hq with hq|hq
  ·by_cases hql:q∈last
   ·by_cases hma:m∈all
    ·exact(ha m).2 (.inl hma)
    ·exact(ha m).2 (.inr ((hl m).2 ⟨(hn m).2 ⟨q,hql,hm⟩,hma⟩))
   ·exact(ha m).2 (.inl (h.cl q hq hql m hm))
  ·exact absurd hq hq2
 ·have:0<last'.length:=List.length_pos_iff.2 he
  omega
structure Closed(g:Game)(l:List Pos):Prop where
 srt:Sorted l
 ok:∀ q∈l,PosOK g q
 cl:∀ q∈l,∀ m,IsMove g q m→m∈l
 len:0<l.length∧l.length≤80
theorem f33(g:Game)(hg:GameOK g)(p:Pos)(hp:PosOK g p):Wf T 33 [dG g,dP p,.i 80] [] (Ey (fun x:Bool×List Pos=>.agg [if x.1 then dPs x.2 else .emp,.i (if x.1 then 0 else 2)]) (fun x=>x.1=true→Closed g x.2)):=by
 have hsm:=hp.small hg
 refine Yz F33 (insC 62 [6,7] (insB 34 [5] F33.body)) ?_
 simp[F33,insB,insC,befK,froK,hasK,headIs]
 refine XLoop.fz [3,4] rfl ?_
 refine XLoop.e (([p],[p]):List Pos×List Pos) (fun y=>[(2,.i 80),(3,.ptr 0 0 0),(6,.ptr 2 0 0),(7,dPs y.1),(8,dPs y.2)]) (fun y=>[.row 41 0 g.cells,.row 44 0 p.cells,.row 92 0 [.emp,.i 0],.dead,.dead]) (fun y=>WithI g p y.1 y.2) (fun y=>(81-y.1.length)*2+(if y.2 = []then 0 else 1)) ?_ ?_
 ·refine⟨fun i h1 h2=>by simp at h2;omega,by simpa using hp,by simp,by simp,by simp,by simp,by simp⟩
 rintro⟨all,last⟩ hI
 have hl1:=hI.len
 have hl2:=hI.len2
 dsimp only at hI hl1 hl2 ⊢
 simp
 (with_reducible repeat' first|refine Xk ?_<;>try simp|refine Xs ?_ ?_<;>intro h<;>(try intro h')<;>(try simp[h])<;>(try omega)|refine Xg ?_|omega)
 ·refine XLoop.e ((0,0,[]):Int×Nat×List Pos) (fun y=>[(2,.i 80),(3,.ptr 0 0 0),(6,.ptr 2 0 0),(7,dPs all),(8,dPs last),(9,.osl 5 y.2.1 5 0 y.2.2.length),(10,.i y.1)]) (fun y=>[.row 41 0 g.cells,.row 44 0 p.cells,.row 92 0 [.emp,.i 0],.dead,.dead,.row 44 y.2.1 (cl Pos.cells y.2.2)]) (fun y=>0≤y.1∧y.1≤last.length∧(∀ m,m∈y.2.2↔∃ q∈last.take y.1.toNat,IsMove g q m)∧y.2.2.length≤y.1.toNat*4000000000) (fun y=>last.length-y.1.toNat) ?_ ?_
  ·simp
  rintro⟨i,gn,nx⟩ ⟨i0,i1,i2,i3⟩
  dsimp only at i0 i1 i2 i3 ⊢
  simp
  (with_reducible repeat' first|refine Xk ?_<;>try simp|refine Xs ?_ ?_<;>intro h<;>(try intro h')<;>(try simp[h])<;>(try omega)|refine Xg ?_|omega)
  ·have hq:=hI.ok _ (hI.sub _ (gt_mem i0 ‹_›))
   have hml:=mvL_len hg hq
   refine Yt (f60 g hg _ hq) ?_
   simp
   (with_reducible repeat' first|refine Xk ?_<;>try simp|refine Xs ?_ ?_<;>intro h<;>(try intro h')<;>(try simp[h])<;>(try omega)|refine Xg ?_|omega)
   refine LJ.e (i+1,gn+1,nx++mvL g (gt last i)) ?_
   dsimp only
   refine⟨by omega,by omega,by omega,fun m=>?_,?_⟩
   ·rw[List.mem_append,i2,mvL_mem,take_gt i0 ‹_›]
    simp only[List.mem_append,List.mem_singleton]
    constructor
    ·rintro(⟨q,a,b⟩|a)
     ·exact⟨q,.inl a,b⟩
     ·exact⟨_,.inr rfl,a⟩
    ·rintro⟨q,a|rfl,b⟩
     ·exact .inl ⟨q,a,b⟩
     ·exact .inr b
   ·rw[List.length_append,show(i+1).toNat=i.toNat+1 by omega,Nat.succ_mul]
    omega
  ·rw[take_all (by omega)]at i2
   have hns:∀ q∈nx,PosOK g q:=fun q hq=>by
    obtain⟨r,hr,hm⟩:=(i2 q).1 hq
    exact move_ok hg (hI.ok r (hI.sub r hr)) hm
   refine Yc (f61s nx (by omega) (fun q hq=>(hns q hq).small hg)) ?_
   simp
   have hsl:=sortP_len nx
   have hsn:=Sorted.nodup (sortP_srt nx)
   have hsm2:∀ q,q∈sortP nx↔∃ r∈last,IsMove g r q:=fun q=>by rw[sortP_mem,i2]
   have hns2:∀ q∈sortP nx,Small q:=fun q hq=>(hns q (sortP_mem.1 hq)).small hg
   generalize hN:sortP nx=N at *
   refine XLoop.e ((0,0,[]):Int×Nat×List Pos) (fun y=>[(2,.i 80),(3,.ptr 0 0 0),(6,.ptr 2 0 0),(7,dPs all),(8,.osl 6 y.2.1 5 0 y.2.2.length),(9,dPs N),(11,.i y.1)]) (fun y=>[.row 41 0 g.cells,.row 44 0 p.cells,.row 92 0 [.emp,.i 0],.dead,.dead,.dead,.row 44 y.2.1 (cl Pos.cells y.2.2)]) (fun y=>0≤y.1∧y.1≤N.length∧(∀ m,m∈y.2.2↔m∈N.take y.1.toNat∧m ∉ all)∧y.2.2.Nodup∧y.2.2.length≤y.1.toNat) (fun y=>N.length-y.1.toNat) ?_ ?_
   ·simp
   rintro⟨j,gm,l'⟩ ⟨j0,j1,j2,j3,j4⟩
   dsimp only at j0 j1 j2 j3 j4 ⊢
   simp
   (with_reducible repeat' first|refine Xk ?_<;>try simp|refine Xs ?_ ?_<;>intro h<;>(try intro h')<;>(try simp[h])<;>(try omega)|refine Xg ?_|omega)
   ·refine Yc (f27 all (gt N j) (by omega) (fun q hq=>(hI.ok q hq).small hg) (hns2 _ (gt_mem j0 ‹_›)) hI.srt) ?_
    simp
    have hf:findP all (gt N j)<0↔gt N j ∉ all:=by
     by_cases hm:gt N j∈all
     ·have:=findP_gt hm
      simp[hm];omega
     ·rw[findP_no hm];simp[hm]
    (with_reducible repeat' first|refine Xk ?_<;>try simp|refine Xs ?_ ?_<;>intro h<;>(try intro h')<;>(try simp[h])<;>(try omega)|refine Xg ?_|omega)
    ·refine LJ.e (j+1,gm+1,l' ++ [gt N j]) ?_
     dsimp only
     have hnn:gt N j ∉ l':=fun hm=>by
      have:=(j2 _).1 hm
      obtain⟨k,hk,e⟩:=List.mem_take_iff_getElem.1 this.1
      refine List.pairwise_iff_getElem.1 hsn k j.toNat (by omega) (by omega) (by omega) ?_
      rw[e,gt_eq j0 ‹_›]
     refine⟨by omega,by omega,by omega,fun m=>?_,List.nodup_append.2 ⟨j3,by simp,fun a ha b hb e=>?_⟩,by simp;omega⟩
     ·rw[List.mem_append,j2,take_gt j0 ‹_›,List.mem_append,List.mem_singleton]
      constructor
      ·rintro(⟨a,b⟩|rfl)
       ·exact⟨.inl a,b⟩
       ·exact⟨.inr rfl,hf.1 h⟩
      ·rintro⟨a|a,b⟩
       ·exact .inl ⟨a,b⟩
       ·exact .inr a
     ·rw[List.mem_singleton]at hb;subst hb;subst e;exact hnn ha
    ·refine LJ.e (j+1,gm,l') ?_
     dsimp only
     refine⟨by omega,by omega,by omega,fun m=>?_,j3,by omega⟩
     rw[j2,take_gt j0 ‹_›,List.mem_append,List.mem_singleton]
     constructor
     ·rintro⟨a,b⟩
      exact⟨.inl a,b⟩
     ·rintro⟨a|rfl,b⟩
      ·exact⟨a,b⟩
      ·exact absurd (hf.2 b) h
   ·rw[take_all (by omega)]at j2
    refine Yc (f61s (all++l') (by simp;omega) (fun q hq=>(List.mem_append.1 hq).elim (fun h=>(hI.ok q h).small hg) fun h=>hns2 q ((j2 q).1 h).1)) ?_
    simp
    have hst:=hI.step hg (next:=N) (last':=l') (all':=sortP (all++l')) hsm2 j2 j3 (sortP_srt _) (fun q=>by rw[sortP_mem,List.mem_append])
    (with_reducible repeat' first|refine Xk ?_<;>try simp|refine Xs ?_ ?_<;>intro h<;>(try intro h')<;>(try simp[h])<;>(try omega)|refine Xg ?_|omega)
    ·exact Ey.i (false,[]) (by simp) rfl (fun h=>by cases h)
    ·obtain⟨h1,h2,h3⟩:=hst (by omega)
     refine LJ.e (sortP (all++l'),l') ?_
     dsimp only
     refine⟨?_,h1⟩
     have hlast:last≠[]:=fun e=>by subst e;simp at *
     rw[if_neg hlast]
     by_cases e:l' = []
     ·rw[if_pos e];omega
     ·have:=h2 e
      rw[if_neg e];have:=h1.len;omega
 ·refine Ey.i (true,all) (by simp) rfl fun _=>⟨hI.srt,hI.ok,fun q hq=>hI.cl q hq ?_,?_⟩
  ·have:last = []:=List.length_eq_zero_iff.1 (by omega)
   rw[this];simp
  ·have:=List.length_pos_of_mem hI.has
   exact⟨this,hl1⟩
end Go.Proofs.YtnaefnajkaohgaaGreatDoor
namespace Go.AL
open Go
def opOK(S:List Nat):IOp→Bool
 | .call f _ | .callN f _=>elem f S
 | .callv _ _=>false
 | .nextM _=>false
 | _=>true
def entsOK(S:List Nat):List IEnt→Bool
 | []=>true
 | e::r=>opOK S e.op&&entsOK S r
def irOK(S:List Nat):IR→Bool
 | .ops l=>entsOK S l
 | .draw _ l=>entsOK S l
 | .drawL _ l es=>entsOK S l&&entsOK S es
 | .seq a b=>irOK S a&&irOK S b
 | .cond _ a b=>irOK S a&&irOK S b
 | .block _ _ a=>irOK S a
 | .loop _ a=>irOK S a
 | .rangeF _ _ _=>false
 | _=>true
def jobOK(S:List Nat):Job→Bool
 | .ops l _=>entsOK S l
 | .code c _=>irOK S c
 | .loop _ _ a _=>irOK S a
 | .call f _ _=>elem f S
 | .trace l _=>entsOK S l
def One(T:Tab)(j:Job)(R:Res→Prop):Prop:=match j with
 | .ops _ _ | .code _ _ | .loop _ _ _ _=>∃ o,R (.out o)∧Ev T j (fun r=>r = .out o)
 | .call _ _ _=>∃ d H,R (.val d H)∧Ev T j (fun r=>r = .val d H)
 | .trace _ _=>∃ rs s,R (.tr rs s)∧Ev T j (fun r=>r = .tr rs s)
theorem One.mono{T:Tab}{j:Job}{R R':Res→Prop}(h:One T j R)(hi:∀ r,R r→R' r):One T j R':=by
 cases j with
 | call f a H=>obtain⟨d,H',h1,h2⟩:=h;exact⟨d,H',hi _ h1,h2⟩
 | trace l s=>obtain⟨d,H',h1,h2⟩:=h;exact⟨d,H',hi _ h1,h2⟩
 | _=>obtain⟨o,h1,h2⟩:=h;exact⟨o,hi _ h1,h2⟩
theorem opOK_calleeOf{S:List Nat}{env:EnvF}{op:IOp}{f:FuncId}{args:List D}(h:opOK S op=true)(hc:calleeOf env op=some (f,args)):elem f S=true:=by
 cases op<;>first|(cases hc;exact h)|(cases h;done)|(cases hc;done)
section
variable{T:Tab}{S:List Nat}(hS:∀ f fn,elem f S=true→T.fn f=some fn→irOK S fn.body=true)(hN:∀ f,elem f S=true→T.sort f=none∧T.sortI f=false)
include hS hN
theorem one_of{j:Job}{R:Res→Prop}(h:Ev T j R):jobOK S j=true→One T j R:=by
 induction h with
 | mono h hi ih=>exact fun hj=>(ih hj).mono hi
 | sort fc l cf hs=>intro hj;rw[(hN _ hj).1]at hs;cases hs
 | sortE hs=>intro hj;rw[(hN _ hj).1]at hs;cases hs
 | sortI l hs=>intro hj;rw[(hN _ hj).2]at hs;cases hs
 | nil h=>exact fun _=>⟨_,h,.nil rfl⟩
 | op hg h t ih=>
  intro hj
  simp only[jobOK,entsOK,Bool.and_eq_true]at hj
  obtain⟨o,h1,h2⟩:=ih hj.2
  exact⟨o,h1,.op hg h h2⟩
 | sop hg h t ih=>
  intro hj
  simp only[jobOK,entsOK,Bool.and_eq_true]at hj
  obtain⟨o,h1,h2⟩:=ih hj.2
  exact⟨o,h1,.sop hg h h2⟩
 | off hg t ih=>
  intro hj
  simp only[jobOK,entsOK,Bool.and_eq_true]at hj
  obtain⟨o,h1,h2⟩:=ih hj.2
  exact⟨o,h1,.off hg h2⟩
 | frz S' hm t ih=>intro hj;obtain⟨o,h1,h2⟩:=ih hj;exact⟨o,h1,.frz S' hm h2⟩
 | frzC S' hm t ih=>intro hj;obtain⟨o,h1,h2⟩:=ih hj;exact⟨o,h1,.frzC S' hm h2⟩
 | forgO live t ih=>intro hj;obtain⟨o,h1,h2⟩:=ih hj;exact⟨o,h1,.forgO live h2⟩
 | forg live t ih=>intro hj;obtain⟨o,h1,h2⟩:=ih hj;exact⟨o,h1,.forg live h2⟩
 | callP hg hc hf hp h ha t ih iht=>
  intro hj
  simp only[jobOK,entsOK,Bool.and_eq_true]at hj
  obtain⟨d,Hn,h1,h2⟩:=ih (opOK_calleeOf hj.1 hc)
  obtain⟨s',hs'⟩:=Option.isSome_iff_exists.1 (ha d Hn h1)
  obtain⟨o,h3,h4⟩:=iht d Hn s' h1 hs' hj.2
  exact⟨o,h3,.callP hg hc hf hp h2 (fun d' Hn' e=>by cases e;exact ha _ _ h1) fun d' Hn' s2 e hs2=>by
   cases e;rw[hs']at hs2;cases hs2;exact h4⟩
 | callF hg hc hf hp h t ih iht=>
  intro hj
  simp only[jobOK,entsOK,Bool.and_eq_true]at hj
  obtain⟨d,Hn,h1,h2⟩:=ih (opOK_calleeOf hj.1 hc)
  obtain⟨o,h3,h4⟩:=iht d Hn h1 hj.2
  exact⟨o,h3,.callF hg hc hf hp h2 fun d' Hn' e=>by cases e;exact h4⟩
 | @callY e r s v args rf env0 Rd Ra Rb R hg hc=>
  intro hj
  simp only[jobOK,entsOK,Bool.and_eq_true]at hj
  exfalso
  have h1:=hj.1
  revert hc h1
  cases e.op<;>intro hc h1<;>first|(cases hc;done)|(cases h1;done)
 | next hg hop=>
  intro hj
  simp only[jobOK,entsOK,Bool.and_eq_true]at hj
  have h1:=hj.1
  rw[hop]at h1;cases h1
 | trNil h=>exact fun _=>⟨_,_,h,.trNil rfl⟩
 | trOp hg h t k ih=>
  intro hj
  simp only[jobOK,entsOK,Bool.and_eq_true]at hj
  obtain⟨rs,s',h1,h2⟩:=ih hj.2
  exact⟨_,s',k rs s' h1,.trOp hg h h2 fun rs2 s2 e=>by cases e;rfl⟩
 | trOff hg t k ih=>
  intro hj
  simp only[jobOK,entsOK,Bool.and_eq_true]at hj
  obtain⟨rs,s',h1,h2⟩:=ih hj.2
  exact⟨_,s',k rs s' h1,.trOff hg h2 fun rs2 s2 e=>by cases e;rfl⟩
 | trCall hg hc hf hp h h0 hr t k ih iht=>
  intro hj
  simp only[jobOK,entsOK,Bool.and_eq_true]at hj
  obtain⟨rs,s',h1,h2⟩:=iht hj.2
  exact⟨_,s',k rs s' h1,.trCall hg hc hf hp h h0 hr h2 fun rs2 s2 e=>by cases e;rfl⟩
 | trCallN hg hop ha hf hp h h0 hr t k ih iht=>
  intro hj
  simp only[jobOK,entsOK,Bool.and_eq_true]at hj
  obtain⟨rs,s',h1,h2⟩:=iht hj.2
  exact⟨_,s',k rs s' h1,.trCallN hg hop ha hf hp h h0 hr h2 fun rs2 s2 e=>by cases e;rfl⟩
 | trCallZ hg hop ha hf hp hSv hv hrow hcl h h0 hr t k ih iht=>
  intro hj
  simp only[jobOK,entsOK,Bool.and_eq_true]at hj
  obtain⟨rs,s',h1,h2⟩:=iht hj.2
  exact⟨_,s',k rs s' h1,.trCallZ hg hop ha hf hp hSv hv hrow hcl h h0 hr h2 fun rs2 s2 e=>by cases e;rfl⟩
 | draw t hp ih=>
  intro hj
  obtain⟨rs,s',h1,h2⟩:=ih hj
  exact⟨_,(hp rs s' h1).2,.draw h2 fun rs2 s2 e=>by cases e;exact⟨(hp rs s' h1).1,rfl⟩⟩
 | drawL t hp k ih ihk=>
  intro hj
  simp only[jobOK,irOK,Bool.and_eq_true]at hj
  obtain⟨rs,s',h1,h2⟩:=ih hj.1
  obtain⟨o,h3,h4⟩:=ihk rs s' h1 hj.2
  exact⟨o,h3,.drawL h2 (fun rs2 s2 e=>by cases e;exact hp _ _ h1) fun rs2 s2 e=>by cases e;exact h4⟩
 | skip h=>exact fun _=>⟨_,h,.skip rfl⟩
 | cops h ih=>intro hj;obtain⟨o,h1,h2⟩:=ih hj;exact⟨o,h1,.cops h2⟩
 | seq h k hs ih ihk=>
  intro hj
  simp only[jobOK,irOK,Bool.and_eq_true]at hj
  obtain⟨o,h1,h2⟩:=ih hj.1
  cases o with
  | norm s'=>
   obtain⟨o,h3,h4⟩:=ihk s' h1 hj.2
   exact⟨o,h3,.seq h2 (fun s2 e=>by cases e;exact h4) fun o e hs=>by cases e;cases hs⟩
  | exit id s'=>exact⟨_,hs _ h1 rfl,.seq h2 (fun s2 e=>by cases e) fun o e hs=>by cases e;rfl⟩
  | ret s'=>exact⟨_,hs _ h1 rfl,.seq h2 (fun s2 e=>by cases e) fun o e hs=>by cases e;rfl⟩
 | @cond c a b s x R hc h ih=>
  intro hj
  simp only[jobOK,irOK,Bool.and_eq_true]at hj
  obtain⟨o,h1,h2⟩:=ih (by cases x;exact hj.2;exact hj.1)
  exact⟨o,h1,.cond hc h2⟩
 | block h k ih=>
  intro hj
  obtain⟨o,h1,h2⟩:=ih hj
  exact⟨_,k o h1,.block h2 fun o e=>by cases e;rfl⟩
 | loop h ih=>intro hj;obtain⟨o,h1,h2⟩:=ih hj;exact⟨o,h1,.loop h2⟩
 | loopI h k hs ih ihk=>
  intro hj
  obtain⟨o,h1,h2⟩:=ih hj
  cases o with
  | norm s'=>
   obtain⟨o,h3,h4⟩:=ihk s' h1 hj
   exact⟨o,h3,.loopI h2 (fun s2 e=>by cases e;exact h4) fun o e hs=>by cases e;cases hs⟩
  | exit id s'=>exact⟨_,hs _ h1 rfl,.loopI h2 (fun s2 e=>by cases e) fun o e hs=>by cases e;rfl⟩
  | ret s'=>exact⟨_,hs _ h1 rfl,.loopI h2 (fun s2 e=>by cases e) fun o e hs=>by cases e;rfl⟩
 | rangeF=>intro hj;cases hj
 | exit h=>exact fun _=>⟨_,h,.exit rfl⟩
 | ret h=>exact fun _=>⟨_,h,.ret rfl⟩
 | call own hf hl h k ih=>
  intro hj
  obtain⟨o,h1,h2⟩:=ih (hS _ _ hj hf)
  obtain⟨d,H',h3,h4⟩:=k o h1
  exact⟨d,H',h4,.call own hf hl h2 fun o' e=>by cases e;exact⟨d,H',h3,rfl⟩⟩
end
end Go.AL
namespace Go.AL
open Go
def chkL(S:List Nat):Nat→List (Option FnA)→Bool
 | _,[]=>true
 | k,a::l=>(bif elem k S then(match a with|some fn=>irOK S fn.body|none=>true)else true)&&chkL S (k+1) l
theorem chkL_get{S:List Nat}{fn:FnA}:∀ {l:List (Option FnA)} {k i:Nat},chkL S k l=true→nth l i=some fn→elem (k+i) S=true→irOK S fn.body=true
 | [],_,_,_,h,_=>by cases h
 | a::l,k,0,h,h2,h3=>by
  simp only[chkL,Bool.and_eq_true]at h
  cases h2
  rw[Nat.add_zero]at h3
  simpa only[h3,cond_true]using h.1
 | a::l,k,i+1,h,h2,h3=>by
  simp only[chkL,Bool.and_eq_true]at h
  exact chkL_get (l:=l) (k:=k+1) (i:=i) h.2 h2 (by rw[Nat.add_assoc,Nat.add_comm 1 i];exact h3)
theorem Wf.one{T:Tab}{S:List Nat}(hS:∀ f fn,elem f S=true→T.fn f=some fn→irOK S fn.body=true)(hN:∀ f,elem f S=true→T.sort f=none∧T.sortI f=false){f:FuncId}{args:List D}{H:Heap}{K:D→Heap→Prop}(h:Wf T f args H K)(hf:elem f S=true) :
  ∃ d H',K d H'∧Wf T f args H fun d2 H2=>d2=d∧H2=H':=by
 obtain⟨d,H',⟨d2,H2,e,h1⟩,h2⟩:=one_of hS hN h hf
 cases e
 exact⟨d,H',h1,Ev.mono h2 fun r e=>⟨_,_,e,rfl,rfl⟩⟩
end Go.AL
namespace Go.Proofs.YtnaefnajkaohgaaGreatDoor
open Go Go.AL
def refS:List Nat:=[12,13,14,17,22,24,25,27,32,33,34,35,36,37,38,39,50,51,57,58,59,60,61,62,63,64,65,66,67,68,69,93,94,95,104,105,106,107,108,109,110,111,112,149,150,151,152,153,154,155,156,192,193,194,195,227,228,229,250,251,252,253,254,255,263]
theorem refS_ok:∀ f fn,elem f refS=true→T.fn f=some fn→irOK refS fn.body=true:=fun f fn h h2=>
 chkL_get (S:=refS) (l:=fns) (k:=0) (i:=f) (by kernel_rfl) h2 (by rw[Nat.zero_add];exact h)
theorem refS_sort:∀ f,elem f refS=true→T.sort f=none∧T.sortI f=false:=fun f h=>by
 by_cases h1:f=87
 ·subst h1;exact absurd h (by decide)
 by_cases h2:f=123
 ·subst h2;exact absurd h (by decide)
 by_cases h3:f=160
 ·subst h3;exact absurd h (by decide)
 refine⟨?_,?_⟩
 ·show(if f=87 then some 5 else if f=123 then some 6 else none)=none
  rw[if_neg h1,if_neg h2]
 ·show Nat.beq f 160=false
  cases hb:Nat.beq f 160 with
  | false=>rfl
  | true=>exact absurd (Nat.eq_of_beq_eq_true hb) h3
section
variable{f:FuncId}{args:List D}{dst:Option Nat}{s:St}{fn:FnA}{R:List Fp}{Q:Rc→St→Prop}
theorem XTCall.q{α:Type}{g:α→D}{P:α→Prop}(hf:T.fn f=some fn)(hp:fn.full=false)(h1:elem f refS=true)(h:Wf T f args [] (Ex g P))(hc:closedL args=true)(hx:∀ r,closed (g r)=true)
  (k:∀ r,P r→Q ⟨R,[]⟩ { s with env:=put s.env dst (g r) }):XTCall T f args R dst s Q .mk:=by
 obtain⟨d,H',⟨r,rfl,rfl,hr⟩,h2⟩:=Wf.one refS_ok refS_sort h h1
 exact XTCall.c hf hp h2 hc (hx r) (k r hr)
end
theorem Yv{f:FuncId}{args:List D}{R:List Fp}{dst:Option Nat}{s:St}{Q:Rc→St→Prop}{fn:FnA}{α:Type}{g:α→D}{P:α→Prop}(h:Wf T f args [] (Ex g P))(k:∀ r,P r→Q ⟨R,[]⟩ { s with env:=put s.env dst (g r) })
  (hf:T.fn f=some fn:=by exact rfl) (hp:fn.full=false:=by exact rfl) (h1:elem f refS=true:=by exact rfl) (hc:closedL args=true:=by simp) (hx:∀ r,closed (g r)=true:=by intro;simp):XTCall T f args R dst s Q .mk:=XTCall.q hf hp h1 h hc hx k
end Go.Proofs.YtnaefnajkaohgaaGreatDoor
namespace Go.AL
open Go
abbrev Kn:=Int×Int×Bool
@[irreducible] def fK(x:Kn):List D:=[.i x.1,.i x.2.1,.b x.2.2]
@[simp] theorem fK_def(x:Kn):fK x = [.i x.1,.i x.2.1,.b x.2.2]:=by unfold fK;rfl
instance:Fl fK 3:=⟨fun _=>by simp,fun _=>by simp[closedL]⟩
@[simp] theorem clB_snoc(l:List Bool)(c:Bool):cl fB l ++ [.b c]=cl fB (l ++ [c]):=by rw[← cl_snoc,fB_def]
theorem cl_atE{α:Type}[Inhabited α]{f:α→List D}{sz:Nat}[F:Fl f sz]{l:List α}{n:Int}{j:Nat}(hj:j<sz){P:D→Prop}:oA (cl f l)[n.toNat*sz+j]? P .mk=(n.toNat<l.length∧oA (f (gt l n))[j]? P .mk):=by
 rw[cl_at (f:=f) l n.toNat j hj]
 by_cases hn:n.toNat<l.length
 ·rw[List.getElem?_eq_getElem hn]
  have e:gt l n=l[n.toNat]:=by unfold gt;rw[List.getD_eq_getElem?_getD,List.getElem?_eq_getElem hn];rfl
  simp[hn,e]
 ·rw[List.getElem?_eq_none (by omega)];simp[hn]
@[simp] theorem oA_B{l:List Bool}{n:Int}{P:D→Prop}:oA (cl fB l)[n.toNat]? P .mk=(n.toNat<l.length∧P (.b (gt l n))):=by
 have:=cl_atE (f:=fB) (l:=l) (n:=n) (j:=0) (by decide) (P:=P)
 simpa using this
theorem cl_pt{α:Type}{f:α→List D}{sz:Nat}[F:Fl f sz](l:List α)(n:Int)(h1:n.toNat<l.length)(a:α):(cl f l).take (n.toNat*sz)++(f a++(cl f l).drop (n.toNat*sz+sz))=cl f (pt l n a):=by
 have:=cl_put (f:=f) l n.toNat a h1
 rw[List.append_assoc]at this
 exact this
theorem rep_cl{α:Type}{f:α→List D}(a:α):∀ n:Nat,(List.replicate n (f a)).flatten=cl f (List.replicate n a)
 | 0=>by simp
 | n+1=>by rw[List.replicate_succ,List.flatten_cons,rep_cl a n,List.replicate_succ,cl_cons]
@[simp] theorem rep_B(b:Bool)(n:Nat):(List.replicate n [D.b b]).flatten=cl fB (List.replicate n b):=by rw[← rep_cl,fB_def]
@[simp] theorem rep_I(b:Int)(n:Nat):(List.replicate n [D.i b]).flatten=cl f1 (List.replicate n b):=by rw[← rep_cl,f1_def]
@[simp] theorem rep_S(a b:Int)(n:Nat):(List.replicate n [D.i a,D.i b]).flatten=cl fS (List.replicate n (a,b)):=by rw[← rep_cl,fS_def]
@[simp] theorem rep_B1(b:Bool)(n:Nat):List.replicate n (D.b b)=cl fB (List.replicate n b):=by rw[← rep_B];simp
@[simp] theorem rep_I1(b:Int)(n:Nat):List.replicate n (D.i b)=cl f1 (List.replicate n b):=by rw[← rep_I];simp
end Go.AL
namespace Go.Proofs.YtnaefnajkaohgaaGreatDoor
open Go Go.AL Classical
set_option maxRecDepth 10000
set_option maxHeartbeats 1000000
structure Closed2(g:Game)(l:List Pos):Prop where
 srt:Sorted l
 ok:∀ q∈l,PosOK g q
 cl:∀ q∈l,∀ m,IsMove g q m→m∈l
 len:l.length≤4000
theorem Closed.c2{g:Game}{l:List Pos}(h:Closed g l):Closed2 g l:=⟨h.srt,h.ok,h.cl,by have:=h.len;omega⟩
noncomputable def nextI(g:Game)(l:List Pos):List (List Int):=l.map fun p=>(mvL g p).map (findP l)
set_option maxRecDepth 10000
set_option maxHeartbeats 1000000
theorem nextI_in{g:Game}{l:List Pos}(hl:Closed2 g l){i:Int}(h0:0≤i)(h1:i<l.length):gt (nextI g l) i=(mvL g (gt l i)).map (findP l)∧∀ k∈gt (nextI g l) i,0≤k∧k<l.length:=by
 have e:gt (nextI g l) i=(mvL g (gt l i)).map (findP l):=by
  unfold nextI gt
  simp only[List.getD_eq_getElem?_getD,List.getElem?_map]
  rw[List.getElem?_eq_getElem (by omega)]
  rfl
 refine⟨e,fun k hk=>?_⟩
 rw[e]at hk
 obtain⟨q,hq,rfl⟩:=List.mem_map.1 hk
 have:=findP_gt (hl.cl _ (gt_mem h0 h1) q (mvL_mem.1 hq))
 exact⟨this.1,this.2.1⟩
end Go.Proofs.YtnaefnajkaohgaaGreatDoor
namespace Go.AL
open Go
section
variable{P:D→Prop}{a b:Int}{k:IntKind}{t:Tag P}
@[simp low] theorem oA_remK:oA (arithO .rem k a b) P t=(b≠0∧P (.val (.int k (remI a b)))):=by
 cases t
 simp only[arithO]
 by_cases h:b=0<;>simp[h,remI]
def quoK(k:IntKind)(a b:Int):Int:=k.wrap (a.tdiv b)
@[simp low] theorem oA_quoK:oA (arithO .quo k a b) P t=(b≠0∧P (.val (.int k (quoK k a b)))):=by
 cases t
 simp only[arithO]
 by_cases h:b=0<;>simp[h,quoK]
end
@[simp] theorem fzR_i2{ρ:Nat→Option Nat}{H:Heap}{k:Nat}{t:TypeId}{a b:Int}:fzR ρ H (k+1) 1 0 2 (some (t,[.i a,.i b]))=dI [a,b]:=by
 have h:=fzR_cl (f:=f1) (ρ:=ρ) (H:=H) (k:=k) (t:=t) (l:=[a,b]) (n:=2) rfl
 rw[cl_def]at h
 simp only[List.map_cons,List.map_nil,f1_def,List.flatten_cons,List.flatten_nil,List.append_nil,List.cons_append,List.nil_append]at h
 rw[h];unfold dI;simp only[List.map_cons,List.map_nil,f1_def]
end Go.AL
namespace Go.Proofs.YtnaefnajkaohgaaGreatDoor
open Go Go.AL Classical
set_option maxRecDepth 10000
set_option maxHeartbeats 1000000
def dW(w:List Int):D:=.agg (w.map fun n=>.val (.int .u8 n))
theorem f34(g:Game)(hg:GameOK g)(a0 a1 a2 a3 a4 a5:Int)(h:∀ n∈[a0,a1,a2,a3,a4,a5],0≤n∧n<256):Wf T 34 [dG g,dW [a0,a1,a2,a3,a4,a5]] [] (Ey (fun r:List Int=>.agg [dI r]) fun r=>r.length=g.kinds.length):=by
 have hk:=hg.kinds
 refine Yg F34 ?_
 simp[F34,dW]
 rcases(show g.kinds.length=1∨g.kinds.length=2 by omega)with e|e
 ·refine XLoop.un ?_
  refine XLoopN.u ?_
  simp[e]
  refine XLoopN.u ?_
  simp[e]
  exact Ey.i [IntKind.i64.wrap (remI a0 8)] rfl rfl (by simp[e])
 ·refine XLoop.un ?_
  refine XLoopN.u ?_
  simp[e]
  refine XLoopN.u ?_
  simp[e]
  refine XLoopN.u ?_
  simp[e]
  exact Ey.i [IntKind.i64.wrap (remI a0 8),IntKind.i64.wrap (remI a1 8)] rfl rfl (by simp[e])
end Go.Proofs.YtnaefnajkaohgaaGreatDoor
