/- Part 41 of the proof of skewer.skewerlaw15.TableValues. -/
import Derived.Test.YtnaefnajkaohgaaGreatDoorE40
import Derived.Test.YtnaefnajkaohgaaGreatDoorE38
import Derived.Test.YtnaefnajkaohgaaGreatDoorE37
import Derived.Test.YtnaefnajkaohgaaGreatDoorE18
import Derived.Test.YtnaefnajkaohgaaGreatDoorE39
set_option linter.all false
namespace Go.Proofs.YtnaefnajkaohgaaGreatDoor
open Go Go.AL Classical
structure VB(A:pr)(n:Nat)(P R:List Int)(v:List eY)(lf:List Int):Prop where
 vl:v.length=n
 ll:lf.length=n
 nd:(P++R).Nodup
 qr:∀ k∈P++R,0≤k∧k<n
 qi:∀ k∈P++R,(gt v k).1≠0
 z:∀ k:Int,0≤k→k<n→k ∉ P++R→gt v k=(0,0)
 ov:∀ k:Int,0≤k→k<n→A.ov k=true→k∈P++R∧gt v k=(A.rs k,0)
 mono:(P++R).Pairwise fun a b=>(gt v a).2≤(gt v b).2
 top:∀ i R',R=i::R'→∀ a∈P++R,(gt v a).2≤(gt v i).2+1
 nn:∀ a∈P++R,0≤(gt v a).2∧(gt v a).2≤(P++R).length
 st:∀ k∈P++R,A.ov k=false →
  (∃ m,1≤m∧gt v k=(1,m)∧(∃ c∈gt A.nx k,gt v c=(3,m-1))∧∀ c∈gt A.nx k,(gt v c).1=3→m-1≤(gt v c).2) ∨
  (∃ m,1≤m∧gt v k=(3,m)∧(∀ c∈gt A.nx k,(gt v c).1=1∧(gt v c).2≤m-1)∧∃ c∈gt A.nx k,(gt v c).2=m-1)
noncomputable def q9(A:pr)(P:List Int)(v:List eY)(k:Int):Nat:=(gt A.nx k).countP fun c=>decide (c∈P∧(gt v c).1=1)
def US(A:pr)(n:Nat)(P R d:List Int)(t:Int)(v:List eY)(lf:List Int):Prop:=∀ k:Int,0≤k→k<n→k ∉ P++R →
 (∀ c∈P,c∈gt A.nx k→(gt v c).1≠3)∧(t=3→k ∉ d)∧gt lf k=(gt A.nx k).length-q9 A P v k-(if t=1 then d.count k else 0:Nat)∧(gt A.nx k≠[]→0<gt lf k)
section
variable{A:pr}{n:Nat}{P R d:List Int}{v:List eY}{lf:List Int}{i k t:Int}
theorem wE(hn:(P++R).Nodup)(hr:∀ k∈P++R,0≤k∧k<n):(P++R).length≤n:=by
 have h1:((P++R).map Int.toNat).Nodup:=by
  refine eo.2 (dt ?_ hn)
  intro a b ha hb e
  have:=hr a ha;have:=hr b hb
  omega
 have:=qn h1 (m:=List.range n) fun x hx=>by
  obtain⟨a,ha,rfl⟩:=ao.1 hx
  have:=hr a ha
  exact aX.2 (by omega)
 simpa using this
theorem VB.push(hn:∀ k:Int,0≤k→k<n→∀ c∈gt A.nx k,0≤c∧c<n)(h:VB A n P (i::R) v lf)(k0:0≤k)(k1:k<n)(hk:k ∉ P++i::R){o:Int}(ho:o=1∨o=3){Pm:List Int}(hl:Pm.length=n)
  (hs:(o=1∧i∈gt A.nx k∧(gt v i).1=3∧∀ c∈gt A.nx k,c∈P→(gt v c).1≠3)∨(o=3∧i∈gt A.nx k∧∀ c∈gt A.nx k,(gt v c).1=1∧(c∈P∨c=i))) :
  VB A n P (i::(R ++ [k])) (pt v k (o,(gt v i).2+1)) Pm:=by
 have hQ:P++i::(R ++ [k])=(P++i::R) ++ [k]:=by simp
 have Wn:=h.z k k0 k1 hk
 have hg:∀ c:Int,0≤c→gt (pt v k (o,(gt v i).2+1)) c=if c=k then(o,(gt v i).2+1)else gt v c:=fun c hc=>mb k0 (by rw[h.vl];exact k1) hc
 have qJ:∀ c∈P++i::R,gt (pt v k (o,(gt v i).2+1)) c=gt v c:=fun c hc=>by
  rw[hg c (h.qr c hc).1,if_neg (show c≠k from fun e=>hk (e▸hc))]
 have xT:gt (pt v k (o,(gt v i).2+1)) k=(o,(gt v i).2+1):=by rw[hg k k0,if_pos rfl]
 have Ax:i∈P++i::R:=by simp
 have Ov:A.ov k=false:=by
  by_cases e:A.ov k=true
  ·exact absurd (h.ov k k0 k1 e).1 hk
  ·simpa using e
 have kc:=h.top i R rfl
 have oJ:=h.mono
 have UC:∀ c∈P,(gt v c).2≤(gt v i).2:=fun c hc=>(bg.1 oJ).2.2 c hc i (by simp)
 have Vo:∀ c∈R,(gt v i).2≤(gt v c).2:=fun c hc=>(aJ.1 (bg.1 oJ).2.1).1 c hc
 have o9:∀ c:Int,0≤c→(gt v c).1=1∨(gt v c).1=3→gt (pt v k (o,(gt v i).2+1)) c=gt v c:=fun c c0 hc=>by
  rw[hg c c0,if_neg (show c≠k from fun e=>?_)]
  rw[e,Wn]at hc
  simp at hc
 have NY:∀ c:Int,0≤c→(gt (pt v k (o,(gt v i).2+1)) c).1=3→(gt v c).1=3∨(o=3∧gt (pt v k (o,(gt v i).2+1)) c=(3,(gt v i).2+1)):=fun c c0 hc=>by
  by_cases e:c=k
  ·rw[e,xT]at hc ⊢
   exact .inr ⟨hc,by rw[show o=3 from hc]⟩
  ·rw[hg c c0,if_neg e]at hc
   exact .inl hc
 refine{ vl:=?_,ll:=hl,nd:=?_,qr:=?_,qi:=?_,z:=?_,ov:=?_,mono:=?_,top:=?_,nn:=?_,st:=?_ }
 ·rw[gI k0 (by rw[h.vl];exact k1)];exact h.vl
 ·rw[hQ,aP]
  exact⟨h.nd,by simp,fun a ha b hb e=>hk (by rw[List.mem_singleton.1 hb]at e;exact e▸ha)⟩
 ·intro c hc
  rw[hQ]at hc
  rcases List.mem_append.1 hc with hc|hc
  ·exact h.qr c hc
  ·rw[List.mem_singleton.1 hc];exact⟨k0,k1⟩
 ·intro c hc
  rw[hQ]at hc
  rcases List.mem_append.1 hc with hc|hc
  ·rw[qJ c hc];exact h.qi c hc
  ·rw[List.mem_singleton.1 hc,xT];dsimp only;omega
 ·intro c c0 c1 hc
  rw[hQ]at hc
  rw[hg c c0,if_neg fun e=>hc (by simp[e])]
  exact h.z c c0 c1 fun hm=>hc (aR _ hm)
 ·intro c c0 c1 hc
  obtain⟨h1,h2⟩:=h.ov c c0 c1 hc
  exact⟨by rw[hQ];exact aR _ h1,by rw[qJ c h1];exact h2⟩
 ·rw[hQ,bg]
  refine⟨?_,by simp,fun a ha b hb=>?_⟩
  ·refine dt ?_ h.mono
   intro a b ha hb uj
   rw[qJ a ha,qJ b hb];exact uj
  ·rw[List.mem_singleton.1 hb,xT,qJ a ha]
   exact kc a ha
 ·intro j R' e a ha
  rw[bY]at e
  rw[← e.1,qJ i Ax]
  rw[hQ]at ha
  rcases List.mem_append.1 ha with ha|ha
  ·rw[qJ a ha];exact kc a ha
  ·rw[List.mem_singleton.1 ha,xT];exact b8 _
 ·intro a ha
  rw[hQ]at ha ⊢
  have hi:=h.nn i Ax
  rcases List.mem_append.1 ha with ha|ha
  ·rw[qJ a ha]
   have:=h.nn a ha
   rw[ax]
   omega
  ·rw[List.mem_singleton.1 ha,xT,ax]
   simp only[List.length_singleton]
   omega
 ·intro c hc Jp
  rw[hQ]at hc
  rcases List.mem_append.1 hc with hc|hc
  ·have hr:=fun q hq=>(hn c (h.qr c hc).1 (h.qr c hc).2 q hq).1
   rw[qJ c hc]
   have N2:=kc c hc
   rcases h.st c hc Jp with⟨m,m1,e,⟨q,hq,eq⟩,v8⟩|⟨m,m1,e,gu,q,hq,eq⟩
   ·refine .inl ⟨m,m1,e,⟨q,hq,by rw[o9 q (hr q hq) (.inr (by rw[eq]))];exact eq⟩,fun q hq e3=>?_⟩
    rcases NY q (hr q hq) e3 with e4|⟨_,e4⟩
    ·rw[o9 q (hr q hq) (.inr e4)];exact v8 q hq e4
    ·rw[e4]
     rw[e]at N2
     dsimp only at N2 ⊢
     omega
   ·refine .inr ⟨m,m1,e,fun q hq=>by rw[o9 q (hr q hq) (.inl (gu q hq).1)];exact gu q hq,q,hq,by rw[o9 q (hr q hq) (.inl (gu q hq).1)];exact eq⟩
  ·rw[List.mem_singleton.1 hc,xT]
   have hr:=fun q hq=>(hn k k0 k1 q hq)
   have hi:=h.nn i Ax
   rcases hs with⟨rfl,nM,Vm,sY⟩|⟨rfl,nM,gu⟩
   ·refine .inl ⟨(gt v i).2+1,by omega,rfl,⟨i,nM,?_⟩,fun c hc e3=>?_⟩
    ·rw[qJ i Ax,show(gt v i).2+1-1=(gt v i).2 by omega,← Vm]
    ·rcases NY c (hr c hc).1 e3 with e4|⟨e4,_⟩
     ·rw[o9 c (hr c hc).1 (.inr e4)]
      have Fy:c∈P++i::R:=by
       by_cases Fy:c∈P++i::R
       ·exact Fy
       ·rw[h.z c (hr c hc).1 (hr c hc).2 Fy]at e4;simp at e4
      rcases List.mem_append.1 Fy with h1|h1
      ·exact absurd e4 (sY c hc h1)
      ·rcases aq.1 h1 with h1|h1
       ·rw[h1];omega
       ·have:=Vo c h1;omega
     ·simp at e4
   ·refine .inr ⟨(gt v i).2+1,by omega,rfl,fun c hc=>?_,i,nM,by rw[qJ i Ax];omega⟩
    obtain⟨e1,e2⟩:=gu c hc
    rw[o9 c (hr c hc).1 (.inl e1)]
    refine⟨e1,?_⟩
    rcases e2 with e2|e2
    ·have:=UC c e2;omega
    ·rw[e2];omega
theorem US.t0(h:US A n P R [] t v lf)(t':Int):US A n P R [] t' v lf:=fun k k0 k1 hk=>by
 obtain⟨a,b,c,d⟩:=h k k0 k1 hk
 refine⟨a,fun _=>by simp,?_,d⟩
 simpa using c
theorem US.skip(h:US A n P (i::R) d t v lf)(hk:k∈P++i::R∨(t≠1∧t≠3)):US A n P (i::R) (d ++ [k]) t v lf:=fun q q0 q1 hq=>by
 obtain⟨a,b,c,e⟩:=h q q0 q1 hq
 refine⟨a,fun e3=>?_,?_,e⟩
 ·rw[List.mem_append,List.mem_singleton]
  rintro(h1|h1)
  ·exact b e3 h1
  ·rcases hk with hk|hk
   ·exact hq (h1▸hk)
   ·exact hk.2 e3
 ·rw[c]
  by_cases e1:t=1
  ·rcases hk with hk|hk
   ·have:k≠q:=fun e=>hq (e▸hk)
    rw[if_pos e1,if_pos e1,cY,da,if_neg (by simpa using this),bS]
   ·exact absurd e1 hk.1
  ·rw[if_neg e1,if_neg e1]
theorem H9{q:Int}(h:q≠k):(d ++ [k]).count q=d.count q:=by
 rw[cY,da,if_neg (by simpa using fun e=>h e.symm),bS]
theorem Rq{v':List eY}(h:∀ c∈P,gt v' c=gt v c)(q:Int):q9 A P v' q=q9 A P v q:=by
 unfold q9
 refine List.countP_congr fun c _=>?_
 simp only[decide_eq_true_eq]
 constructor
 ·rintro⟨a,b⟩;exact⟨a,by rw[← h c a];exact b⟩
 ·rintro⟨a,b⟩;exact⟨a,by rw[h c a];exact b⟩
theorem aem(hn:∀ k:Int,0≤k→k<n→∀ c∈gt A.nx k,0≤c∧c<n)(h:VB A n P (i::R) v lf)(hU:US A n P (i::R) d (gt v i).1 v lf)(k0:0≤k)(k1:k<n)(hk:k ∉ P++i::R)(nM:i∈gt A.nx k)(e:(gt v i).1=3) :
  VB A n P (i::(R ++ [k])) (pt v k (1,(gt v i).2+1)) lf∧US A n P (i::(R ++ [k])) (d ++ [k]) (gt v i).1 (pt v k (1,(gt v i).2+1)) lf:=by
 obtain⟨a,_⟩:=hU k k0 k1 hk
 have hv:∀ c∈P,gt (pt v k (1,(gt v i).2+1)) c=gt v c:=fun c hc=>by
  rw[mb k0 (by rw[h.vl];exact k1) (h.qr c (by simp[hc])).1,if_neg (show c≠k from fun e=>hk (e▸(by simp[hc])))]
 refine⟨h.push hn k0 k1 hk (.inl rfl) h.ll (.inl ⟨rfl,nM,e,fun c hc hP=>a c hP hc⟩),fun q q0 q1 hq=>?_⟩
 have pc:q≠k:=fun e=>hq (by simp[e])
 obtain⟨a,b,c,f⟩:=hU q q0 q1 fun hm=>hq (by
  rcases List.mem_append.1 hm with h1|h1
  ·simp[h1]
  ·rcases aq.1 h1 with h1|h1<;>simp[h1])
 refine⟨fun c hc I1=>by rw[hv c hc];exact a c hc I1,fun e3=>?_,?_,f⟩
 ·rw[List.mem_append,List.mem_singleton]
  rintro(h1|h1)
  ·exact b e3 h1
  ·exact pc h1
 ·rw[Rq hv,c,H9 pc]
theorem aen(h:VB A n P (i::R) v lf)(hU:US A n P (i::R) d (gt v i).1 v lf)(k0:0≤k)(k1:k<n)(hk:k ∉ P++i::R)(nM:i∈gt A.nx k)(e:(gt v i).1=1)(hl:gt lf k-1≠0) :
  VB A n P (i::R) v (pt lf k (gt lf k-1))∧US A n P (i::R) (d ++ [k]) (gt v i).1 v (pt lf k (gt lf k-1)):=by
 have rO:k<lf.length:=by rw[h.ll];exact k1
 refine⟨{ h with ll:=by rw[gI k0 rO];exact h.ll },fun q q0 q1 hq=>?_⟩
 obtain⟨a,b,c,f⟩:=hU q q0 q1 hq
 rw[mb k0 rO q0]
 by_cases pc:q=k
 ·subst pc
  rw[if_pos rfl]
  refine⟨a,fun e3=>absurd (e.symm.trans e3) (by simp),?_,fun gd=>?_⟩
  ·rw[c,if_pos e,if_pos e,cY,da,if_pos (by simp)]
   omega
  ·have:=f gd
   omega
 ·rw[if_neg pc]
  refine⟨a,fun e3=>absurd (e.symm.trans e3) (by simp),?_,f⟩
  rw[c,H9 pc]
theorem RL{L:List Int}{p q:Int→Bool}(qM:∀ c∈L,¬ (p c=true∧q c=true))(h:L.length≤L.countP p+L.countP q):∀ c∈L,p c=true∨q c=true:=by
 induction L with
 | nil=>intro c hc;cases hc
 | cons x L ih=>
  have h1:=qM x (by simp)
  have lp:=cK (p:=p) (l:=L)
  rw[bB,bB,aG]at h
  have hle:L.countP p+L.countP q≤L.length:=by
   clear ih h lp h1
   induction L with
   | nil=>simp
   | cons y L ih=>
    have h1:=qM y (by simp)
    have h2:=ih fun c hc=>qM c (by rcases aq.1 hc with h|h<;>simp[h])
    rw[bB,bB,aG]
    by_cases a:p y=true<;>by_cases b:q y=true<;>simp[a,b]at h1 ⊢ <;> omega
  intro c hc
  by_cases a:p x=true<;>by_cases b:q x=true<;>simp[a,b]at h1 h
  ·rcases aq.1 hc with rfl|hc
   ·exact .inl a
   ·exact ih (fun c hc=>qM c (by simp[hc])) (by omega) c hc
  ·rcases aq.1 hc with rfl|hc
   ·exact .inr b
   ·exact ih (fun c hc=>qM c (by simp[hc])) (by omega) c hc
  ·omega
theorem aeo(hn:∀ k:Int,0≤k→k<n→∀ c∈gt A.nx k,0≤c∧c<n)(h:VB A n P (i::R) v lf)(hU:US A n P (i::R) d (gt v i).1 v lf)(k0:0≤k)(k1:k<n)(hk:k ∉ P++i::R)(nM:i∈gt A.nx k)(e:(gt v i).1=1)(hl:gt lf k-1=0)
  (hd:d.count k+1≤(gt A.nx k).count i) :
  VB A n P (i::(R ++ [k])) (pt v k (3,(gt v i).2+1)) (pt lf k (gt lf k-1))∧US A n P (i::(R ++ [k])) (d ++ [k]) (gt v i).1 (pt v k (3,(gt v i).2+1)) (pt lf k (gt lf k-1)):=by
 have rO:k<lf.length:=by rw[h.ll];exact k1
 obtain⟨_,_,c,_⟩:=hU k k0 k1 hk
 have I':i ∉ P:=fun hm=>(aP.1 h.nd).2.2 i hm i (by simp) rfl
 have gu:=RL (L:=gt A.nx k) (p:=fun c=>decide (c∈P∧(gt v c).1=1)) (q:=fun c=>c == i) (fun c _=>by
  rintro⟨h1,h2⟩
  simp only[decide_eq_true_eq]at h1
  simp only[beq_iff_eq]at h2
  exact I' (h2▸h1.1)) (by
  rw[if_pos e]at c
  unfold q9 at c
  have N3:(gt A.nx k).count i=(gt A.nx k).countP (fun c=>c == i):=rfl
  omega)
 have hv:∀ c∈P,gt (pt v k (3,(gt v i).2+1)) c=gt v c:=fun c hc=>by
  rw[mb k0 (by rw[h.vl];exact k1) (h.qr c (by simp[hc])).1,if_neg (show c≠k from fun e=>hk (e▸(by simp[hc])))]
 refine⟨h.push hn k0 k1 hk (.inr rfl) (by rw[gI k0 rO];exact h.ll) (.inr ⟨rfl,nM,fun c hc=>?_⟩),fun q q0 q1 hq=>?_⟩
 ·rcases gu c hc with h1|h1
  ·simp only[decide_eq_true_eq]at h1
   exact⟨h1.2,.inl h1.1⟩
  ·simp only[beq_iff_eq]at h1
   rw[h1]
   exact⟨e,.inr rfl⟩
 have pc:q≠k:=fun e=>hq (by simp[e])
 obtain⟨a,b,c,f⟩:=hU q q0 q1 fun hm=>hq (by
  rcases List.mem_append.1 hm with h1|h1
  ·simp[h1]
  ·rcases aq.1 h1 with h1|h1<;>simp[h1])
 rw[mb k0 rO q0,if_neg pc]
 refine⟨fun c hc I1=>by rw[hv c hc];exact a c hc I1,fun e3=>absurd (e.symm.trans e3) (by simp),?_,f⟩
 rw[Rq hv,c,H9 pc]
theorem U5(h:VB A n P (i::R) v lf)(hU:US A n P (i::R) d (gt v i).1 v lf)(hd:∀ k:Int,0≤k→k<n→d.count k=(gt A.nx k).count i) :
  VB A n (P ++ [i]) R v lf∧US A n (P ++ [i]) R [] 0 v lf:=by
 have hQ:(P ++ [i])++R=P++i::R:=by simp
 have I':i ∉ P:=fun hm=>(aP.1 h.nd).2.2 i hm i (by simp) rfl
 refine⟨⟨h.vl,h.ll,by rw[hQ];exact h.nd,by rw[hQ];exact h.qr,by rw[hQ];exact h.qi,by rw[hQ];exact h.z,by rw[hQ];exact h.ov,by rw[hQ];exact h.mono,?_,by rw[hQ];exact h.nn,by rw[hQ];exact h.st⟩,fun k k0 k1 hk=>?_⟩
 ·intro j R' e a ha
  rw[hQ]at ha
  have h1:=h.top i R rfl a ha
  have h2:=(aJ.1 (bg.1 h.mono).2.1).1 j (by rw[e];simp)
  omega
 ·rw[hQ]at hk
  obtain⟨a,b,c,f⟩:=hU k k0 k1 hk
  have I2:=hd k k0 k1
  refine⟨fun q hq pc=>?_,fun e=>by simp at e,?_,f⟩
  ·rcases List.mem_append.1 hq with h1|h1
   ·exact a q h1 pc
   ·rw[List.mem_singleton.1 h1]at pc ⊢
    intro e3
    refine b e3 (du.1 ?_)
    rw[I2]
    exact du.2 pc
  ·rw[if_neg (show ¬ ((0:Int)=1)by decide),c]
   have:q9 A (P ++ [i]) v k=q9 A P v k+(if (gt v i).1=1 then d.count k else 0):=by
    rw[I2]
    unfold q9
    clear c f b a I2
    induction gt A.nx k with
    | nil=>simp
    | cons x L ih=>
     rw[bB,bB,List.count_cons,ih]
     by_cases uC:x=i
     ·subst uC
      simp[I']
      split<;>simp_all<;>omega
     ·simp[uC]
      by_cases hx:x∈P∧(gt v x).1=1
      ·simp[hx];omega
      ·simp[hx]
   rw[this]
   push_cast
   omega
theorem aey(hn:∀ k:Int,0≤k→k<n→∀ c∈gt A.nx k,0≤c∧c<n)(h:VB A n P [] v lf)(hU:US A n P [] [] 0 v lf){v':List eY}(hv:∀ k:Int,0≤k→k<n→gt v' k=if (gt v k).1=0 then(2,(gt v k).2)else gt v k) :
  ∀ k:Int,0≤k→k<n→kK A v' k:=fun k k0 k1=>by
 have hx:=hn k k0 k1
 have wj:∀ c:Int,0≤c→c<n→(gt v c).1=1∨(gt v c).1=3→gt v' c=gt v c:=fun c c0 c1 e=>by rw[hv c c0 c1,if_neg (by omega)]
 have F4:∀ c:Int,0≤c→c<n→(gt v' c).1=1∨(gt v' c).1=3→gt v' c=gt v c:=fun c c0 c1 e=>by
  rw[hv c c0 c1]at e ⊢
  split at e
  ·simp at e
  ·rename_i h;rw[if_neg h]
 by_cases hk:k∈P ++ []
 ·have ja:gt v' k=gt v k:=by rw[hv k k0 k1,if_neg (h.qi k hk)]
  by_cases ho:A.ov k=true
  ·exact .inl ⟨ho,by rw[ja];exact(h.ov k k0 k1 ho).2⟩
  ·have ho:A.ov k=false:=by simpa using ho
   rcases h.st k hk ho with⟨m,m1,e,⟨q,hq,eq⟩,v8⟩|⟨m,m1,e,gu,q,hq,eq⟩
   ·refine .inr ⟨ho,.inl ⟨m,m1,by rw[ja];exact e,⟨q,hq,by rw[wj q (hx q hq).1 (hx q hq).2 (.inr (by rw[eq]))];exact eq⟩,fun c hc e3=>?_⟩⟩
    have:=F4 c (hx c hc).1 (hx c hc).2 (.inr e3)
    rw[this]at e3 ⊢
    exact v8 c hc e3
   ·refine .inr ⟨ho,.inr (.inl ⟨m,m1,by rw[ja];exact e,fun c hc=>by rw[wj c (hx c hc).1 (hx c hc).2 (.inl (gu c hc).1)];exact gu c hc,q,hq,by rw[wj q (hx q hq).1 (hx q hq).2 (.inl (gu q hq).1)];exact eq⟩)⟩
 ·have hz:=h.z k k0 k1 hk
  obtain⟨a,_,c,f⟩:=hU k k0 k1 hk
  have ho:A.ov k=false:=by
   by_cases ho:A.ov k=true
   ·exact absurd (h.ov k k0 k1 ho).1 hk
   ·simpa using ho
  have hP:∀ c:Int,0≤c→c<n→(gt v' c).1=1∨(gt v' c).1=3→c∈P:=fun c c0 c1 e=>by
   have e2:=F4 c c0 c1 e
   by_cases hc:c∈P ++ []
   ·simpa using hc
   ·rw[e2,h.z c c0 c1 hc]at e
    simp at e
  refine .inr ⟨ho,.inr (.inr ⟨by rw[hv k k0 k1,hz];rfl,fun q hq e3=>?_,fun⟨gd,gu⟩=>?_⟩)⟩
  ·have Jx:=hP q (hx q hq).1 (hx q hq).2 (.inr e3)
   rw[F4 q (hx q hq).1 (hx q hq).2 (.inr e3)]at e3
   exact a q Jx hq e3
  ·have h1:=f gd
   rw[c]at h1
   have:q9 A P v k=(gt A.nx k).length:=by
    unfold q9
    refine List.countP_eq_length.2 fun q hq=>?_
    have e1:=gu q hq
    have Jx:=hP q (hx q hq).1 (hx q hq).2 (.inl e1)
    rw[F4 q (hx q hq).1 (hx q hq).2 (.inl e1)]at e1
    simpa using ⟨Jx,e1⟩
   simp[this]at h1
structure VS(A:pr)(n:Nat)(m:Int)(R:List Int)(v:List eY)(lf:List Int):Prop where
 vl:v.length=n
 ll:lf.length=n
 nd:R.Nodup
 qr:∀ k,k∈R↔(0≤k∧k<m)∧A.ov k=true
 vv:∀ k:Int,0≤k→k<n→gt v k=if k∈R then(A.rs k,0)else(0,0)
 lv:∀ k:Int,0≤k→k<m→gt lf k=(gt A.nx k).length
theorem VS.start(A:pr)(n:Nat):VS A n 0 [] (List.replicate n (0,0)) (List.replicate n 0):=
 ⟨by simp,by simp,by simp,fun k=>by simp;omega,fun k k0 k1=>by rw[vI k0 k1];simp,fun k k0 k1=>by omega⟩
theorem VS.no{m:Int}(h:VS A n m R v lf)(m0:0≤m)(m1:m<n)(ho:A.ov m=false):VS A n (m+1) R v (pt lf m (gt A.nx m).length):=by
 have hl:m<lf.length:=by rw[h.ll];exact m1
 refine⟨h.vl,by rw[gI m0 hl];exact h.ll,h.nd,fun k=>?_,h.vv,fun k k0 k1=>?_⟩
 ·rw[h.qr k]
  refine⟨fun⟨a,b⟩=>⟨by omega,b⟩,fun⟨a,b⟩=>⟨?_,b⟩⟩
  have:k≠m:=fun e=>by rw[e,ho]at b;cases b
  omega
 ·rw[mb m0 hl k0]
  by_cases e:k=m
  ·rw[if_pos e,e]
  ·rw[if_neg e];exact h.lv k k0 (by omega)
theorem VS.yes{m:Int}(h:VS A n m R v lf)(m0:0≤m)(m1:m<n)(ho:A.ov m=true):VS A n (m+1) (R ++ [m]) (pt v m (A.rs m,0)) (pt lf m (gt A.nx m).length):=by
 have hl:m<lf.length:=by rw[h.ll];exact m1
 have hv:m<v.length:=by rw[h.vl];exact m1
 have hm:m ∉ R:=fun hm=>by have:=((h.qr m).1 hm).1;omega
 refine⟨by rw[gI m0 hv];exact h.vl,by rw[gI m0 hl];exact h.ll,?_,fun k=>?_,fun k k0 k1=>?_,fun k k0 k1=>?_⟩
 ·rw[aP]
  exact⟨h.nd,by simp,fun a ha b hb e=>hm (by rw[List.mem_singleton.1 hb]at e;exact e▸ha)⟩
 ·rw[List.mem_append,List.mem_singleton,h.qr k]
  constructor
  ·rintro(⟨a,b⟩|rfl)
   ·exact⟨by omega,b⟩
   ·exact⟨by omega,ho⟩
  ·rintro⟨a,b⟩
   by_cases e:k=m
   ·exact .inr e
   ·exact .inl ⟨by omega,b⟩
 ·rw[mb m0 hv k0]
  by_cases e:k=m
  ·rw[if_pos e,if_pos (by simp[e]),e]
  ·rw[if_neg e,h.vv k k0 k1]
   simp[e]
 ·rw[mb m0 hl k0]
  by_cases e:k=m
  ·rw[if_pos e,e]
  ·rw[if_neg e];exact h.lv k k0 (by omega)
theorem VS.done(h:VS A n n R v lf)(hr:∀ k:Int,A.ov k=true→A.rs k≠0):VB A n [] R v lf∧US A n [] R [] 0 v lf:=by
 have hq:=fun k (hk:k∈R)=>(h.qr k).1 hk
 have hv:=fun k (hk:k∈R)=>by
  have:=h.vv k (hq k hk).1.1 (hq k hk).1.2
  rwa [if_pos hk]at this
 refine⟨⟨h.vl,h.ll,by simpa using h.nd,fun k hk=>(hq k (by simpa using hk)).1,fun k hk=>?_,fun k k0 k1 hk=>?_,fun k k0 k1 ho=>?_,?_,fun i R' e a ha=>?_,fun a ha=>?_,fun k hk ho=>?_⟩,fun k k0 k1 hk=>⟨fun c hc=>(by cases hc),fun e=>(by simp at e),?_,fun gd=>?_⟩⟩
 ·rw[aU]at hk
  rw[hv k hk];exact hr k (hq k hk).2
 ·rw[aU]at hk
  rw[h.vv k k0 k1,if_neg hk]
 ·have hk:=(h.qr k).2 ⟨⟨k0,k1⟩,ho⟩
  exact⟨by simpa using hk,hv k hk⟩
 ·rw[aU]
  refine dt (R:=fun _ _=>True) ?_ (List.pairwise_of_forall fun _ _=>trivial)
  intro a b ha hb _
  rw[hv a ha,hv b hb];exact b8 _
 ·rw[aU]at ha
  rw[hv a ha,hv i (by rw[e];simp)];simp
 ·rw[aU]at ha ⊢
  rw[hv a ha];simp
 ·rw[aU]at hk
  rw[(hq k hk).2]at ho;cases ho
 ·rw[h.lv k k0 k1,if_neg (by decide)]
  unfold q9
  simp
 ·rw[h.lv k k0 k1]
  have:=az.2 gd
  omega
end
end Go.Proofs.YtnaefnajkaohgaaGreatDoor
namespace Go.Proofs.YtnaefnajkaohgaaGreatDoor
open Go Go.AL Classical
set_option maxRecDepth 10000
set_option maxHeartbeats 8000000
attribute [-simp] Gh
theorem TM(g:eU)(n:Nat)(v:List eY)(lf:List Int)(p:Pos)(k o x:Int)(h:0≤k∧k<n)(hn:v.length=n) :
  Wf T 53 [.i k,.i o,.i x,.ptr 2 0 0,.ptr 4 0 0] [.row 41 0 g.cells,.row 58 0 (cl fS v),.row 52 0 [.eT 1 0 2 0 n],.row 3 0 (cl f1 lf),.row 33 0 [.emp],.row 44 0 p.cells] (fun d H'=>d = .tup [] ∧
   H' = [.row 41 0 g.cells,.row 58 0 (cl fS (pt v k (o,x))),.row 52 0 [.eT 1 0 2 0 n],.row 3 0 (cl f1 lf),.row 33 0 [.eT 6 0 1 0 1],.row 44 0 p.cells,.row 3 0 [.i k]]):=by
 refine Yg tE ?_
 simp[tE]
 (with_reducible repeat' first|refine Xk ?_<;>try simp[nh]|refine Xs ?_ ?_<;>intro h<;>(try intro h')<;>(try simp[h,nh])<;>(try omega)|refine Xg ?_|omega)
 simp only[nh]
 simp[Gh]
theorem Ir(g:eU)(n:Nat)(v:List eY)(lf L:List Int)(γ hh:Nat)(G:U)(hG:G = []∨∃ p:Pos,G = [.row 44 0 p.cells])(k o x:Int)(h:0≤k∧k<n)(hn:v.length=n)(hL2:L.length≤4000)(hh2:hh≤L.length) :
  Wf T 53 [.i k,.i o,.i x,.ptr 2 0 0,.ptr 4 0 0] ([.row 41 0 g.cells,.row 58 0 (cl fS v),.row 52 0 [.eT 1 0 2 0 n],.row 3 0 (cl f1 lf),.row 33 0 [.eT 5 γ 1 hh (L.length-hh)],.row 3 γ (cl f1 L)]++G) (fun d H'=>d = .tup [] ∧
   H' = [.row 41 0 g.cells,.row 58 0 (cl fS (pt v k (o,x))),.row 52 0 [.eT 1 0 2 0 n],.row 3 0 (cl f1 lf),.row 33 0 [.eT 5 (γ+1) 1 0 (L.length-hh+1)],.row 3 (γ+1) (cl f1 (L.drop hh ++ [k]))]++G):=by
 rcases hG with rfl|⟨p,rfl⟩
 ·refine Yg tE ?_
  simp[tE]
  (with_reducible repeat' first|refine Xk ?_<;>try simp[nh]|refine Xs ?_ ?_<;>intro h<;>(try intro h')<;>(try simp[h,nh])<;>(try omega)|refine Xg ?_|omega)
  simp only[nh]
  simp[Gh]
 ·refine Yg tE ?_
  simp[tE]
  (with_reducible repeat' first|refine Xk ?_<;>try simp[nh]|refine Xs ?_ ?_<;>intro h<;>(try intro h')<;>(try simp[h,nh])<;>(try omega)|refine Xg ?_|omega)
  simp only[nh]
  simp[Gh]
end Go.Proofs.YtnaefnajkaohgaaGreatDoor
namespace Go.Proofs.YtnaefnajkaohgaaGreatDoor
open Go Go.AL Classical
set_option maxRecDepth 10000
set_option maxHeartbeats 16000000
attribute [local simp] HF H5 tp jW
theorem aeK(w:Bool)(z:List eY){g:eU}{l:List Pos}{nx:List (List Int)}{part:List Int}{bu:Int}(o:lx g l nx part bu)(m:List Int)(n t:Int)(v:List eY)(b:List Bool)(hn:0≤n∧n≤4000)(ht:0≤t∧t≤40000000)(hv:v.length=l.length)(hb:b.length=l.length)
  {dst:Option Nat} {env:Env} {K:St→Prop} (hk:K { env:=put env dst (.b true),H:=HF w z g l nx m part bu (t+(lT b part bu part.length).1) (rV g l nx part v b n) (rB g l nx part v b n) .ready }) :
  nJ T 11 [.i n] dst { env:=env,H:=HF w z g l nx m part bu t v b .ready } K .mk:=by
 obtain⟨u,hu⟩:∃ u,u=w:=⟨w,rfl⟩
 cases w
 all_goals
  have hp:=o.prt
  have Vx:=A9 b part bu part.length
  have kU:=o.pl
  have sU:=o.len
  refine nJ.r (rf:=4992) (env0:=[(3,.ptr 5 0 0),(4,.ptr 6 0 0),(5,.ptr 7 0 0),(9,.ptr 8 0 0)]) (Rd:=xh) (by simp[HF,H5,tp,jW,hu]) rfl rfl xh.a xh.b (lJ rfl) (lJ rfl) ?_
  simp[xh,HF,H5,tp,jW,hu]
  refine gZ.r rfl rfl (f118 v b g l nx part bu (fun i hi=>by rw[hb];exact hp i hi) kU (by omega) o.bu) (by simp[hv,hb]) (by simp[flat]) (by simp) ?_
  simp
  (with_reducible repeat' first|refine Xk ?_<;>try simp|refine Xs ?_ ?_<;>intro h<;>(try intro h')<;>(try simp[h])<;>(try omega)|refine Xg ?_|omega)
  refine fe.s (by simp;rfl) ?_
  refine fe.kg [] true (0:Int) (fun y=>[(3,.ptr 5 0 0),(10,.i n),(11,.omap 12),(46,dI part),(47,.i part.length),(48,.i y)]) (fun y=>HF u z g l nx m part bu (t+(lT b part bu part.length).1) v b .busy ++ [.map (.int .i64) (ma (oD g l nx v b n) ((part.take y.toNat).filter (kC g l nx v b n)))]) (fun y=>0≤y∧y≤part.length) (fun y=>(part.length-y).toNat) ?_ (by simp) (by first|rfl|(simp[gL];done)|(simp[*];done)) rfl rfl rfl ?_
  ·simp
  rintro y ⟨y0,y1⟩
  dsimp only at y0 y1 ⊢
  rw[hu]
  by_cases hy:y<part.length
  ·have fF:=hp _ (ff y0 hy)
   have hx:=o.yv _ fF.1 fF.2
   have Ov:gt part y ∉ (part.take y.toNat).filter (kC g l nx v b n):=fun hm=>by
    have h1:=(aK.1 hm).1
    have h2:=o.nd
    rw[← bO y.toNat part,lB y0 hy,aP]at h2
    exact h2.2.2 _ h1 _ (cd ..) rfl
   have mg:kC g l nx v b n (gt part y)=true→jA (ma (oD g l nx v b n) ((part.take y.toNat).filter (kC g l nx v b n))) (.int .i64 (gt part y)) (.agg [.i (jI g (gt l (gt part y)) v b (gt nx (gt part y)) n).1.1,.i (jI g (gt l (gt part y)) v b (gt nx (gt part y)) n).1.2])=ma (oD g l nx v b n) ((part.take (y+1).toNat).filter (kC g l nx v b n)):=fun h=>by
    rw[gE y0 hy,cj,eE h,cL]
    exact PJ Ov
   have nO:kC g l nx v b n (gt part y)=false→(part.take (y+1).toNat).filter (kC g l nx v b n)=(part.take y.toNat).filter (kC g l nx v b n):=fun h=>by
    rw[gE y0 hy,cj,eF (by rw[h];decide),cL,aw]
   simp[hy,HF,H5,tp,jW,hu]
   (with_reducible repeat' first|refine Xk ?_<;>try simp|refine Xs ?_ ?_<;>intro h<;>(try intro h')<;>(try simp[h])<;>(try omega)|refine Xg ?_|omega)
   refine fw.r rfl rfl (f119 g o.gm l o.ps v b nx (gt part y) n fF hn o.YI hx.1 hv hb hx.2) (by simp[hv,hb]) (by simp[flat,sL]) (by simp) ?_
   simp
   (with_reducible repeat' first|refine Xk ?_<;>try simp|refine Xs ?_ ?_<;>intro h<;>(try intro h')<;>(try simp[h])<;>(try omega)|refine Xg ?_|omega)
   ·refine LJ.i (y+1) (by first|rfl|simp[mg (by simp[kC, *])]) (by first|rfl|simp[mg (by simp[kC, *])]) (by first|rfl|simp[mg (by simp[kC, *])]) (by first|rfl|simp[mg (by simp[kC, *])]) ?_
    omega
   ·refine LJ.i (y+1) (by first|rfl|simp[nO (by simp[kC, *])]) (by first|rfl|simp[nO (by simp[kC, *])]) (by first|rfl|simp[nO (by simp[kC, *])]) (by first|rfl|simp[nO (by simp[kC, *])]) ?_
    omega
   ·refine LJ.i (y+1) (by first|rfl|simp[nO (by simp[kC, *])]) (by first|rfl|simp[nO (by simp[kC, *])]) (by first|rfl|simp[nO (by simp[kC, *])]) (by first|rfl|simp[nO (by simp[kC, *])]) ?_
    omega
  ·have WC:y=part.length:=by omega
   subst WC
   simp[HF,H5,tp,jW,hu]
   unfold rV rB mA at hk
   have lh:∀ i∈part.filter (kC g l nx v b n),0≤i∧i<l.length:=fun i hi=>hp i (aK.1 hi).1
   refine fe.s (by simp;rfl) ?_
   generalize part.filter (kC g l nx v b n)=ds at *
   refine fe.kg [] true ([]:List Nat) (fun y=>[(3,.ptr 5 0 0),(75,.ptr 13 0 0)]) (fun y=>HF u z g l nx m part bu (t+(lT b part bu part.length).1) (jk v (oD g l nx v b n) (gk ds y)) (jk b (fun _=>false) (gk ds y)) .busy ++ [.map (.int .i64) (ma (oD g l nx v b n) ds),.jd (.omap 12) ds.length y]) (fun y=>y.Nodup∧∀ j∈y,j<ds.length) (fun y=>ds.length-y.length) ?_ (by simp) (by first|rfl|(simp[gL];done)|(simp[*];done)) rfl rfl rfl ?_
   ·simp[gk]
   rintro ys ⟨lE,ft⟩
   dsimp only at lE ft ⊢
   rw[hu]
   simp[HF,H5,tp,jW,hu]
   refine qw.at (m:=12) (since:=ds.length) (seen:=ys) (kk:=.int .i64) (es:=ma (oD g l nx v b n) ds) (by simp) (by simp) (by simp) (fun gu=>?_) fun i k d he hi=>?_
   ·rw[Tk]at gu
    simp
    rw[Qm (v:=v) (r:=gk ds ys) (r':=ds) (by rw[hv];exact Fj lh ft) (Kg ft gu),Qm (v:=b) (r:=gk ds ys) (r':=ds) (by rw[hb];exact Fj lh ft) (Kg ft gu)]
    exact hk
   ·obtain⟨ka,rfl,rfl⟩:=Tj he
    have fF:=lh _ (ff (l:=ds) (n:=(i:Int)) (by omega) (by omega))
    have gW:=oP (oD g l nx v b n) (gk ds ys) v (by rw[hv];exact Fj lh ft)
    have hJ:=oP (fun _=>false) (gk ds ys) b (by rw[hb];exact Fj lh ft)
    simp[he,nh]
    (with_reducible repeat' first|refine Xk ?_<;>try simp[gW,hJ,hv,hb,nh]|refine Xs ?_ ?_<;>intro h<;>(try intro h')<;>(try simp[h,gW,hJ,hv,hb,nh])<;>(try omega)|refine Xg ?_|omega)
    refine LJ.i (ys ++ [i]) (by first|rfl|simp[nh,xG,tj]) (by first|rfl|simp[nh,xG,tj]) (by first|rfl|simp[nh,xG,tj]) (by first|rfl|simp[nh,xG,tj]) ?_
    refine⟨?_,?_,fun j hj=>?_⟩
    ·have FK:(ys ++ [i]).Nodup:=by
      rw[aP]
      exact⟨lE,by simp,fun a ha b hb e=>hi (by rw[List.mem_singleton.1 hb]at e;exact e▸ha)⟩
     have:=qn FK (m:=List.range ds.length) fun x hx=>by
      rcases List.mem_append.1 hx with hx|hx
      ·exact aX.2 (ft x hx)
      ·rw[List.mem_singleton.1 hx];exact aX.2 ka
     simp at this ⊢
     omega
    ·rw[aP]
     exact⟨lE,by simp,fun a ha b hb e=>hi (by rw[List.mem_singleton.1 hb]at e;exact e▸ha)⟩
    ·rcases List.mem_append.1 hj with hj|hj
     ·exact ft j hj
     ·rw[List.mem_singleton.1 hj];exact ka
end Go.Proofs.YtnaefnajkaohgaaGreatDoor
namespace Go.Proofs.YtnaefnajkaohgaaGreatDoor
open Go Go.AL Classical
set_option maxRecDepth 10000
set_option maxHeartbeats 16000000
attribute [local simp] HF H5 tp jW
theorem pY.s{T:gj}{rf:Nat}{live:List Nat}{x:X}{s s':St}{K:gA}(hs:s=s')(h:pY T rf live x s' K .mk):pY T rf live x s K .mk:=by subst hs;exact h
section
variable{g:eU}{l:List Pos}{nx:List (List Int)}{part:List Int}{bu:Int}
theorem f162(w:Bool)(z:List eY)(o:lx g l nx part bu)(m:List Int)(v:List eY)(b:List Bool)(hv:v.length=l.length)(hb:b.length=l.length) :
  Wf T 162 [.gP 11,.ptr 9 0 0] (HF w z g l nx m part bu 0 v b .ready) (fun _ H'=>H'=HF w z g l nx m part bu (iR g l nx part bu 4001 0 v b 0).1 (iR g l nx part bu 4001 0 v b 0).2.1 (iR g l nx part bu 4001 0 v b 0).2.2 .ready):=by
 obtain⟨u,hu⟩:∃ u,u=w:=⟨w,rfl⟩
 cases w
 all_goals
  have sU:=o.len
  generalize hR:iR g l nx part bu 4001 0 v b 0=R
  refine Yg CS ?_
  simp[CS]
  refine fe.e ((0,v,b,0):Int×List eY×List Bool×Int) (fun y=>[(0,.gP 11),(1,.ptr 9 0 0),(3,.i y.1)]) (fun y=>HF u z g l nx m part bu y.2.2.2 y.2.1 y.2.2.1 .ready) (fun y=>0≤y.1∧y.1≤4000∧y.2.1.length=l.length∧y.2.2.1.length=l.length∧0≤y.2.2.2∧y.2.2.2≤y.1*4000∧iR g l nx part bu (4001-y.1).toNat y.1 y.2.1 y.2.2.1 y.2.2.2=R) (fun y=>(4001-y.1).toNat) ?_ ?_
  ·exact⟨by simp,by simp,hv,hb,by simp,by simp,hR⟩
  rintro⟨n,v1,b1,t⟩ ⟨n0,n1,ke,sO,t0,t1,hr⟩
  dsimp only at n0 n1 ke sO t0 t1 hr ⊢
  rw[hu]
  have Vx:=A9 b1 part bu part.length
  have kU:=o.pl
  have e1:=yD o ke sO (n:=n)
  have e2:=yC o (v:=v1) sO (n:=n)
  rw[show(4001-n).toNat=(4000-n).toNat+1 by omega,iR,ke,← e1]at hr
  simp[-HF]
  refine aeK _ z o m n t v1 b1 ⟨n0,n1⟩ ⟨t0,by omega⟩ ke sO ?_
  generalize rV g l nx part v1 b1 n=v2 at *
  generalize rB g l nx part v1 b1 n=b2 at *
  generalize (lT b1 part bu part.length).1=q at *
  simp[HF,H5,tp,jW,hu]
  refine fw.r rfl rfl (f163 v2 b2 g l nx (by omega) (by omega)) (by simp[e1,e2]) (by simp[flat]) (by simp) ?_
  simp
  (with_reducible repeat' first|refine Xk ?_<;>try simp|refine Xs ?_ ?_<;>intro h<;>(try intro h')<;>(try simp[h])<;>(try omega)|refine Xg ?_|omega)
  ·rw[if_pos ⟨by assumption,by assumption⟩]at hr
   refine LJ.i (n+1,v2,b2,t+q) (by first|rfl|simp[HF,H5,tp,jW,hu]) (by first|rfl|simp[HF,H5,tp,jW,hu]) rfl rfl ?_
   dsimp only
   refine⟨by omega,by omega,by omega,e1,e2,by omega,by omega,?_⟩
   rw[show(4001-(n+1)).toNat=(4000-n).toNat by omega]
   exact hr
  ·rw[if_neg (fun c=>absurd c.2 (by assumption))]at hr
   subst hr
   exact⟨rfl,rfl,rfl⟩
  ·rw[if_neg (fun c=>absurd c.1 (by omega))]at hr
   subst hr
   exact⟨rfl,rfl,rfl⟩
theorem f78(w:Bool)(z:List eY)(o:lx g l nx part bu)(m:List Int)(v:List eY)(b:List Bool)(hv:v.length=l.length)(hb:b.length=l.length) :
  Wf T 78 [tp w,dI part,.i bu] (H5 w z g l nx m v b)
   (fun d H'=>d = .i (jJ g l nx part bu v b).1∧H'=H5 w z g l nx m (jJ g l nx part bu v b).2.1 (jJ g l nx part bu v b).2.2):=by
 obtain⟨u,hu⟩:∃ u,u=w:=⟨w,rfl⟩
 cases w
 all_goals
  have hp:=o.prt
  have kU:=o.pl
  have sU:=o.len
  refine Yg D3 ?_
  simp[D3,H5,tp,jW,hu]
  refine fe.e (0:Int) (fun y=>[(3,.ptr 5 0 0),(4,.ptr 6 0 0),(5,.ptr 7 0 0),(20,dI part),(21,.i part.length),(22,.i y)]) (fun y=>H5 u z g l nx m v (jk b (fun _=>true) (part.take y.toNat)) ++ [.row 139 0 [tp u],.row 33 0 [dI part],.row 3 0 [.i bu]]) (fun y=>0≤y∧y≤part.length) (fun y=>(part.length-y).toNat) ?_ ?_
  ·simp[jk]
  rintro i ⟨i0,i1⟩
  dsimp only at i0 i1 ⊢
  rw[hu]
  by_cases hi:i<part.length
  ·have fF:=hp _ (ff i0 hi)
   have hl:=oP (fun _=>true) (part.take i.toNat) b fun j hj=>by rw[hb];exact hp j (aM hj)
   simp[hi,H5,tp,jW,hu]
   (with_reducible repeat' first|refine Xk ?_<;>try simp[hl,hb]|refine Xs ?_ ?_<;>intro h<;>(try intro h')<;>(try simp[h,hl,hb])<;>(try omega)|refine Xg ?_|omega)
   refine LJ.i (i+1) (by first|rfl|simp[H5,tp,jW,hu,gE i0 hi,tj]) (by first|rfl|simp[H5,tp,jW,hu,gE i0 hi,tj]) rfl rfl ?_
   omega
  ·have:i=part.length:=by omega
   subst this
   simp[H5,tp,jW,hu]
   refine fw.inl yZ rfl rfl (by simp[yZ]) rfl ?_
   simp[yZ]
   refine pY.s (by simp;rfl) ?_
   refine pY.r (f:=162) (first:=[]) (cap:=[.ptr 9 0 0]) rfl rfl rfl rfl ?_
   simp
   have II:=f162 u z o m v (jk b (fun _=>true) part) hv (by rw[oP _ _ _ (by rw[hb];exact hp),hb])
   rw[hu]at II
   have gX:=(BH o bu 4001 0 v (jk b (fun _=>true) part) 0 hv (by rw[oP _ _ _ (by rw[hb];exact hp),hb])).1
   unfold jJ
   dsimp only
   generalize iR g l nx part bu 4001 0 v (jk b (fun _=>true) part) 0=r at *
   obtain⟨t,v1,b1⟩:=r
   obtain⟨ke,sO⟩:=gX
   dsimp only at ke sO II ⊢
   refine Wf.mono II ?_
   rintro _ H' rfl
   refine⟨[(3,.ptr 5 0 0),(4,.ptr 6 0 0),(5,.ptr 7 0 0),(9,.ptr 8 0 0)],.ready,by simp[HF,H5,tp,jW,hu],?_⟩
   simp[HF,H5,tp,jW,hu]
   refine fe.s (by simp;rfl) ?_
   refine fe.kg [10] false (0:Int) (fun y=>[(3,.ptr 5 0 0),(9,.ptr 8 0 0),(96,dI part),(97,.i part.length),(98,.i y)]) (fun y=>H5 u z g l nx m (kP (part.take y.toNat) v1 b1).1 (kP (part.take y.toNat) v1 b1).2 ++ [.row 139 0 [tp u],.row 33 0 [dI part],.row 3 0 [.i bu],.row 3 0 [.i t],.row 139 0 [tp u],.jv]) (fun y=>0≤y∧y≤part.length) (fun y=>(part.length-y).toNat) ?_ (by simp) (by first|rfl|(simp[gL];done)|(simp[*];done)) rfl rfl rfl ?_
   ·simp
   rintro y ⟨y0,y1⟩
   dsimp only at y0 y1 ⊢
   rw[hu]
   by_cases hy:y<part.length
   ·have fF:=hp _ (ff y0 hy)
    have oM:∀ i∈(part.take y.toNat).filter (fun i=>gt b1 i),0≤i∧i<l.length:=fun i hi=>hp i (aM (aK.1 hi).1)
    have gW:(kP (part.take y.toNat) v1 b1).1.length=l.length:=by unfold kP;rw[oP _ _ _ (by rw[ke];exact oM),ke]
    have hJ:(kP (part.take y.toNat) v1 b1).2.length=l.length:=by unfold kP;rw[oP _ _ _ (by rw[sO];exact oM),sO]
    have FB:gt (kP (part.take y.toNat) v1 b1).2 (gt part y)=gt b1 (gt part y):=by
     unfold kP
     dsimp only
     rw[sM _ _ _ (by rw[sO];exact oM) _ fF.1 (by omega),if_neg fun hm=>?_]
     have h1:=(aK.1 hm).1
     have h2:=o.nd
     rw[← bO y.toNat part,lB y0 hy,aP]at h2
     exact h2.2.2 _ h1 _ (cd ..) rfl
    have AJ:gt b1 (gt part y)=true→kP (part.take (y+1).toNat) v1 b1=(pt (kP (part.take y.toNat) v1 b1).1 (gt part y) (2,0),pt (kP (part.take y.toNat) v1 b1).2 (gt part y) false):=fun h=>by
     unfold kP
     rw[gE y0 hy,cj,eE h,cL,tj,tj]
    have nO:gt b1 (gt part y)=false→kP (part.take (y+1).toNat) v1 b1=kP (part.take y.toNat) v1 b1:=fun h=>by
     unfold kP
     rw[gE y0 hy,cj,eF (by rw[h];decide),cL,aw]
    generalize hF:kP (part.take y.toNat) v1 b1=F at *
    obtain⟨v2,b2⟩:=F
    dsimp only at gW hJ FB AJ nO ⊢
    simp[hy,H5,tp,jW,hu,hF,gW,hJ,FB]
    (with_reducible repeat' first|refine Xk ?_<;>try simp[gW,hJ,FB,nh]|refine Xs ?_ ?_<;>intro h<;>(try intro h')<;>(try simp[h,gW,hJ,FB,nh])<;>(try omega)|refine Xg ?_|omega)
    ·refine LJ.i (y+1) (by first|rfl|simp[H5,tp,jW,hu,AJ h]) (by first|rfl|simp[H5,tp,jW,hu,AJ h]) (by first|rfl|simp[H5,tp,jW,hu,AJ h]) (by first|rfl|simp[H5,tp,jW,hu,AJ h]) ?_
     omega
    ·refine LJ.i (y+1) (by first|rfl|simp[H5,tp,jW,hu,nO h]) (by first|rfl|simp[H5,tp,jW,hu,nO h]) (by first|rfl|simp[H5,tp,jW,hu,nO h]) (by first|rfl|simp[H5,tp,jW,hu,nO h]) ?_
     omega
   ·have:y=part.length:=by omega
    subst this
    simp[H5,tp,jW,hu]
