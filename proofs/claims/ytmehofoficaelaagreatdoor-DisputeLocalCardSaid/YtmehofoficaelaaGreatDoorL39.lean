/- Part 39 of DisputeLocal. -/
import Derived.Test.YtmehofoficaelaaGreatDoorL38
set_option linter.all false
namespace Go.Proofs.YtmehofoficaelaaGreatDoor
open Go Go.AL Classical
theorem TT{v:List fe}{b:List Bool}{x:List Int}:∀ n:Nat,n≤x.length→(∀ j:Nat,j<n→gt b (gt x (j:Int))=false∧(gt v (gt x (j:Int))).1=1)→(kN v b x n).1=n
 | 0,_,_=>rfl
 | n+1,hn,h=>by
  rw[kN,if_pos (h n (by omega))]
  have:=TT (v:=v) (b:=b) (x:=x) n (by omega) fun j hj=>h j (by omega)
  dsimp only
  omega
theorem Nd{v:List fe}{b:List Bool}{x:List Int}:∀ n:Nat,(kN v b x n).1=n→∀ j:Nat,j<n→gt b (gt x (j:Int))=false∧(gt v (gt x (j:Int))).1=1
 | 0,_,j,hj=>by omega
 | n+1,h,j,hj=>by
  have fM:=Jh v b x n
  rw[kN]at h
  split at h
  ·rename_i hc
   dsimp only at h
   by_cases e:j=n
   ·subst e;exact hc
   ·exact Nd (v:=v) (b:=b) (x:=x) n (by omega) j (by omega)
  ·omega
theorem Ji{v:List fe}{b:List Bool}{x:List Int}:∀ n:Nat,(kN v b x n).1=n→∀ j:Nat,j<n→(gt v (gt x (j:Int))).2≤(kN v b x n).2
 | 0,_,j,hj=>by omega
 | n+1,h,j,hj=>by
  have fM:=Jh v b x n
  rw[kN]at h ⊢
  split at h
  ·rename_i hc
   rw[if_pos hc]
   dsimp only at h ⊢
   by_cases e:j=n
   ·subst e;omega
   ·have:=Ji (v:=v) (b:=b) (x:=x) n (by omega) j (by omega)
    omega
  ·omega
def Mc{x:List Int}{k:Int}:k∈x↔∃ j:Nat,j<x.length∧gt x (j:Int)=k:=by
 rw[z8]
 constructor
 ·rintro⟨n,n0,n1,e⟩
  exact⟨n.toNat,by omega,by rw[show((n.toNat:Nat):Int)=n by omega];exact e⟩
 ·rintro⟨j,hj,e⟩
  exact⟨j,by omega,by omega,e⟩
section
variable{g:eY}{l:List Pos}{nx:List (List Int)}{part:List Int}{bu:Int}
structure FI(g:eY)(l:List Pos)(nx:List (List Int))(part:List Int)(v0:List fe)(n:Int)(v:List fe)(b:List Bool):Prop where
 vl:v.length=l.length
 bl:b.length=l.length
 out:∀ k:Int,0≤k→k<l.length→k ∉ part→gt b k=false∧gt v k=gt v0 k
 dec:∀ i∈part,gt b i=false→(0≤(gt v i).2∧(gt v i).2<n)∧(((stat g (gt l i)).2=true∧gt v i=((stat g (gt l i)).1,0))∨((stat g (gt l i)).2=false∧(
  (∃ m,1≤m∧gt v i=(1,m)∧(∃ k∈gt nx i,gt b k=false∧gt v k=(3,m-1))∧∀ k∈gt nx i,gt b k=false→(gt v k).1=3→m-1≤(gt v k).2) ∨
  (∃ m,1≤m∧gt v i=(3,m)∧(∀ k∈gt nx i,gt b k=false∧(gt v k).1=1∧(gt v k).2≤m-1)∧∃ k∈gt nx i,(gt v k).2=m-1))))
 yk:∀ i∈part,gt b i=true→0<n→(stat g (gt l i)).2=false∧(∀ k∈gt nx i,gt b k=false→(gt v k).1=3→n-1≤(gt v k).2) ∧
  (gt nx i≠[]→(∀ k∈gt nx i,gt b k=false∧(gt v k).1=1)→∃ k∈gt nx i,n-1≤(gt v k).2)
def FI.step(o:tK g l nx part bu){v0:List fe}(h0:∀ k:Int,0≤k→k<l.length→0≤(gt v0 k).2){n:Int}(n0:0≤n){v:List fe}{b:List Bool}(h:FI g l nx part v0 n v b):FI g l nx part v0 (n+1) (rV g l nx part v b n) (rB g l nx part v b n):=by
 have hV:=fun{k:Int} (k0:0≤k) (k1:k<l.length)=>P9 o h.vl h.bl (n:=n) k0 k1
 have hB:=fun{k:Int} (k0:0≤k) (k1:k<l.length)=>Kh o (v:=v) h.bl (n:=n) k0 k1
 have fM:∀ i∈part,∀ k∈gt nx i,0≤k∧k<l.length:=fun i hi k hk=>(o.Sd i (o.prt i hi).1 (o.prt i hi).2).1 k hk
 have hd:∀ k,k∈pG g l nx part v b n↔k∈part∧(nL g (gt l k) v b (gt nx k) n).2=true∧gt b k=true:=fun k=>by
  unfold pG Mm
  rw[aP,ah]
 have lS:∀ k,k∈pG g l nx part v b n→(GZ g l nx v b n k).2=n:=fun k hk=>by
  unfold GZ nL
  split
  ·rename_i e;rw[e]
  ·split<;>rfl
 have hold:∀ k:Int,0≤k→k<l.length→gt b k=false→gt (rB g l nx part v b n) k=false∧gt (rV g l nx part v b n) k=gt v k:=fun k k0 k1 e=>by
  have hn:k ∉ pG g l nx part v b n:=fun hm=>by rw[((hd k).1 hm).2.2]at e;cases e
  rw[hV k0 k1,hB k0 k1,if_neg hn,if_neg hn]
  exact⟨e,rfl⟩
 have Cf:∀ k:Int,0≤k→k<l.length→gt (rB g l nx part v b n) k=false→(gt b k=false∧gt (rV g l nx part v b n) k=gt v k)∨(k∈pG g l nx part v b n∧(gt (rV g l nx part v b n) k).2=n):=fun k k0 k1 e=>by
  by_cases hm:k∈pG g l nx part v b n
  ·right
   rw[hV k0 k1,if_pos hm]
   exact⟨hm,lS k hm⟩
  ·left
   rw[hB k0 k1,if_neg hm]at e
   rw[hV k0 k1,if_neg hm]
   exact⟨e,rfl⟩
 have qB:∀ k:Int,0≤k→k<l.length→gt b k=false→0≤(gt v k).2:=fun k k0 k1 e=>by
  by_cases hp:k∈part
  ·exact(h.dec k hp e).1.1
  ·rw[(h.out k k0 k1 hp).2];exact h0 k k0 k1
 refine⟨afk o h.vl h.bl,afj o h.bl,fun k k0 k1 hk=>?_,fun i hi e=>?_,fun i hi e _=>?_⟩
 ·obtain⟨a,c⟩:=h.out k k0 k1 hk
  obtain⟨a',c'⟩:=hold k k0 k1 a
  exact⟨a',c'.trans c⟩
 ·obtain⟨i0,i1⟩:=o.prt i hi
  rcases Cf i i0 i1 e with⟨e1,e2⟩|⟨hm,al8⟩
  ·obtain⟨hr,hc⟩:=h.dec i hi e1
   rw[e2]
   refine⟨⟨hr.1,by omega⟩,?_⟩
   rcases hc with⟨c1,c2⟩|⟨c1,⟨m,m1,c2,⟨k,hk,c3,c4⟩,c5⟩|⟨m,m1,c2,c3,k,hk,c4⟩⟩
   ·exact .inl ⟨c1,c2⟩
   ·refine .inr ⟨c1,.inl ⟨m,m1,c2,⟨k,hk,?_⟩,fun q hq a1 a2=>?_⟩⟩
    ·have:=hold k (fM i hi k hk).1 (fM i hi k hk).2 c3
     exact⟨this.1,this.2.trans c4⟩
    ·rcases Cf q (fM i hi q hq).1 (fM i hi q hq).2 a1 with⟨b1,b2⟩|⟨_,b2⟩
     ·rw[b2]at a2 ⊢;exact c5 q hq b1 a2
     ·rw[c2]at hr
      dsimp only at hr
      omega
   ·refine .inr ⟨c1,.inr ⟨m,m1,c2,fun q hq=>?_,k,hk,?_⟩⟩
    ·obtain⟨d1,d2,d3⟩:=c3 q hq
     have:=hold q (fM i hi q hq).1 (fM i hi q hq).2 d1
     rw[this.2]
     exact⟨this.1,d2,d3⟩
    ·rw[(hold k (fM i hi k hk).1 (fM i hi k hk).2 (c3 k hk).1).2];exact c4
  ·obtain⟨_,h2,h3⟩:=(hd i).1 hm
   refine⟨by omega,?_⟩
   have hv:gt (rV g l nx part v b n) i=(nL g (gt l i) v b (gt nx i) n).1:=by rw[hV i0 i1,if_pos hm];rfl
   rw[hv]
   by_cases e0:n=0
   ·subst e0
    unfold nL at h2 ⊢
    rw[if_pos rfl]at h2 ⊢
    exact .inl ⟨h2,rfl⟩
   ·obtain⟨p1,p2,p3⟩:=h.yk i hi h3 (by omega)
    refine .inr ⟨p1,?_⟩
    unfold nL at h2 ⊢
    rw[if_neg e0]at h2 ⊢
    by_cases hl:x4 v b (gt nx i) n
    ·rw[if_pos hl]
     obtain⟨k,hk,c3,c4⟩:=hl
     refine .inl ⟨n,by omega,rfl,⟨k,hk,?_⟩,fun q hq a1 a2=>?_⟩
     ·have:=hold k (fM i hi k hk).1 (fM i hi k hk).2 c3
      exact⟨this.1,this.2.trans c4⟩
     ·rcases Cf q (fM i hi q hq).1 (fM i hi q hq).2 a1 with⟨b1,b2⟩|⟨_,b2⟩
      ·rw[b2]at a2 ⊢;exact p2 q hq b1 a2
      ·omega
    ·rw[if_neg hl]at h2 ⊢
     simp only[decide_eq_true_eq]at h2
     obtain⟨w0,w1,w2⟩:=h2
     have hc:=Nd _ w1
     have hg:=Ji _ w1
     refine .inr ⟨n,by omega,rfl,fun q hq=>?_,?_⟩
     ·obtain⟨j,hj,rfl⟩:=Mc.1 hq
      have hb:=hold _ (fM i hi _ hq).1 (fM i hi _ hq).2 (hc j hj).1
      have:=hg j hj
      rw[hb.2]
      exact⟨hb.1,(hc j hj).2,by omega⟩
     ·rcases Nf v b (gt nx i) (gt nx i).length (Nat.le_refl _)with e1|⟨q,hq,q1,q2,q3⟩
      ·omega
      ·refine⟨q,hq,?_⟩
       rw[(hold q (fM i hi q hq).1 (fM i hi q hq).2 q1).2]
       omega
 ·obtain⟨i0,i1⟩:=o.prt i hi
  have rk:i ∉ pG g l nx part v b n:=fun hm=>by
   rw[hB i0 i1,if_pos hm]at e;cases e
  rw[hB i0 i1,if_neg rk]at e
  have kn:(nL g (gt l i) v b (gt nx i) n).2=false:=by
   by_cases hx:(nL g (gt l i) v b (gt nx i) n).2=true
   ·exact absurd ((hd i).2 ⟨hi,hx,e⟩) rk
   ·simpa using hx
  have HG:(stat g (gt l i)).2=false:=by
   by_cases e0:n=0
   ·unfold nL at kn
    rw[if_pos e0]at kn
    exact kn
   ·exact(h.yk i hi e (by omega)).1
  have mq:n≠0→¬ x4 v b (gt nx i) n:=fun e0 hl=>by
   unfold nL at kn
   rw[if_neg e0,if_pos hl]at kn
   cases kn
  refine⟨HG,fun k hk a1 a2=>?_,fun gE ha=>?_⟩
  ·rcases Cf k (fM i hi k hk).1 (fM i hi k hk).2 a1 with⟨b1,b2⟩|⟨_,b2⟩
   ·rw[b2]at a2 ⊢
    by_cases e0:n=0
    ·have:=qB k (fM i hi k hk).1 (fM i hi k hk).2 b1
     omega
    ·have h1:=(h.yk i hi e (by omega)).2.1 k hk b1 a2
     have h2:(gt v k).2≠n-1:=fun h3=>mq e0 ⟨k,hk,b1,cS a2 h3⟩
     omega
   ·omega
  ·by_cases hx:∃ k∈gt nx i,n≤(gt (rV g l nx part v b n) k).2
   ·obtain⟨k,hk,hx⟩:=hx
    exact⟨k,hk,by omega⟩
   ·exfalso
    have gi:∀ k∈gt nx i,gt b k=false∧(gt v k).1=1∧(gt v k).2<n:=fun k hk=>by
     have h1:¬ n≤(gt (rV g l nx part v b n) k).2:=fun h2=>hx ⟨k,hk,h2⟩
     obtain⟨a1,a2⟩:=ha k hk
     rcases Cf k (fM i hi k hk).1 (fM i hi k hk).2 a1 with⟨b1,b2⟩|⟨_,b2⟩
     ·rw[b2]at a2 h1
      exact⟨b1,a2,by omega⟩
     ·omega
    have jQ:0<(gt nx i).length:=ay.2 gE
    by_cases e0:n=0
    ·have hk:=ft (l:=gt nx i) (n:=0) (by omega) (by omega)
     have h1:=gi _ hk
     have h2:=qB _ (fM i hi _ hk).1 (fM i hi _ hk).2 h1.1
     omega
    ·obtain⟨k,hk,h1⟩:=(h.yk i hi e (by omega)).2.2 gE fun k hk=>⟨(gi k hk).1,(gi k hk).2.1⟩
     have w1:=TT (v:=v) (b:=b) (x:=gt nx i) _ (Nat.le_refl _) fun j hj=>by
      have:=gi _ (Mc.2 ⟨j,hj,rfl⟩)
      exact⟨this.1,this.2.1⟩
     have w2:(kN v b (gt nx i) (gt nx i).length).2=n-1:=by
      obtain⟨j,hj,rfl⟩:=Mc.1 hk
      have g1:=Ji _ w1 j hj
      rcases Nf v b (gt nx i) (gt nx i).length (Nat.le_refl _)with e1|⟨q,hq,_,_,q3⟩
      ·have:=qB _ (fM i hi _ hk).1 (fM i hi _ hk).2 (gi _ hk).1
       omega
      ·have:=(gi q hq).2.2
       omega
     unfold nL at kn
     rw[if_neg e0,if_neg (mq e0)]at kn
     simp only[decide_eq_false_iff_not]at kn
     exact kn ⟨by omega,w1,w2⟩
end
end Go.Proofs.YtmehofoficaelaaGreatDoor
namespace Go.Proofs.YtmehofoficaelaaGreatDoor
open Go Go.AL Classical
section
variable{g:eY}{l:List Pos}{nx:List (List Int)}{part:List Int}{bu:Int}
def Wz(o:tK g l nx part bu){v0 V:List fe}{B:List Bool}{n:Int}(n0:0<n)(hf:FI g l nx part v0 n V B)
  (hq:∀ k:Int,0≤k→k<l.length→gt B k=false→(gt V k).1≠2→(gt V k).2<n-1):∀ i∈part,jM (lz g l nx) (sX part V B).1 i:=by
 obtain⟨_,f2⟩:=PI o hf.vl hf.bl
 have fM:∀ i∈part,∀ k∈gt nx i,0≤k∧k<l.length:=fun i hi k hk=>(o.Sd i (o.prt i hi).1 (o.prt i hi).2).1 k hk
 have hk:∀ k:Int,0≤k→k<l.length→gt B k=false→gt (sX part V B).1 k=gt V k:=fun k k0 k1 e=>by
  rw[(f2 k k0 k1).1,if_neg fun h=>by rw[e]at h;exact absurd h.2 (by simp)]
 have hs:∀ k:Int,0≤k→k<l.length→(gt (sX part V B).1 k).1≠2→gt B k=false:=fun k k0 k1 e=>by
  by_cases hp:k∈part
  ·by_cases Ql:gt B k=true
   ·rw[(f2 k k0 k1).1,if_pos ⟨hp,Ql⟩]at e
    exact absurd rfl e
   ·simpa using Ql
  ·exact(hf.out k k0 k1 hp).1
 intro i hi
 obtain⟨i0,i1⟩:=o.prt i hi
 by_cases e:gt B i=true
 ·obtain⟨p1,p2,p3⟩:=hf.yk i hi e n0
  refine .inr ⟨p1,.inr (.inr ⟨by rw[(f2 i i0 i1).1,if_pos ⟨hi,e⟩],fun k jC e3=>?_,fun⟨gE,ha⟩=>?_⟩)⟩
  ·obtain⟨k0,k1⟩:=fM i hi k jC
   have e4:=hs k k0 k1 (by omega)
   rw[hk k k0 k1 e4]at e3
   have h1:=p2 k jC e4 e3
   have h2:=hq k k0 k1 e4 (by omega)
   omega
  ·obtain⟨k,jC,h1⟩:=p3 gE fun k jC=>by
    obtain⟨k0,k1⟩:=fM i hi k jC
    have e3:=ha k jC
    have e4:=hs k k0 k1 (by omega)
    rw[hk k k0 k1 e4]at e3
    exact⟨e4,e3⟩
   obtain⟨k0,k1⟩:=fM i hi k jC
   have e3:=ha k jC
   have e4:=hs k k0 k1 (by omega)
   rw[hk k k0 k1 e4]at e3
   have h2:=hq k k0 k1 e4 (by omega)
   omega
 ·have e':gt B i=false:=by simpa using e
  rcases(hf.dec i hi e').2 with⟨c1,c2⟩|⟨c1,⟨m,LZ,c2,⟨k,jC,c3,c4⟩,c5⟩|⟨m,LZ,c2,c3,k,jC,c4⟩⟩
  ·exact .inl ⟨c1,by rw[hk i i0 i1 e'];exact c2⟩
  ·refine .inr ⟨c1,.inl ⟨m,LZ,by rw[hk i i0 i1 e'];exact c2,⟨k,jC,by rw[hk k (fM i hi k jC).1 (fM i hi k jC).2 c3];exact c4⟩,fun q zO e3=>?_⟩⟩
   obtain⟨q0,q1⟩:=fM i hi q zO
   have e4:=hs q q0 q1 (by omega)
   rw[hk q q0 q1 e4]at e3 ⊢
   exact c5 q zO e4 e3
  ·refine .inr ⟨c1,.inr (.inl ⟨m,LZ,by rw[hk i i0 i1 e'];exact c2,fun q zO=>?_,k,jC,?_⟩)⟩
   ·obtain⟨d1,d2⟩:=c3 q zO
    rw[hk q (fM i hi q zO).1 (fM i hi q zO).2 d1]
    exact d2
   ·rw[hk k (fM i hi k jC).1 (fM i hi k jC).2 (c3 k jC).1];exact c4
end
section
variable{g:eY}{l:List Pos}{m:List Int}
end
end Go.Proofs.YtmehofoficaelaaGreatDoor
namespace Go.Proofs.YtmehofoficaelaaGreatDoor
open Go Go.AL Classical
structure VB(A:pR)(n:Nat)(P R:List Int)(v:List fe)(lf:List Int):Prop where
 vl:v.length=n
 ll:lf.length=n
 nd:(P++R).Nodup
 qr:∀ k∈P++R,0≤k∧k<n
 qi:∀ k∈P++R,(gt v k).1≠0
 z:∀ k:Int,0≤k→k<n→k ∉ P++R→gt v k=(0,0)
 ov:∀ k:Int,0≤k→k<n→A.ov k=true→k∈P++R∧gt v k=(A.rs k,0)
 mono:(P++R).Pairwise fun a b=>(gt v a).2≤(gt v b).2
 top:∀ i R',R=i::R'→∀ a∈P++R,(gt v a).2≤(gt v i).2+1
 nn:∀ a∈P++R,0≤(gt v a).2∧(gt v a).2≤(P++R).length
 st:∀ k∈P++R,A.ov k=false →
  (∃ m,1≤m∧gt v k=(1,m)∧(∃ c∈gt A.nx k,gt v c=(3,m-1))∧∀ c∈gt A.nx k,(gt v c).1=3→m-1≤(gt v c).2) ∨
  (∃ m,1≤m∧gt v k=(3,m)∧(∀ c∈gt A.nx k,(gt v c).1=1∧(gt v c).2≤m-1)∧∃ c∈gt A.nx k,(gt v c).2=m-1)
section
variable{A:pR}{n:Nat}{P R d:List Int}{v:List fe}{lf:List Int}{i k t:Int}
structure VS(A:pR)(n:Nat)(m:Int)(R:List Int)(v:List fe)(lf:List Int):Prop where
 vl:v.length=n
 ll:lf.length=n
 nd:R.Nodup
 qr:∀ k,k∈R↔(0≤k∧k<m)∧A.ov k=true
 vv:∀ k:Int,0≤k→k<n→gt v k=if k∈R then(A.rs k,0)else(0,0)
 lv:∀ k:Int,0≤k→k<m→gt lf k=(gt A.nx k).length
end
end Go.Proofs.YtmehofoficaelaaGreatDoor
namespace Go.Proofs.YtmehofoficaelaaGreatDoor
open Go Go.AL Classical
set_option maxRecDepth 10000
set_option maxHeartbeats 8000000
attribute [-simp] ZN
end Go.Proofs.YtmehofoficaelaaGreatDoor
namespace Go.Proofs.YtmehofoficaelaaGreatDoor
open Go Go.AL Classical
set_option maxRecDepth 10000
set_option maxHeartbeats 16000000
attribute [local simp] HF H5 tp I5
end Go.Proofs.YtmehofoficaelaaGreatDoor
namespace Go.Proofs.YtmehofoficaelaaGreatDoor
open Go Go.AL Classical
set_option maxRecDepth 10000
set_option maxHeartbeats 16000000
attribute [local simp] HF H5 tp I5
section
variable{g:eY}{l:List Pos}{nx:List (List Int)}{part:List Int}{bu:Int}
