/- Part 41 of TableHurry. -/
import Derived.Test.YtnaefnajkaohgaaGreatDoorG40
import Derived.Test.YtnaefnajkaohgaaGreatDoorG16
set_option linter.all false
namespace Go.Proofs.YtnaefnajkaohgaaGreatDoor
open Go Go.AL Classical
structure qM where
 ov:Int→Bool
 rs:Int→Int
 nx:List (List Int)
def lI(A:qM)(v:List eI)(i:Int):Prop:=
 (A.ov i=true∧gt v i=(A.rs i,0))∨(A.ov i=false∧(
  (∃ n,1≤n∧gt v i=(1,n)∧(∃ k∈gt A.nx i,gt v k=(3,n-1))∧∀ k∈gt A.nx i,(gt v k).1=3→n-1≤(gt v k).2) ∨
  (∃ n,1≤n∧gt v i=(3,n)∧(∀ k∈gt A.nx i,(gt v k).1=1∧(gt v k).2≤n-1)∧∃ k∈gt A.nx i,(gt v k).2=n-1) ∨
  (gt v i=(2,0)∧(∀ k∈gt A.nx i,(gt v k).1≠3)∧¬ (gt A.nx i≠[]∧∀ k∈gt A.nx i,(gt v k).1=1))))
theorem lI.n0{A:qM}{v:List eI}{i:Int}(h:lI A v i):0≤(gt v i).2:=by
 rcases h with⟨_,e⟩|⟨_,⟨n,h,e,_⟩|⟨n,h,e,_⟩|⟨e,_⟩⟩<;>rw[e]<;>simp<;>omega
theorem lI.congr{A:qM}{v v':List eI}{i:Int}(h:lI A v i)(hi:gt v' i=gt v i)(hk:∀ k∈gt A.nx i,gt v' k=gt v k):lI A v' i:=by
 rcases h with⟨c1,c2⟩|⟨c1,⟨q,q1,c2,⟨k,ie,c3⟩,c4⟩|⟨q,q1,c2,c3,k,ie,c4⟩|⟨c2,c3,c4⟩⟩
 ·exact .inl ⟨c1,by rw[hi];exact c2⟩
 ·exact .inr ⟨c1,.inl ⟨q,q1,by rw[hi];exact c2,⟨k,ie,by rw[hk k ie];exact c3⟩,fun p hp=>by rw[hk p hp];exact c4 p hp⟩⟩
 ·exact .inr ⟨c1,.inr (.inl ⟨q,q1,by rw[hi];exact c2,fun p hp=>by rw[hk p hp];exact c3 p hp,k,ie,by rw[hk k ie];exact c4⟩)⟩
 ·exact .inr ⟨c1,.inr (.inr ⟨by rw[hi];exact c2,fun p hp=>by rw[hk p hp];exact c3 p hp,fun⟨a1,a2⟩=>c4 ⟨a1,fun p hp=>by rw[← hk p hp];exact a2 p hp⟩⟩)⟩
section
variable{A:qM}{S:Int→Prop}{v v':List eI}
end
noncomputable def mX(g:ey)(l:List Pos)(nx:List (List Int)):qM:=⟨fun i=>(stat g (gt l i)).2,fun i=>(stat g (gt l i)).1,nx⟩
end Go.Proofs.YtnaefnajkaohgaaGreatDoor
namespace Go.Proofs.YtnaefnajkaohgaaGreatDoor
open Go Go.AL Classical
theorem Oe{v:List eI}{b:List Bool}{x:List Int}:∀ n:Nat,n≤x.length→(∀ j:Nat,j<n→gt b (gt x (j:Int))=false∧(gt v (gt x (j:Int))).1=1)→(jb v b x n).1=n
 | 0,_,_=>rfl
 | n+1,hn,h=>by
  rw[jb,if_pos (h n (by omega))]
  have:=Oe (v:=v) (b:=b) (x:=x) n (by omega) fun j hj=>h j (by omega)
  dsimp only
  omega
theorem IE{v:List eI}{b:List Bool}{x:List Int}:∀ n:Nat,(jb v b x n).1=n→∀ j:Nat,j<n→gt b (gt x (j:Int))=false∧(gt v (gt x (j:Int))).1=1
 | 0,_,j,hj=>by omega
 | n+1,h,j,hj=>by
  have ff:=EZ v b x n
  rw[jb]at h
  split at h
  ·rename_i hc
   dsimp only at h
   by_cases e:j=n
   ·subst e;exact hc
   ·exact IE (v:=v) (b:=b) (x:=x) n (by omega) j (by omega)
  ·omega
theorem E0{v:List eI}{b:List Bool}{x:List Int}:∀ n:Nat,(jb v b x n).1=n→∀ j:Nat,j<n→(gt v (gt x (j:Int))).2≤(jb v b x n).2
 | 0,_,j,hj=>by omega
 | n+1,h,j,hj=>by
  have ff:=EZ v b x n
  rw[jb]at h ⊢
  split at h
  ·rename_i hc
   rw[if_pos hc]
   dsimp only at h ⊢
   by_cases e:j=n
   ·subst e;omega
   ·have:=E0 (v:=v) (b:=b) (x:=x) n (by omega) j (by omega)
    omega
  ·omega
theorem y5{x:List Int}{k:Int}:k∈x↔∃ j:Nat,j<x.length∧gt x (j:Int)=k:=by
 rw[oB]
 constructor
 ·rintro⟨n,n0,n1,e⟩
  exact⟨n.toNat,by omega,by rw[show((n.toNat:Nat):Int)=n by omega];exact e⟩
 ·rintro⟨j,hj,e⟩
  exact⟨j,by omega,by omega,e⟩
section
variable{g:ey}{l:List Pos}{nx:List (List Int)}{part:List Int}{bu:Int}
structure FI(g:ey)(l:List Pos)(nx:List (List Int))(part:List Int)(v0:List eI)(n:Int)(v:List eI)(b:List Bool):Prop where
 vl:v.length=l.length
 bl:b.length=l.length
 out:∀ k:Int,0≤k→k<l.length→k ∉ part→gt b k=false∧gt v k=gt v0 k
 dec:∀ i∈part,gt b i=false→(0≤(gt v i).2∧(gt v i).2<n)∧(((stat g (gt l i)).2=true∧gt v i=((stat g (gt l i)).1,0))∨((stat g (gt l i)).2=false∧(
  (∃ m,1≤m∧gt v i=(1,m)∧(∃ k∈gt nx i,gt b k=false∧gt v k=(3,m-1))∧∀ k∈gt nx i,gt b k=false→(gt v k).1=3→m-1≤(gt v k).2) ∨
  (∃ m,1≤m∧gt v i=(3,m)∧(∀ k∈gt nx i,gt b k=false∧(gt v k).1=1∧(gt v k).2≤m-1)∧∃ k∈gt nx i,(gt v k).2=m-1))))
 uO:∀ i∈part,gt b i=true→0<n→(stat g (gt l i)).2=false∧(∀ k∈gt nx i,gt b k=false→(gt v k).1=3→n-1≤(gt v k).2) ∧
  (gt nx i≠[]→(∀ k∈gt nx i,gt b k=false∧(gt v k).1=1)→∃ k∈gt nx i,n-1≤(gt v k).2)
theorem FI.step(o:qO g l nx part bu){v0:List eI}(h0:∀ k:Int,0≤k→k<l.length→0≤(gt v0 k).2){n:Int}(n0:0≤n){v:List eI}{b:List Bool}(h:FI g l nx part v0 n v b):FI g l nx part v0 (n+1) (rV g l nx part v b n) (rB g l nx part v b n):=by
 have hV:=fun{k:Int} (k0:0≤k) (k1:k<l.length)=>KX o h.vl h.bl (n:=n) k0 k1
 have hB:=fun{k:Int} (k0:0≤k) (k1:k<l.length)=>F4 o (v:=v) h.bl (n:=n) k0 k1
 have ff:∀ i∈part,∀ k∈gt nx i,0≤k∧k<l.length:=fun i hi k hk=>(o.MY i (o.prt i hi).1 (o.prt i hi).2).1 k hk
 have hd:∀ k,k∈nf g l nx part v b n↔k∈part∧(ly g (gt l k) v b (gt nx k) n).2=true∧gt b k=true:=fun k=>by
  unfold nf HO
  rw[aT,ah]
 have jT:∀ k,k∈nf g l nx part v b n→(CU g l nx v b n k).2=n:=fun k hk=>by
  unfold CU ly
  split
  ·rename_i e;rw[e]
  ·split<;>rfl
 have hold:∀ k:Int,0≤k→k<l.length→gt b k=false→gt (rB g l nx part v b n) k=false∧gt (rV g l nx part v b n) k=gt v k:=fun k k0 k1 e=>by
  have hn:k ∉ nf g l nx part v b n:=fun hm=>by rw[((hd k).1 hm).2.2]at e;cases e
  rw[hV k0 k1,hB k0 k1,if_neg hn,if_neg hn]
  exact⟨e,rfl⟩
 have yA:∀ k:Int,0≤k→k<l.length→gt (rB g l nx part v b n) k=false→(gt b k=false∧gt (rV g l nx part v b n) k=gt v k)∨(k∈nf g l nx part v b n∧(gt (rV g l nx part v b n) k).2=n):=fun k k0 k1 e=>by
  by_cases hm:k∈nf g l nx part v b n
  ·right
   rw[hV k0 k1,if_pos hm]
   exact⟨hm,jT k hm⟩
  ·left
   rw[hB k0 k1,if_neg hm]at e
   rw[hV k0 k1,if_neg hm]
   exact⟨e,rfl⟩
 have oi:∀ k:Int,0≤k→k<l.length→gt b k=false→0≤(gt v k).2:=fun k k0 k1 e=>by
  by_cases hp:k∈part
  ·exact(h.dec k hp e).1.1
  ·rw[(h.out k k0 k1 hp).2];exact h0 k k0 k1
 refine⟨Y' o h.vl h.bl,Y9 o h.bl,fun k k0 k1 hk=>?_,fun i hi e=>?_,fun i hi e _=>?_⟩
 ·obtain⟨a,c⟩:=h.out k k0 k1 hk
  obtain⟨a',c'⟩:=hold k k0 k1 a
  exact⟨a',c'.trans c⟩
 ·obtain⟨i0,i1⟩:=o.prt i hi
  rcases yA i i0 i1 e with⟨e1,e2⟩|⟨hm,afC⟩
  ·obtain⟨hr,hc⟩:=h.dec i hi e1
   rw[e2]
   refine⟨⟨hr.1,by omega⟩,?_⟩
   rcases hc with⟨c1,c2⟩|⟨c1,⟨m,m1,c2,⟨k,hk,c3,c4⟩,c5⟩|⟨m,m1,c2,c3,k,hk,c4⟩⟩
   ·exact .inl ⟨c1,c2⟩
   ·refine .inr ⟨c1,.inl ⟨m,m1,c2,⟨k,hk,?_⟩,fun q hq a1 a2=>?_⟩⟩
    ·have:=hold k (ff i hi k hk).1 (ff i hi k hk).2 c3
     exact⟨this.1,this.2.trans c4⟩
    ·rcases yA q (ff i hi q hq).1 (ff i hi q hq).2 a1 with⟨b1,b2⟩|⟨_,b2⟩
     ·rw[b2]at a2 ⊢;exact c5 q hq b1 a2
     ·rw[c2]at hr
      dsimp only at hr
      omega
   ·refine .inr ⟨c1,.inr ⟨m,m1,c2,fun q hq=>?_,k,hk,?_⟩⟩
    ·obtain⟨d1,d2,d3⟩:=c3 q hq
     have:=hold q (ff i hi q hq).1 (ff i hi q hq).2 d1
     rw[this.2]
     exact⟨this.1,d2,d3⟩
    ·rw[(hold k (ff i hi k hk).1 (ff i hi k hk).2 (c3 k hk).1).2];exact c4
  ·obtain⟨_,h2,h3⟩:=(hd i).1 hm
   refine⟨by omega,?_⟩
   have hv:gt (rV g l nx part v b n) i=(ly g (gt l i) v b (gt nx i) n).1:=by rw[hV i0 i1,if_pos hm];rfl
   rw[hv]
   by_cases e0:n=0
   ·subst e0
    unfold ly at h2 ⊢
    rw[if_pos rfl]at h2 ⊢
    exact .inl ⟨h2,rfl⟩
   ·obtain⟨p1,p2,p3⟩:=h.uO i hi h3 (by omega)
    refine .inr ⟨p1,?_⟩
    unfold ly at h2 ⊢
    rw[if_neg e0]at h2 ⊢
    by_cases hl:uH v b (gt nx i) n
    ·rw[if_pos hl]
     obtain⟨k,hk,c3,c4⟩:=hl
     refine .inl ⟨n,by omega,rfl,⟨k,hk,?_⟩,fun q hq a1 a2=>?_⟩
     ·have:=hold k (ff i hi k hk).1 (ff i hi k hk).2 c3
      exact⟨this.1,this.2.trans c4⟩
     ·rcases yA q (ff i hi q hq).1 (ff i hi q hq).2 a1 with⟨b1,b2⟩|⟨_,b2⟩
      ·rw[b2]at a2 ⊢;exact p2 q hq b1 a2
      ·omega
    ·rw[if_neg hl]at h2 ⊢
     simp only[decide_eq_true_eq]at h2
     obtain⟨w0,w1,w2⟩:=h2
     have hc:=IE _ w1
     have hg:=E0 _ w1
     refine .inr ⟨n,by omega,rfl,fun q hq=>?_,?_⟩
     ·obtain⟨j,hj,rfl⟩:=y5.1 hq
      have hb:=hold _ (ff i hi _ hq).1 (ff i hi _ hq).2 (hc j hj).1
      have:=hg j hj
      rw[hb.2]
      exact⟨hb.1,(hc j hj).2,by omega⟩
     ·rcases IF v b (gt nx i) (gt nx i).length (Nat.le_refl _)with e1|⟨q,hq,q1,q2,q3⟩
      ·omega
      ·refine⟨q,hq,?_⟩
       rw[(hold q (ff i hi q hq).1 (ff i hi q hq).2 q1).2]
       omega
 ·obtain⟨i0,i1⟩:=o.prt i hi
  have ni:i ∉ nf g l nx part v b n:=fun hm=>by
   rw[hB i0 i1,if_pos hm]at e;cases e
  rw[hB i0 i1,if_neg ni]at e
  have jl:(ly g (gt l i) v b (gt nx i) n).2=false:=by
   by_cases hx:(ly g (gt l i) v b (gt nx i) n).2=true
   ·exact absurd ((hd i).2 ⟨hi,hx,e⟩) ni
   ·simpa using hx
  have R5:(stat g (gt l i)).2=false:=by
   by_cases e0:n=0
   ·unfold ly at jl
    rw[if_pos e0]at jl
    exact jl
   ·exact(h.uO i hi e (by omega)).1
  have kz:n≠0→¬ uH v b (gt nx i) n:=fun e0 hl=>by
   unfold ly at jl
   rw[if_neg e0,if_pos hl]at jl
   cases jl
  refine⟨R5,fun k hk a1 a2=>?_,fun fJ ha=>?_⟩
  ·rcases yA k (ff i hi k hk).1 (ff i hi k hk).2 a1 with⟨b1,b2⟩|⟨_,b2⟩
   ·rw[b2]at a2 ⊢
    by_cases e0:n=0
    ·have:=oi k (ff i hi k hk).1 (ff i hi k hk).2 b1
     omega
    ·have h1:=(h.uO i hi e (by omega)).2.1 k hk b1 a2
     have h2:(gt v k).2≠n-1:=fun h3=>kz e0 ⟨k,hk,b1,Prod.ext a2 h3⟩
     omega
   ·omega
  ·by_cases hx:∃ k∈gt nx i,n≤(gt (rV g l nx part v b n) k).2
   ·obtain⟨k,hk,hx⟩:=hx
    exact⟨k,hk,by omega⟩
   ·exfalso
    have fe:∀ k∈gt nx i,gt b k=false∧(gt v k).1=1∧(gt v k).2<n:=fun k hk=>by
     have h1:¬ n≤(gt (rV g l nx part v b n) k).2:=fun h2=>hx ⟨k,hk,h2⟩
     obtain⟨a1,a2⟩:=ha k hk
     rcases yA k (ff i hi k hk).1 (ff i hi k hk).2 a1 with⟨b1,b2⟩|⟨_,b2⟩
     ·rw[b2]at a2 h1
      exact⟨b1,a2,by omega⟩
     ·omega
    have iy:0<(gt nx i).length:=aB.2 fJ
    by_cases e0:n=0
    ·have hk:=eH (l:=gt nx i) (n:=0) (by omega) (by omega)
     have h1:=fe _ hk
     have h2:=oi _ (ff i hi _ hk).1 (ff i hi _ hk).2 h1.1
     omega
    ·obtain⟨k,hk,h1⟩:=(h.uO i hi e (by omega)).2.2 fJ fun k hk=>⟨(fe k hk).1,(fe k hk).2.1⟩
     have w1:=Oe (v:=v) (b:=b) (x:=gt nx i) _ (Nat.le_refl _) fun j hj=>by
      have:=fe _ (y5.2 ⟨j,hj,rfl⟩)
      exact⟨this.1,this.2.1⟩
     have w2:(jb v b (gt nx i) (gt nx i).length).2=n-1:=by
      obtain⟨j,hj,rfl⟩:=y5.1 hk
      have g1:=E0 _ w1 j hj
      rcases IF v b (gt nx i) (gt nx i).length (Nat.le_refl _)with e1|⟨q,hq,_,_,q3⟩
      ·have:=oi _ (ff i hi _ hk).1 (ff i hi _ hk).2 (fe _ hk).1
       omega
      ·have:=(fe q hq).2.2
       omega
     unfold ly at jl
     rw[if_neg e0,if_neg (kz e0)]at jl
     simp only[decide_eq_false_iff_not]at jl
     exact jl ⟨by omega,w1,w2⟩
end
end Go.Proofs.YtnaefnajkaohgaaGreatDoor
namespace Go.Proofs.YtnaefnajkaohgaaGreatDoor
open Go Go.AL Classical
section
variable{g:ey}{l:List Pos}{nx:List (List Int)}{part:List Int}{bu:Int}
theorem Qh(o:qO g l nx part bu){v0 V:List eI}{B:List Bool}{n:Int}(n0:0<n)(hf:FI g l nx part v0 n V B)
  (hq:∀ k:Int,0≤k→k<l.length→gt B k=false→(gt V k).1≠2→(gt V k).2<n-1):∀ i∈part,lI (mX g l nx) (qg part V B).1 i:=by
 obtain⟨_,f2⟩:=KD o hf.vl hf.bl
 have ff:∀ i∈part,∀ k∈gt nx i,0≤k∧k<l.length:=fun i hi k hk=>(o.MY i (o.prt i hi).1 (o.prt i hi).2).1 k hk
 have hk:∀ k:Int,0≤k→k<l.length→gt B k=false→gt (qg part V B).1 k=gt V k:=fun k k0 k1 e=>by
  rw[(f2 k k0 k1).1,if_neg fun h=>by rw[e]at h;exact absurd h.2 (by simp)]
 have hs:∀ k:Int,0≤k→k<l.length→(gt (qg part V B).1 k).1≠2→gt B k=false:=fun k k0 k1 e=>by
  by_cases hp:k∈part
  ·by_cases K5:gt B k=true
   ·rw[(f2 k k0 k1).1,if_pos ⟨hp,K5⟩]at e
    exact absurd rfl e
   ·simpa using K5
  ·exact(hf.out k k0 k1 hp).1
 intro i hi
 obtain⟨i0,i1⟩:=o.prt i hi
 by_cases e:gt B i=true
 ·obtain⟨p1,p2,p3⟩:=hf.uO i hi e n0
  refine .inr ⟨p1,.inr (.inr ⟨by rw[(f2 i i0 i1).1,if_pos ⟨hi,e⟩],fun k ie e3=>?_,fun⟨fJ,ha⟩=>?_⟩)⟩
  ·obtain⟨k0,k1⟩:=ff i hi k ie
   have e4:=hs k k0 k1 (by omega)
   rw[hk k k0 k1 e4]at e3
   have h1:=p2 k ie e4 e3
   have h2:=hq k k0 k1 e4 (by omega)
   omega
  ·obtain⟨k,ie,h1⟩:=p3 fJ fun k ie=>by
    obtain⟨k0,k1⟩:=ff i hi k ie
    have e3:=ha k ie
    have e4:=hs k k0 k1 (by omega)
    rw[hk k k0 k1 e4]at e3
    exact⟨e4,e3⟩
   obtain⟨k0,k1⟩:=ff i hi k ie
   have e3:=ha k ie
   have e4:=hs k k0 k1 (by omega)
   rw[hk k k0 k1 e4]at e3
   have h2:=hq k k0 k1 e4 (by omega)
   omega
 ·have e':gt B i=false:=by simpa using e
  rcases(hf.dec i hi e').2 with⟨c1,c2⟩|⟨c1,⟨m,Hu,c2,⟨k,ie,c3,c4⟩,c5⟩|⟨m,Hu,c2,c3,k,ie,c4⟩⟩
  ·exact .inl ⟨c1,by rw[hk i i0 i1 e'];exact c2⟩
  ·refine .inr ⟨c1,.inl ⟨m,Hu,by rw[hk i i0 i1 e'];exact c2,⟨k,ie,by rw[hk k (ff i hi k ie).1 (ff i hi k ie).2 c3];exact c4⟩,fun q vZ e3=>?_⟩⟩
   obtain⟨q0,q1⟩:=ff i hi q vZ
   have e4:=hs q q0 q1 (by omega)
   rw[hk q q0 q1 e4]at e3 ⊢
   exact c5 q vZ e4 e3
  ·refine .inr ⟨c1,.inr (.inl ⟨m,Hu,by rw[hk i i0 i1 e'];exact c2,fun q vZ=>?_,k,ie,?_⟩)⟩
   ·obtain⟨d1,d2⟩:=c3 q vZ
    rw[hk q (ff i hi q vZ).1 (ff i hi q vZ).2 d1]
    exact d2
   ·rw[hk k (ff i hi k ie).1 (ff i hi k ie).2 (c3 k ie).1];exact c4
end
section
variable{g:ey}{l:List Pos}{m:List Int}
end
end Go.Proofs.YtnaefnajkaohgaaGreatDoor
namespace Go.Proofs.YtnaefnajkaohgaaGreatDoor
open Go Go.AL Classical
set_option maxRecDepth 10000
set_option maxHeartbeats 4000000
theorem JP{n:Nat}{N:Int→Int}{K:Int→Prop}(hK:∀ i,K i→(0≤i∧i<n)∧0≤N i)(h:∀ i,K i→N i=0∨∃ k,K k∧N k=N i-1):∀ i,K i→N i<n:=by
 have all:∀ (a:Nat) (i:Int),K i→N i=a→∀ m:Nat,m≤a→∃ q,K q∧N q=m:=by
  intro a
  induction a with
  | zero=>exact fun i hi e m hm=>⟨i,hi,by omega⟩
  | succ a ih=>
   intro i hi e m hm
   by_cases em:m=a+1
   ·exact⟨i,hi,by omega⟩
   rcases h i hi with h1|⟨k,hk,h1⟩
   ·omega
   ·exact ih k hk (by omega) m (by omega)
 intro i hi
 have h0:=hK i hi
 have:=D6 (List.nodup_range (n:=(N i).toNat+1)) (m:=(upto n).map fun k=>(N k).toNat) fun x hx=>by
  obtain⟨q,hq,e⟩:=all (N i).toNat i hi (by omega) x (by have:=bG.1 hx;omega)
  exact aw.2 ⟨q,iR.2 (hK q hq).1,by rw[e];rfl⟩
 simp[upto]at this
 omega
theorem MG{A:qM}{n:Nat}{v:List eI}(hS:∀ i:Int,0≤i→i<n→∀ k∈gt A.nx i,0≤k∧k<n)(h:∀ i:Int,0≤i→i<n→lI A v i){i:Int}(i0:0≤i)(i1:i<n):0≤(gt v i).2∧(gt v i).2<n:=by
 refine⟨(h i i0 i1).n0,JP (N:=fun i=>(gt v i).2) (K:=fun i=>0≤i∧i<n) (fun i hi=>⟨hi,(h i hi.1 hi.2).n0⟩) (fun i hi=>?_) i ⟨i0,i1⟩⟩
 rcases h i hi.1 hi.2 with⟨_,e2⟩|⟨_,⟨a,a1,e2,⟨k,hk,ek⟩,_⟩|⟨a,a1,e2,_,k,hk,ek⟩|⟨e2,_⟩⟩
 ·left;rw[e2]
 ·right;exact⟨k,hS i hi.1 hi.2 k hk,by rw[e2,ek]⟩
 ·right;exact⟨k,hS i hi.1 hi.2 k hk,by rw[e2,ek]⟩
 ·left;rw[e2]
def kV(v:List Kn):List eI:=v.map fun x=>(x.1,x.2.1)
def kB(v:List Kn):List Bool:=v.map fun x => !x.2.2
theorem tT{v:List Kn}{k:Int}(k0:0≤k)(k1:k<v.length):gt (kV v) k=((gt v k).1,(gt v k).2.1):=by
 rw[lP k0 (by unfold kV;rw[List.length_map];exact k1),lP k0 k1];unfold kV;rw[List.getElem_map]
theorem qk{v:List Kn}{k:Int}(k0:0≤k)(k1:k<v.length):gt (kB v) k = !(gt v k).2.2:=by
 rw[lP k0 (by unfold kB;rw[List.length_map];exact k1),lP k0 k1];unfold kB;rw[List.getElem_map]
@[local simp] theorem ag2:max (0:Int) (-1)=0:=by decide
noncomputable def lK(v:List Kn)(x:List Int)(n:Int):Kn:=if uH (kV v) (kB v) x n then(1,n,true)else if (jb (kV v) (kB v) x x.length).1=x.length∧(jb (kV v) (kB v) x x.length).2=n-1 then(3,n,true)else(0,0,false)
theorem Kz(v:List Kn)(l:List Int)(n:Int)(hn:1≤n∧n≤4000)(h0:0<l.length)(hl:l.length<2 ^ 40)(hr:∀ k∈l,0≤k∧k<v.length)(hw:∀ k∈l,(gt v k).2.2=true→0≤(gt v k).2.1) :
  Wf T 67 [.sl 3 (v.map fK),dI l,.i n] [] (Is (.agg [.i (lK v l n).1,.i (lK v l n).2.1,.b (lK v l n).2.2])):=by
 refine Yg BW ?_
 simp[BW]
 refine eF.e (0:Int) (fun y=>[(0,.sl 3 (v.map fK)),(1,dI l),(2,.i n),(6,.ptr 0 0 0),(7,.i (jb (kV v) (kB v) l y.toNat).1),(8,.i (max 0 (jb (kV v) (kB v) l y.toNat).2)),(9,.i y)]) (fun y=>[.row 134 0 [.i 0,.i 0,.b false]]) (fun y=>0≤y∧y≤l.length∧∀ k∈l.take y.toNat,¬ (gt (kB v) k=false∧gt (kV v) k=(3,n-1))) (fun y=>(l.length-y).toNat) ?_ ?_
 ·simp
 rintro j ⟨j0,j1,j2⟩
 dsimp only at j0 j1 j2 ⊢
 by_cases hj:j<l.length
 ·have hk:=hr _ (eH j0 hj)
  have rk:=aas (v:=kV v) (b:=kB v) (x:=l) j0
  have hV:=tT hk.1 hk.2
  have hB:=qk hk.1 hk.2
  have hwi:=EZ (kV v) (kB v) l j.toNat
  have mm:¬ (gt (kB v) (gt l j)=false∧gt (kV v) (gt l j)=(3,n-1))→∀ k∈l.take (j+1).toNat,¬ (gt (kB v) k=false∧gt (kV v) k=(3,n-1)):=fun h k hk=>by
   rw[gj j0 hj]at hk
   rcases List.mem_append.1 hk with hk|hk
   ·exact j2 k hk
   ·rw[List.mem_singleton.1 hk];exact h
  rw[hV,hB]at mm rk
  simp[hj]
  generalize gt v (gt l j)=r at *
  obtain⟨o,m,s⟩:=r
  dsimp only at mm rk hV hB ⊢
  (with_reducible repeat' first|refine Xk ?_<;>try simp|refine Xs ?_ ?_<;>intro h<;>(try intro h')<;>(try simp[h])<;>(try omega)|refine Xg ?_|omega)
  ·have hl:uH (kV v) (kB v) l n:=⟨_,eH j0 hj,by rw[hB];simp[*],by rw[hV];simp[*]⟩
   simp[lK,hl]
  ·refine LJ.i (j+1) (by first|rfl|simp[rk, *]) (by first|rfl|simp[rk, *]) rfl rfl ?_
   exact⟨by omega,by omega,by omega,mm (by simp[*])⟩
  ·refine LJ.i (j+1) (by first|rfl|simp[rk, *]) (by first|rfl|simp[rk, *]) rfl rfl ?_
   exact⟨by omega,by omega,by omega,mm (by simp[*])⟩
  ·refine LJ.i (j+1) (by first|rfl|simp[rk, *]) (by first|rfl|simp[rk, *]) rfl rfl ?_
   exact⟨by omega,by omega,by omega,mm (by simp[*])⟩
 ·have ui:j=l.length:=by omega
  subst ui
  have hl:¬ uH (kV v) (kB v) l n:=fun⟨k,hk,h⟩=>j2 k (by rw[iH (by omega)];exact hk) h
  have kA:(jb (kV v) (kB v) l l.length).1=l.length→max 0 (jb (kV v) (kB v) l l.length).2=(jb (kV v) (kB v) l l.length).2:=fun e=>by
   have h1:=E0 _ e 0 h0
   have h2:=IE _ e 0 h0
   have hm:=eH (l:=l) (n:=((0:Nat):Int)) (by omega) (by omega)
   have hk:=hr _ hm
   rw[qk hk.1 hk.2]at h2
   rw[tT hk.1 hk.2]at h1
   have:=hw _ hm (by simpa using h2.1)
   dsimp only at h1
   omega
  simp[hj]
  (with_reducible repeat' first|refine Xk ?_<;>try simp|refine Xs ?_ ?_<;>intro h<;>(try intro h')<;>(try simp[h])<;>(try omega)|refine Xg ?_|omega)
  ·rw[kA ‹_›]at h;simp[lK,hl, *]
  ·rw[kA ‹_›]at h;simp[lK,hl, *]
  ·simp[lK,hl, *]
end Go.Proofs.YtnaefnajkaohgaaGreatDoor
namespace Go.Proofs.YtnaefnajkaohgaaGreatDoor
open Go Go.AL Classical
set_option maxRecDepth 10000
set_option maxHeartbeats 4000000
section
variable{g:ey}{l:List Pos}
theorem KM(hg:eW g)(hc:kF g l):qO g l (eQ g l) (upto l.length) 1:=
 ⟨hg,hc.ok,hc.len,by simp[eQ],fun i i0 i1=>⟨(lT hc i0 i1).2,by rw[(lT hc i0 i1).1,List.length_map];have:=s6 hg (hc.ok _ (eH i0 i1));omega⟩,fun i hi=>iR.1 hi,
  List.pairwise_map.2 (List.nodup_range.imp fun h e=>h (Int.ofNat.inj e)),by simp[upto];exact hc.len,by omega⟩
theorem FI.congr{v0 v v':List eI}{b b':List Bool}{n:Int}(hc:kF g l)(h:FI g l (eQ g l) (upto l.length) v0 n v b)(hv:v'.length=l.length)(hb:b'.length=l.length)
  (e1:∀ k:Int,0≤k→k<l.length→gt b' k=gt b k) (e2:∀ k:Int,0≤k→k<l.length→gt b k=false→gt v' k=gt v k):FI g l (eQ g l) (upto l.length) v0 n v' b':=by
 have ff:=fun(i:Int) (hi:i∈upto l.length)=>(lT hc (iR.1 hi).1 (iR.1 hi).2).2
 have xR:=fun(i:Int) (hi:i∈upto l.length) k hk=>e1 k (ff i hi k hk).1 (ff i hi k hk).2
 have tH:=fun(i:Int) (hi:i∈upto l.length) k hk=>e2 k (ff i hi k hk).1 (ff i hi k hk).2
 refine⟨hv,hb,fun k k0 k1 hk=>absurd (iR.2 ⟨k0,k1⟩) hk,fun i hi e=>?_,fun i hi e n0=>?_⟩
 ·have iO:=iR.1 hi
  rw[e1 i iO.1 iO.2]at e
  obtain⟨a,c⟩:=h.dec i hi e
  rw[e2 i iO.1 iO.2 e]
  refine⟨a,?_⟩
  rcases c with c|⟨c1,⟨m,m1,c2,⟨k,hk,c3,c4⟩,c5⟩|⟨m,m1,c2,c3,k,hk,c4⟩⟩
  ·exact .inl c
  ·refine .inr ⟨c1,.inl ⟨m,m1,c2,⟨k,hk,by rw[xR i hi k hk];exact c3,by rw[tH i hi k hk c3];exact c4⟩,fun q hq a1 a2=>?_⟩⟩
   rw[xR i hi q hq]at a1
   rw[tH i hi q hq a1]at a2 ⊢
   exact c5 q hq a1 a2
  ·refine .inr ⟨c1,.inr ⟨m,m1,c2,fun q hq=>?_,k,hk,by rw[tH i hi k hk (c3 k hk).1];exact c4⟩⟩
   rw[xR i hi q hq,tH i hi q hq (c3 q hq).1]
   exact c3 q hq
 ·have iO:=iR.1 hi
  rw[e1 i iO.1 iO.2]at e
  obtain⟨p1,p2,p3⟩:=h.uO i hi e n0
  refine⟨p1,fun k hk a1 a2=>?_,fun fJ ha=>?_⟩
  ·rw[xR i hi k hk]at a1
   rw[tH i hi k hk a1]at a2 ⊢
   exact p2 k hk a1 a2
  ·have nL:∀ k∈gt (eQ g l) i,gt b k=false∧(gt v k).1=1:=fun k hk=>by
    obtain⟨a1,a2⟩:=ha k hk
    rw[xR i hi k hk]at a1
    rw[tH i hi k hk a1]at a2
    exact⟨a1,a2⟩
   obtain⟨k,hk,h1⟩:=p3 fJ nL
   exact⟨k,hk,by rw[tH i hi k hk (nL k hk).1];exact h1⟩
structure KI(g:ey)(l:List Pos)(n:Int)(v:List Kn):Prop where
 len:v.length=l.length
 fi:FI g l (eQ g l) (upto l.length) [] n (kV v) (kB v)
theorem Mm(v:List Kn):(kV v).length=v.length:=by simp[kV]
theorem Ml(v:List Kn):(kB v).length=v.length:=by simp[kB]
theorem KI.start(hc:kF g l):KI g l 1 (l.map (nH g)):=by
 have hl:(l.map (nH g)).length=l.length:=by simp
 have Lk:∀ k:Int,0≤k→k<l.length→gt (l.map (nH g)) k=nH g (gt l k):=fun k k0 k1=>by
  rw[lP k0 (by rw[hl];exact k1),lP k0 k1,List.getElem_map]
 have hV:∀ k:Int,0≤k→k<l.length→gt (kV (l.map (nH g))) k=((stat g (gt l k)).1,0):=fun k k0 k1=>by
  rw[tT k0 (by rw[hl];exact k1),Lk k k0 k1];rfl
 have hB:∀ k:Int,0≤k→k<l.length→gt (kB (l.map (nH g))) k = !(stat g (gt l k)).2:=fun k k0 k1=>by
  rw[qk k0 (by rw[hl];exact k1),Lk k k0 k1];rfl
 have ff:=fun(i:Int) (hi:i∈upto l.length)=>(lT hc (iR.1 hi).1 (iR.1 hi).2).2
 refine⟨hl,by rw[Mm,hl],by rw[Ml,hl],fun k k0 k1 hk=>absurd (iR.2 ⟨k0,k1⟩) hk,fun i hi e=>?_,fun i hi e _=>?_⟩
 ·have iO:=iR.1 hi
  rw[hB i iO.1 iO.2]at e
  rw[hV i iO.1 iO.2]
  exact⟨by simp,.inl ⟨by simpa using e,rfl⟩⟩
 ·have iO:=iR.1 hi
  rw[hB i iO.1 iO.2]at e
  refine⟨by simpa using e,fun k hk _ _=>by rw[hV k (ff i hi k hk).1 (ff i hi k hk).2];simp,fun fJ _=>?_⟩
  have iy:=aB.2 fJ
  have hm:=eH (l:=gt (eQ g l) i) (n:=0) (by omega) (by omega)
  exact⟨_,hm,by rw[hV _ (ff i hi _ hm).1 (ff i hi _ hm).2];simp⟩
theorem KI.nn{n:Int}{v:List Kn}(h:KI g l n v){k:Int}(k0:0≤k)(k1:k<l.length)(e:(gt v k).2.2=true):0≤(gt v k).2.1:=by
 have k2:k<v.length:=by rw[h.len];exact k1
 have:=(h.fi.dec k (iR.2 ⟨k0,k1⟩) (by rw[qk k0 k2,e];rfl)).1.1
 rwa [tT k0 k2]at this
theorem KI.ne{n:Int}{v:List Kn}(hc:kF g l)(h:KI g l n v)(n0:0<n){k:Int}(k0:0≤k)(k1:k<l.length)(e:(gt v k).2.2=false):gt (eQ g l) k≠[]:=fun e0=>by
 have k2:k<v.length:=by rw[h.len];exact k1
 have:=(h.fi.uO k (iR.2 ⟨k0,k1⟩) (by rw[qk k0 k2,e];rfl) n0).1
 rw[(lT hc k0 k1).1,List.map_eq_nil_iff]at e0
 unfold stat at this
 simp[e0]at this
theorem KI.step(hg:eW g)(hc:kF g l){n:Int}{v now:List Kn}(h:KI g l n v)(n1:1≤n)(hl:now.length=l.length)
  (hn:∀ k:Int,0≤k→k<l.length→gt now k=if (gt v k).2.2=false then lK v (gt (eQ g l) k) n else gt v k):KI g l (n+1) now:=by
 have o:=KM hg hc
 have hv:=h.fi.vl
 have hb:=h.fi.bl
 have hs:=h.fi.step (v0:=[]) o (fun k k0 k1=>(da 0:0≤(gt ([]:List eI) k).2)) (by omega:0≤n)
 have ni:∀ k:Int,0≤k→k<l.length→(k∈nf g l (eQ g l) (upto l.length) (kV v) (kB v) n↔(gt v k).2.2=false∧(ly g (gt l k) (kV v) (kB v) (gt (eQ g l) k) n).2=true):=fun k k0 k1=>by
  have k2:k<v.length:=by rw[h.len];exact k1
  unfold nf HO
  rw[aT,ah,qk k0 k2,iR]
  simp only[Bool.not_eq_true']
  exact⟨fun a=>⟨a.2.2,a.2.1⟩,fun a=>⟨⟨k0,k1⟩,a.2,a.1⟩⟩
 have ky:∀ k:Int,0≤k→k<l.length→(gt v k).2.2=false→((ly g (gt l k) (kV v) (kB v) (gt (eQ g l) k) n).2=true→lK v (gt (eQ g l) k) n=((ly g (gt l k) (kV v) (kB v) (gt (eQ g l) k) n).1.1,(ly g (gt l k) (kV v) (kB v) (gt (eQ g l) k) n).1.2,true))∧((ly g (gt l k) (kV v) (kB v) (gt (eQ g l) k) n).2=false→lK v (gt (eQ g l) k) n=(0,0,false)):=fun k k0 k1 e=>by
  have iy:=aB.2 (h.ne hc (by omega) k0 k1 e)
  unfold ly lK
  rw[if_neg (by omega)]
  by_cases kz:uH (kV v) (kB v) (gt (eQ g l) k) n
  ·rw[if_pos kz,if_pos kz];exact⟨fun _=>rfl,fun e=>by cases e⟩
  ·rw[if_neg kz,if_neg kz]
   simp only[decide_eq_true_eq,decide_eq_false_iff_not]
   exact⟨fun a=>by rw[if_pos ⟨a.2.1,a.2.2⟩],fun a=>by rw[if_neg fun b=>a ⟨iy,b⟩]⟩
 refine⟨hl,hs.congr hc (by rw[Mm,hl]) (by rw[Ml,hl]) (fun k k0 k1=>?_) fun k k0 k1 e=>?_⟩
 ·have k2:k<now.length:=by rw[hl];exact k1
  have k3:k<v.length:=by rw[h.len];exact k1
  rw[qk k0 k2,F4 o hb k0 k1,hn k k0 k1,qk k0 k3]
  by_cases e:(gt v k).2.2=false
  ·rw[if_pos e]
   by_cases e2:(ly g (gt l k) (kV v) (kB v) (gt (eQ g l) k) n).2=true
   ·rw[(ky k k0 k1 e).1 e2,if_pos ((ni k k0 k1).2 ⟨e,e2⟩)];rfl
   ·rw[(ky k k0 k1 e).2 (by simpa using e2),if_neg fun a=>e2 ((ni k k0 k1).1 a).2,e]
  ·rw[if_neg e,if_neg fun a=>e ((ni k k0 k1).1 a).1]
 ·have k2:k<now.length:=by rw[hl];exact k1
  have k3:k<v.length:=by rw[h.len];exact k1
  rw[F4 o hb k0 k1,qk k0 k3]at e
  rw[tT k0 k2,KX o hv hb k0 k1,hn k k0 k1,tT k0 k3]
  by_cases e1:(gt v k).2.2=false
  ·rw[if_pos e1]
   by_cases e2:(ly g (gt l k) (kV v) (kB v) (gt (eQ g l) k) n).2=true
   ·rw[(ky k k0 k1 e1).1 e2,if_pos ((ni k k0 k1).2 ⟨e1,e2⟩)];rfl
   ·rw[if_neg fun a=>e2 ((ni k k0 k1).1 a).2,e1]at e;cases e
  ·rw[if_neg e1,if_neg fun a=>e1 ((ni k k0 k1).1 a).1]
theorem KI.done(hg:eW g)(hc:kF g l){v:List Kn}(h:KI g l (l.length+1) v){out:List eI}(hl:out.length=l.length)
  (ho:∀ k:Int,0≤k→k<l.length→gt out k=if (gt v k).2.2=true then((gt v k).1,(gt v k).2.1)else(2,0)):∀ k:Int,0≤k→k<l.length→lI (mX g l (eQ g l)) out k:=by
 have o:=KM hg hc
 have ff:=fun(i:Int) (hi:i∈upto l.length)=>(lT hc (iR.1 hi).1 (iR.1 hi).2).2
 have hb:=JP (n:=l.length) (N:=fun i=>(gt (kV v) i).2) (K:=fun i=>i∈upto l.length∧gt (kB v) i=false) (fun i hi=>⟨iR.1 hi.1,(h.fi.dec i hi.1 hi.2).1.1⟩) (fun i hi=>by
  rcases(h.fi.dec i hi.1 hi.2).2 with⟨_,c⟩|⟨_,⟨m,m1,c2,⟨k,hk,c3,c4⟩,_⟩|⟨m,m1,c2,c3,k,hk,c4⟩⟩
  ·left;show(gt (kV v) i).2=0;rw[c]
  ·right;exact⟨k,⟨iR.2 (ff i hi.1 k hk),c3⟩,by show(gt (kV v) k).2=(gt (kV v) i).2-1;rw[c2,c4]⟩
  ·right;exact⟨k,⟨iR.2 (ff i hi.1 k hk),(c3 k hk).1⟩,by show(gt (kV v) k).2=(gt (kV v) i).2-1;rw[c2,c4]⟩)
 have hf:=Qh o (by omega) h.fi (fun k k0 k1 e _=>by have:=hb k ⟨iR.2 ⟨k0,k1⟩,e⟩;omega)
 obtain⟨_,f2⟩:=KD o h.fi.vl h.fi.bl
 have he:∀ k:Int,0≤k→k<l.length→gt out k=gt (qg (upto l.length) (kV v) (kB v)).1 k:=fun k k0 k1=>by
  have k2:k<v.length:=by rw[h.len];exact k1
  rw[ho k k0 k1,(f2 k k0 k1).1,qk k0 k2,tT k0 k2]
  by_cases e:(gt v k).2.2=true
  ·rw[if_pos e,if_neg fun a=>by rw[e]at a;exact absurd a.2 (by simp)]
  ·rw[if_neg e,if_pos ⟨iR.2 ⟨k0,k1⟩,by simpa using e⟩]
 exact fun i i0 i1=>(hf i (iR.2 ⟨i0,i1⟩)).congr (he i i0 i1) fun k hk=>he k (ff i (iR.2 ⟨i0,i1⟩) k hk).1 (ff i (iR.2 ⟨i0,i1⟩) k hk).2
