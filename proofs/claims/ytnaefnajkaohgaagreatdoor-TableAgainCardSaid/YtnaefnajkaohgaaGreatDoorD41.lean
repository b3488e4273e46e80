/- Part 41 of the proof of skewer.skewerlaw15.TableAgain. -/
import Derived.Test.YtnaefnajkaohgaaGreatDoorD40
set_option linter.all false
namespace Go.Proofs.YtnaefnajkaohgaaGreatDoor
open Go Go.AL Classical
theorem QF{v:List eT}{b:List Bool}{x:List Int}:∀ n:Nat,n≤x.length→(∀ j:Nat,j<n→gt b (gt x (j:Int))=false∧(gt v (gt x (j:Int))).1=1)→(jr v b x n).1=n
 | 0,_,_=>rfl
 | n+1,hn,h=>by
  rw[jr,if_pos (h n (by omega))]
  have:=QF (v:=v) (b:=b) (x:=x) n (by omega) fun j hj=>h j (by omega)
  dsimp only
  omega
theorem QG{v:List eT}{b:List Bool}{x:List Int}:∀ n:Nat,(jr v b x n).1=n→∀ j:Nat,j<n→gt b (gt x (j:Int))=false∧(gt v (gt x (j:Int))).1=1
 | 0,_,j,hj=>by omega
 | n+1,h,j,hj=>by
  have fw:=GD v b x n
  rw[jr]at h
  split at h
  ·rename_i hc
   dsimp only at h
   by_cases e:j=n
   ·subst e;exact hc
   ·exact QG (v:=v) (b:=b) (x:=x) n (by omega) j (by omega)
  ·omega
theorem Kr{v:List eT}{b:List Bool}{x:List Int}:∀ n:Nat,(jr v b x n).1=n→∀ j:Nat,j<n→(gt v (gt x (j:Int))).2≤(jr v b x n).2
 | 0,_,j,hj=>by omega
 | n+1,h,j,hj=>by
  have fw:=GD v b x n
  rw[jr]at h ⊢
  split at h
  ·rename_i hc
   rw[if_pos hc]
   dsimp only at h ⊢
   by_cases e:j=n
   ·subst e;omega
   ·have:=Kr (v:=v) (b:=b) (x:=x) n (by omega) j (by omega)
    omega
  ·omega
theorem JD{x:List Int}{k:Int}:k∈x↔∃ j:Nat,j<x.length∧gt x (j:Int)=k:=by
 rw[rv]
 constructor
 ·rintro⟨n,n0,n1,e⟩
  exact⟨n.toNat,by omega,by rw[show((n.toNat:Nat):Int)=n by omega];exact e⟩
 ·rintro⟨j,hj,e⟩
  exact⟨j,by omega,by omega,e⟩
section
variable{g:eO}{l:List Pos}{nx:List (List Int)}{part:List Int}{bu:Int}
structure FI(g:eO)(l:List Pos)(nx:List (List Int))(part:List Int)(v0:List eT)(n:Int)(v:List eT)(b:List Bool):Prop where
 vl:v.length=l.length
 bl:b.length=l.length
 out:∀ k:Int,0≤k→k<l.length→k ∉ part→gt b k=false∧gt v k=gt v0 k
 dec:∀ i∈part,gt b i=false→(0≤(gt v i).2∧(gt v i).2<n)∧(((stat g (gt l i)).2=true∧gt v i=((stat g (gt l i)).1,0))∨((stat g (gt l i)).2=false∧(
  (∃ m,1≤m∧gt v i=(1,m)∧(∃ k∈gt nx i,gt b k=false∧gt v k=(3,m-1))∧∀ k∈gt nx i,gt b k=false→(gt v k).1=3→m-1≤(gt v k).2) ∨
  (∃ m,1≤m∧gt v i=(3,m)∧(∀ k∈gt nx i,gt b k=false∧(gt v k).1=1∧(gt v k).2≤m-1)∧∃ k∈gt nx i,(gt v k).2=m-1))))
 AI:∀ i∈part,gt b i=true→0<n→(stat g (gt l i)).2=false∧(∀ k∈gt nx i,gt b k=false→(gt v k).1=3→n-1≤(gt v k).2) ∧
  (gt nx i≠[]→(∀ k∈gt nx i,gt b k=false∧(gt v k).1=1)→∃ k∈gt nx i,n-1≤(gt v k).2)
theorem FI.step(o:ke g l nx part bu){v0:List eT}(h0:∀ k:Int,0≤k→k<l.length→0≤(gt v0 k).2){n:Int}(n0:0≤n){v:List eT}{b:List Bool}(h:FI g l nx part v0 n v b):FI g l nx part v0 (n+1) (rV g l nx part v b n) (rB g l nx part v b n):=by
 have hV:=fun{k:Int} (k0:0≤k) (k1:k<l.length)=>wT o h.vl h.bl (n:=n) k0 k1
 have hB:=fun{k:Int} (k0:0≤k) (k1:k<l.length)=>vb o (v:=v) h.bl (n:=n) k0 k1
 have fw:∀ i∈part,∀ k∈gt nx i,0≤k∧k<l.length:=fun i hi k hk=>(o.xI i (o.prt i hi).1 (o.prt i hi).2).1 k hk
 have hd:∀ k,k∈lX g l nx part v b n↔k∈part∧(jz g (gt l k) v b (gt nx k) n).2=true∧gt b k=true:=fun k=>by
  unfold lX kc
  rw[aI,ah]
 have kC:∀ k,k∈lX g l nx part v b n→(oa g l nx v b n k).2=n:=fun k hk=>by
  unfold oa jz
  split
  ·rename_i e;rw[e]
  ·split<;>rfl
 have hold:∀ k:Int,0≤k→k<l.length→gt b k=false→gt (rB g l nx part v b n) k=false∧gt (rV g l nx part v b n) k=gt v k:=fun k k0 k1 e=>by
  have hn:k ∉ lX g l nx part v b n:=fun hm=>by rw[((hd k).1 hm).2.2]at e;cases e
  rw[hV k0 k1,hB k0 k1,if_neg hn,if_neg hn]
  exact⟨e,rfl⟩
 have z6:∀ k:Int,0≤k→k<l.length→gt (rB g l nx part v b n) k=false→(gt b k=false∧gt (rV g l nx part v b n) k=gt v k)∨(k∈lX g l nx part v b n∧(gt (rV g l nx part v b n) k).2=n):=fun k k0 k1 e=>by
  by_cases hm:k∈lX g l nx part v b n
  ·right
   rw[hV k0 k1,if_pos hm]
   exact⟨hm,kC k hm⟩
  ·left
   rw[hB k0 k1,if_neg hm]at e
   rw[hV k0 k1,if_neg hm]
   exact⟨e,rfl⟩
 have sx:∀ k:Int,0≤k→k<l.length→gt b k=false→0≤(gt v k).2:=fun k k0 k1 e=>by
  by_cases hp:k∈part
  ·exact(h.dec k hp e).1.1
  ·rw[(h.out k k0 k1 hp).2];exact h0 k k0 k1
 refine⟨xS o h.vl h.bl,xR o h.bl,fun k k0 k1 hk=>?_,fun i hi e=>?_,fun i hi e _=>?_⟩
 ·obtain⟨a,c⟩:=h.out k k0 k1 hk
  obtain⟨a',c'⟩:=hold k k0 k1 a
  exact⟨a',c'.trans c⟩
 ·obtain⟨i0,i1⟩:=o.prt i hi
  rcases z6 i i0 i1 e with⟨e1,e2⟩|⟨hm,aih⟩
  ·obtain⟨hr,hc⟩:=h.dec i hi e1
   rw[e2]
   refine⟨⟨hr.1,by omega⟩,?_⟩
   rcases hc with⟨c1,c2⟩|⟨c1,⟨m,m1,c2,⟨k,hk,c3,c4⟩,c5⟩|⟨m,m1,c2,c3,k,hk,c4⟩⟩
   ·exact .inl ⟨c1,c2⟩
   ·refine .inr ⟨c1,.inl ⟨m,m1,c2,⟨k,hk,?_⟩,fun q hq a1 a2=>?_⟩⟩
    ·have:=hold k (fw i hi k hk).1 (fw i hi k hk).2 c3
     exact⟨this.1,this.2.trans c4⟩
    ·rcases z6 q (fw i hi q hq).1 (fw i hi q hq).2 a1 with⟨b1,b2⟩|⟨_,b2⟩
     ·rw[b2]at a2 ⊢;exact c5 q hq b1 a2
     ·rw[c2]at hr
      dsimp only at hr
      omega
   ·refine .inr ⟨c1,.inr ⟨m,m1,c2,fun q hq=>?_,k,hk,?_⟩⟩
    ·obtain⟨d1,d2,d3⟩:=c3 q hq
     have:=hold q (fw i hi q hq).1 (fw i hi q hq).2 d1
     rw[this.2]
     exact⟨this.1,d2,d3⟩
    ·rw[(hold k (fw i hi k hk).1 (fw i hi k hk).2 (c3 k hk).1).2];exact c4
  ·obtain⟨_,h2,h3⟩:=(hd i).1 hm
   refine⟨by omega,?_⟩
   have hv:gt (rV g l nx part v b n) i=(jz g (gt l i) v b (gt nx i) n).1:=by rw[hV i0 i1,if_pos hm];rfl
   rw[hv]
   by_cases e0:n=0
   ·subst e0
    unfold jz at h2 ⊢
    rw[if_pos rfl]at h2 ⊢
    exact .inl ⟨h2,rfl⟩
   ·obtain⟨p1,p2,p3⟩:=h.AI i hi h3 (by omega)
    refine .inr ⟨p1,?_⟩
    unfold jz at h2 ⊢
    rw[if_neg e0]at h2 ⊢
    by_cases hl:qv v b (gt nx i) n
    ·rw[if_pos hl]
     obtain⟨k,hk,c3,c4⟩:=hl
     refine .inl ⟨n,by omega,rfl,⟨k,hk,?_⟩,fun q hq a1 a2=>?_⟩
     ·have:=hold k (fw i hi k hk).1 (fw i hi k hk).2 c3
      exact⟨this.1,this.2.trans c4⟩
     ·rcases z6 q (fw i hi q hq).1 (fw i hi q hq).2 a1 with⟨b1,b2⟩|⟨_,b2⟩
      ·rw[b2]at a2 ⊢;exact p2 q hq b1 a2
      ·omega
    ·rw[if_neg hl]at h2 ⊢
     simp only[decide_eq_true_eq]at h2
     obtain⟨w0,w1,w2⟩:=h2
     have hc:=QG _ w1
     have hg:=Kr _ w1
     refine .inr ⟨n,by omega,rfl,fun q hq=>?_,?_⟩
     ·obtain⟨j,hj,rfl⟩:=JD.1 hq
      have hb:=hold _ (fw i hi _ hq).1 (fw i hi _ hq).2 (hc j hj).1
      have:=hg j hj
      rw[hb.2]
      exact⟨hb.1,(hc j hj).2,by omega⟩
     ·rcases Bp v b (gt nx i) (gt nx i).length (Nat.le_refl _)with e1|⟨q,hq,q1,q2,q3⟩
      ·omega
      ·refine⟨q,hq,?_⟩
       rw[(hold q (fw i hi q hq).1 (fw i hi q hq).2 q1).2]
       omega
 ·obtain⟨i0,i1⟩:=o.prt i hi
  have mP:i ∉ lX g l nx part v b n:=fun hm=>by
   rw[hB i0 i1,if_pos hm]at e;cases e
  rw[hB i0 i1,if_neg mP]at e
  have jG:(jz g (gt l i) v b (gt nx i) n).2=false:=by
   by_cases hx:(jz g (gt l i) v b (gt nx i) n).2=true
   ·exact absurd ((hd i).2 ⟨hi,hx,e⟩) mP
   ·simpa using hx
  have II:(stat g (gt l i)).2=false:=by
   by_cases e0:n=0
   ·unfold jz at jG
    rw[if_pos e0]at jG
    exact jG
   ·exact(h.AI i hi e (by omega)).1
  have nc:n≠0→¬ qv v b (gt nx i) n:=fun e0 hl=>by
   unfold jz at jG
   rw[if_neg e0,if_pos hl]at jG
   cases jG
  refine⟨II,fun k hk a1 a2=>?_,fun fY ha=>?_⟩
  ·rcases z6 k (fw i hi k hk).1 (fw i hi k hk).2 a1 with⟨b1,b2⟩|⟨_,b2⟩
   ·rw[b2]at a2 ⊢
    by_cases e0:n=0
    ·have:=sx k (fw i hi k hk).1 (fw i hi k hk).2 b1
     omega
    ·have h1:=(h.AI i hi e (by omega)).2.1 k hk b1 a2
     have h2:(gt v k).2≠n-1:=fun h3=>nc e0 ⟨k,hk,b1,ef a2 h3⟩
     omega
   ·omega
  ·by_cases hx:∃ k∈gt nx i,n≤(gt (rV g l nx part v b n) k).2
   ·obtain⟨k,hk,hx⟩:=hx
    exact⟨k,hk,by omega⟩
   ·exfalso
    have fj:∀ k∈gt nx i,gt b k=false∧(gt v k).1=1∧(gt v k).2<n:=fun k hk=>by
     have h1:¬ n≤(gt (rV g l nx part v b n) k).2:=fun h2=>hx ⟨k,hk,h2⟩
     obtain⟨a1,a2⟩:=ha k hk
     rcases z6 k (fw i hi k hk).1 (fw i hi k hk).2 a1 with⟨b1,b2⟩|⟨_,b2⟩
     ·rw[b2]at a2 h1
      exact⟨b1,a2,by omega⟩
     ·omega
    have jd:0<(gt nx i).length:=aA.2 fY
    by_cases e0:n=0
    ·have hk:=eY (l:=gt nx i) (n:=0) (by omega) (by omega)
     have h1:=fj _ hk
     have h2:=sx _ (fw i hi _ hk).1 (fw i hi _ hk).2 h1.1
     omega
    ·obtain⟨k,hk,h1⟩:=(h.AI i hi e (by omega)).2.2 fY fun k hk=>⟨(fj k hk).1,(fj k hk).2.1⟩
     have w1:=QF (v:=v) (b:=b) (x:=gt nx i) _ (Nat.le_refl _) fun j hj=>by
      have:=fj _ (JD.2 ⟨j,hj,rfl⟩)
      exact⟨this.1,this.2.1⟩
     have w2:(jr v b (gt nx i) (gt nx i).length).2=n-1:=by
      obtain⟨j,hj,rfl⟩:=JD.1 hk
      have g1:=Kr _ w1 j hj
      rcases Bp v b (gt nx i) (gt nx i).length (Nat.le_refl _)with e1|⟨q,hq,_,_,q3⟩
      ·have:=sx _ (fw i hi _ hk).1 (fw i hi _ hk).2 (fj _ hk).1
       omega
      ·have:=(fj q hq).2.2
       omega
     unfold jz at jG
     rw[if_neg e0,if_neg (nc e0)]at jG
     simp only[decide_eq_false_iff_not]at jG
     exact jG ⟨by omega,w1,w2⟩
end
end Go.Proofs.YtnaefnajkaohgaaGreatDoor
namespace Go.Proofs.YtnaefnajkaohgaaGreatDoor
open Go Go.AL Classical
section
variable{g:eO}{l:List Pos}{nx:List (List Int)}{part:List Int}{bu:Int}
theorem FI.iF(o:ke g l nx part bu)(gP:Int){v0:List eT}(h0:∀ k:Int,0≤k→k<l.length→0≤(gt v0 k).2):∀ (f:Nat) (n:Int) (v:List eT) (b:List Bool) (t:Int),0≤n→n≤4000→n+f=4001→sW l.length v b→FI g l nx part v0 n v b →
  ∃ n',0<n'∧FI g l nx part v0 n' (iF g l nx part gP f n v b t).2.1 (iF g l nx part gP f n v b t).2.2 ∧
   ∀ k:Int,0≤k→k<l.length→gt (iF g l nx part gP f n v b t).2.2 k=false→(gt (iF g l nx part gP f n v b t).2.1 k).1≠2→(gt (iF g l nx part gP f n v b t).2.1 k).2<n'-1
 | 0,n,v,b,t,n0,n1,hf,_,_=>by omega
 | f+1,n,v,b,t,n0,n1,hf,hc,hi=>by
  have hs:=hi.step o h0 n0
  have l4:=hc.round o n0
  have gL:=hi.vl
  rw[Go.Proofs.YtnaefnajkaohgaaGreatDoor.iF]
  generalize rV g l nx part v b n=V at *
  generalize rB g l nx part v b n=B at *
  split
  ·exact FI.iF o gP h0 f (n+1) V B _ (by omega) (by omega) (by omega) l4 hs
  ·rename_i EG
   refine⟨n+1,by omega,hs,fun k k0 k1 e e2=>?_⟩
   have h1:=Eu V B v.length k k0 (by rw[gL];exact k1) e e2
   have h2:=l4.jZ
   have h3:=o.len
   rw[l4.vl,← gL]at h2
   dsimp only at h1 ⊢
   omega
theorem SM(o:ke g l nx part bu){v0 V:List eT}{B:List Bool}{n:Int}(n0:0<n)(hf:FI g l nx part v0 n V B)
  (hq:∀ k:Int,0≤k→k<l.length→gt B k=false→(gt V k).1≠2→(gt V k).2<n-1):∀ i∈part,mj (mX g l nx) (ky part V B).1 i:=by
 obtain⟨_,f2⟩:=Ee o hf.vl hf.bl
 have fw:∀ i∈part,∀ k∈gt nx i,0≤k∧k<l.length:=fun i hi k hk=>(o.xI i (o.prt i hi).1 (o.prt i hi).2).1 k hk
 have hk:∀ k:Int,0≤k→k<l.length→gt B k=false→gt (ky part V B).1 k=gt V k:=fun k k0 k1 e=>by
  rw[(f2 k k0 k1).1,if_neg fun h=>by rw[e]at h;exact absurd h.2 (by simp)]
 have hs:∀ k:Int,0≤k→k<l.length→(gt (ky part V B).1 k).1≠2→gt B k=false:=fun k k0 k1 e=>by
  by_cases hp:k∈part
  ·by_cases tK:gt B k=true
   ·rw[(f2 k k0 k1).1,if_pos ⟨hp,tK⟩]at e
    exact absurd rfl e
   ·simpa using tK
  ·exact(hf.out k k0 k1 hp).1
 intro i hi
 obtain⟨i0,i1⟩:=o.prt i hi
 by_cases e:gt B i=true
 ·obtain⟨p1,p2,p3⟩:=hf.AI i hi e n0
  refine .inr ⟨p1,.inr (.inr ⟨by rw[(f2 i i0 i1).1,if_pos ⟨hi,e⟩],fun k gX e3=>?_,fun⟨fY,ha⟩=>?_⟩)⟩
  ·obtain⟨k0,k1⟩:=fw i hi k gX
   have e4:=hs k k0 k1 (by omega)
   rw[hk k k0 k1 e4]at e3
   have h1:=p2 k gX e4 e3
   have h2:=hq k k0 k1 e4 (by omega)
   omega
  ·obtain⟨k,gX,h1⟩:=p3 fY fun k gX=>by
    obtain⟨k0,k1⟩:=fw i hi k gX
    have e3:=ha k gX
    have e4:=hs k k0 k1 (by omega)
    rw[hk k k0 k1 e4]at e3
    exact⟨e4,e3⟩
   obtain⟨k0,k1⟩:=fw i hi k gX
   have e3:=ha k gX
   have e4:=hs k k0 k1 (by omega)
   rw[hk k k0 k1 e4]at e3
   have h2:=hq k k0 k1 e4 (by omega)
   omega
 ·have e':gt B i=false:=by simpa using e
  rcases(hf.dec i hi e').2 with⟨c1,c2⟩|⟨c1,⟨m,Jt,c2,⟨k,gX,c3,c4⟩,c5⟩|⟨m,Jt,c2,c3,k,gX,c4⟩⟩
  ·exact .inl ⟨c1,by rw[hk i i0 i1 e'];exact c2⟩
  ·refine .inr ⟨c1,.inl ⟨m,Jt,by rw[hk i i0 i1 e'];exact c2,⟨k,gX,by rw[hk k (fw i hi k gX).1 (fw i hi k gX).2 c3];exact c4⟩,fun q xl e3=>?_⟩⟩
   obtain⟨q0,q1⟩:=fw i hi q xl
   have e4:=hs q q0 q1 (by omega)
   rw[hk q q0 q1 e4]at e3 ⊢
   exact c5 q xl e4 e3
  ·refine .inr ⟨c1,.inr (.inl ⟨m,Jt,by rw[hk i i0 i1 e'];exact c2,fun q xl=>?_,k,gX,?_⟩)⟩
   ·obtain⟨d1,d2⟩:=c3 q xl
    rw[hk q (fw i hi q xl).1 (fw i hi q xl).2 d1]
    exact d2
   ·rw[hk k (fw i hi k gX).1 (fw i hi k gX).2 (c3 k gX).1];exact c4
theorem SP(o:ke g l nx part bu)(gP:Int){v:List eT}(h0:∀ k:Int,0≤k→k<l.length→0≤(gt v k).2)(hc:sW l.length v (iX (rep l.length) (fun _=>true) part)) :
  ∀ i∈part,mj (mX g l nx) (jM g l nx part gP v (rep l.length)).2.1 i:=by
 have hb:=ui l.length
 obtain⟨m1,m2⟩:=Ay o hb
 have T8:FI g l nx part v 0 v (iX (rep l.length) (fun _=>true) part):=⟨hc.vl,m1,fun k k0 k1 hk=>⟨by rw[m2 k k0 k1,if_neg hk];exact Ez k0 (by omega),rfl⟩,fun i hi e=>by
  (rw[m2 i (o.prt i hi).1 (o.prt i hi).2,if_pos hi]at e;exact absurd e (by simp)),fun i hi e h=>by omega⟩
 obtain⟨n,n0,hf,hq⟩:=FI.iF o gP h0 4001 0 v _ 0 (by omega) (by omega) (by omega) hc T8
 unfold jM
 exact SM o n0 hf hq
end
section
variable{g:eO}{l:List Pos}{m:List Int}
noncomputable def oU(m:List Int)(l:List Pos)(n:Int)(v:List eT):List eT:=(upto l.length).map fun k=>if fV m (gt l k)<n then gt v k else(2,0)
theorem OL(n:Int)(v:List eT):(oU m l n v).length=l.length:=by simp[oU,upto]
theorem zm{n:Int}{v:List eT}{k:Int}(k0:0≤k)(k1:k<l.length):gt (oU m l n v) k=if fV m (gt l k)<n then gt v k else(2,0):=by
 have h1:k<(oU m l n v).length:=by rw[OL];exact k1
 rw[nL k0 h1]
 unfold oU upto
 rw[et,et,List.getElem_range,show((k.toNat:Nat):Int)=k by omega]
theorem acy(hg:fi g)(hv:rJ g m)(hc:p5 g l){bu:Int}(hb:1≤bu∧bu≤9223372036854775807){n:Int}(hn:n∈ph m l){v:List eT}(e:v.length=l.length)
  (h:∀ i:Int,0≤i→i<l.length→fV m (gt l i)<n→mj (mX g l (fy g l)) v i) :
  ∀ i:Int,0≤i→i<l.length→fV m (gt l i)≤n→mj (mX g l (fy g l)) (jM g l (fy g l) (lY m l n) bu v (rep l.length)).2.1 i:=by
 have o:=HD hg hc hb (av.2 ⟨n,hn,rfl⟩:lY m l n∈mY m l)
 obtain⟨m1,m2⟩:=Ay o (ui l.length)
 have k7:∀ i:Int,0≤i→i<l.length→∀ k∈gt (fy g l) i,0≤k∧k<l.length:=fun i i0 i1=>(ue hc i0 i1).2
 have nf:=fun{i:Int} (i0:0≤i) (i1:i<l.length)=>FM hg hv hc i0 i1
 have hw:=OL (m:=m) (l:=l) n v
 have ES:∀ k:Int,k∈lY m l n↔(0≤k∧k<l.length)∧fV m (gt l k)=n:=fun k=>sK
 have IA:∀ i:Int,0≤i→i<l.length→fV m (gt l i)<n→mj (mX g l (fy g l)) (oU m l n v) i:=fun i i0 i1 hi=>by
  have hk:∀ k∈gt (fy g l) i,gt (oU m l n v) k=gt v k:=fun k hk=>by
   have:=nf i0 i1 k hk
   rw[zm (k7 i i0 i1 k hk).1 (k7 i i0 i1 k hk).2,if_pos (by omega)]
  have lB:gt (oU m l n v) i=gt v i:=by rw[zm i0 i1,if_pos hi]
  exact(h i i0 i1 hi).congr lB hk
 have ID:∀ k:Int,0≤k→k<l.length→0≤(gt (oU m l n v) k).2:=fun k k0 k1=>by
  by_cases hk:fV m (gt l k)<n
  ·exact(IA k k0 k1 hk).n0
  ·rw[zm k0 k1,if_neg hk];simp
 have TR:sW l.length (oU m l n v) (iX (rep l.length) (fun _=>true) (lY m l n)):=⟨hw,m1,fun i i0 i1 eb e2=>by
  have hi:fV m (gt l i)<n:=by
   by_cases hi:fV m (gt l i)<n
   ·exact hi
   ·rw[zm i0 i1,if_neg hi]at e2;exact absurd rfl e2
  have N9:∀ k∈gt (fy g l) i,gt (iX (rep l.length) (fun _=>true) (lY m l n)) k=false:=fun k hk=>by
   have:=nf i0 i1 k hk
   rw[m2 k (k7 i i0 i1 k hk).1 (k7 i i0 i1 k hk).2,if_neg fun hm=>by have:=((ES k).1 hm).2;omega]
   exact Ez (k7 i i0 i1 k hk).1 (by have:=(k7 i i0 i1 k hk).2;omega)
  rcases IA i i0 i1 hi with⟨c1,c2⟩|⟨c1,⟨q,q1,c2,⟨k,gX,c3⟩,c4⟩|⟨q,q1,c2,c3,k,gX,c4⟩|⟨c2,c3,c4⟩⟩
  ·rw[c2];exact⟨by simp,fun h=>by simp at h⟩
  ·refine⟨by rw[c2];dsimp only;omega,fun _=>⟨k,(k7 i i0 i1 k gX).1,(k7 i i0 i1 k gX).2,N9 k gX,by rw[c3];simp,by rw[c3,c2]⟩⟩
  ·refine⟨by rw[c2];dsimp only;omega,fun _=>⟨k,(k7 i i0 i1 k gX).1,(k7 i i0 i1 k gX).2,N9 k gX,by rw[(c3 k gX).1];simp,by rw[c4,c2]⟩⟩
  ·rw[c2]at e2;exact absurd rfl e2⟩
 have h1:=SP o bu ID TR
 have ho:=wR o bu hw (ui l.length)
 have Nd:=ML o (acb hg hv hc n) bu e hw fun k k0 k1 hk q6=>by
  rw[zm k0 k1,if_pos]
  have:fV m (gt l k)≠n:=fun e=>q6 ((ES k).2 ⟨⟨k0,k1⟩,e⟩)
  omega
 have gy:∀ i:Int,0≤i→i<l.length→fV m (gt l i)≤n→mj (mX g l (fy g l)) (jM g l (fy g l) (lY m l n) bu (oU m l n v) (rep l.length)).2.1 i:=fun i i0 i1 hi=>by
  by_cases hp:i∈lY m l n
  ·exact h1 i hp
  ·have kZ:fV m (gt l i)<n:=by
    have:fV m (gt l i)≠n:=fun e=>hp ((ES i).2 ⟨⟨i0,i1⟩,e⟩)
    omega
   have hk:∀ k∈gt (fy g l) i,gt (jM g l (fy g l) (lY m l n) bu (oU m l n v) (rep l.length)).2.1 k=gt (oU m l n v) k:=fun k hk=>by
    have:=nf i0 i1 k hk
    exact(ho.2 k (k7 i i0 i1 k hk).1 (k7 i i0 i1 k hk).2 fun hm=>by have:=((ES k).1 hm).2;omega).1
   have lB:=(ho.2 i i0 i1 hp).1
   exact(IA i i0 i1 kZ).congr lB hk
 intro i i0 i1 hi
 have hk:∀ k∈gt (fy g l) i,gt (jM g l (fy g l) (lY m l n) bu v (rep l.length)).2.1 k=gt (jM g l (fy g l) (lY m l n) bu (oU m l n v) (rep l.length)).2.1 k:=fun k hk=>by
  have:=nf i0 i1 k hk
  exact Nd k (k7 i i0 i1 k hk).1 (k7 i i0 i1 k hk).2 (by omega)
 have lB:=Nd i i0 i1 hi
 exact(gy i i0 i1 hi).congr lB hk
end
end Go.Proofs.YtnaefnajkaohgaaGreatDoor
namespace Go.Proofs.YtnaefnajkaohgaaGreatDoor
open Go Go.AL Classical
section
variable{g:eO}{l:List Pos}{m:List Int}
theorem again(hg:fi g)(hv:rJ g m)(hc:p5 g l){bu:Int}(hb:1≤bu∧bu≤9223372036854775807){p:List Int}(hp:p∈mY m l){v v':List eT}(e:v.length=l.length)(e':v'.length=l.length)
  (h:∀ k:Int,0≤k→k<l.length→mj (mX g l (fy g l)) v k) (ho:∀ k:Int,0≤k→k<l.length→k ∉ p→gt v' k=gt v k):(jM g l (fy g l) p bu v' (rep l.length)).2.1=v:=by
 obtain⟨n,hn,rfl⟩:=av.1 hp
 have o:=HD hg hc hb hp
 have k7:∀ i:Int,0≤i→i<l.length→∀ k∈gt (fy g l) i,0≤k∧k<l.length:=fun i i0 i1=>(ue hc i0 i1).2
 have fY:∀ k:Int,fV m (gt l k)<n→k ∉ lY m l n:=fun k hk hm=>by have:=(sK.1 hm).2;omega
 have hs:=acy hg hv hc hb hn e' fun i i0 i1 hi=>(h i i0 i1).congr (ho i i0 i1 (fY i hi)) fun k hk=>by
  have:=FM hg hv hc i0 i1 k hk
  exact ho k (k7 i i0 i1 k hk).1 (k7 i i0 i1 k hk).2 (fY k (by omega))
 have hu:=Wz (A:=mX g l (fy g l)) (S:=fun i=>(0≤i∧i<l.length)∧fV m (gt l i)≤n) (fun i hi k hk=>⟨k7 i hi.1.1 hi.1.2 k hk,by have:=FM hg hv hc hi.1.1 hi.1.2 k hk;omega⟩)
  (fun i hi=>hs i hi.1.1 hi.1.2 hi.2) (fun i hi=>h i hi.1.1 hi.1.2)
 have jV:=wR o bu e' (ui l.length)
 refine Ew (jV.1.1.trans e.symm) fun j j0 j1=>?_
 rw[jV.1.1]at j1
 by_cases hj:j∈lY m l n
 ·exact hu j ⟨⟨j0,j1⟩,by rw[(sK.1 hj).2];exact bU _⟩
 ·rw[(jV.2 j j0 j1 hj).1,ho j j0 j1 hj]
end
end Go.Proofs.YtnaefnajkaohgaaGreatDoor
namespace Go.Proofs.YtnaefnajkaohgaaGreatDoor
open Go Go.AL Classical
structure VB(A:pZ)(n:Nat)(P R:List Int)(v:List eT)(lf:List Int):Prop where
 vl:v.length=n
 ll:lf.length=n
 nd:(P++R).Nodup
 qr:∀ k∈P++R,0≤k∧k<n
 qi:∀ k∈P++R,(gt v k).1≠0
 z:∀ k:Int,0≤k→k<n→k ∉ P++R→gt v k=(0,0)
 ov:∀ k:Int,0≤k→k<n→A.ov k=true→k∈P++R∧gt v k=(A.rs k,0)
 mono:(P++R).Pairwise fun a b=>(gt v a).2≤(gt v b).2
 top:∀ i R',R=i::R'→∀ a∈P++R,(gt v a).2≤(gt v i).2+1
 nn:∀ a∈P++R,0≤(gt v a).2∧(gt v a).2≤(P++R).length
 st:∀ k∈P++R,A.ov k=false →
  (∃ m,1≤m∧gt v k=(1,m)∧(∃ c∈gt A.nx k,gt v c=(3,m-1))∧∀ c∈gt A.nx k,(gt v c).1=3→m-1≤(gt v c).2) ∨
  (∃ m,1≤m∧gt v k=(3,m)∧(∀ c∈gt A.nx k,(gt v c).1=1∧(gt v c).2≤m-1)∧∃ c∈gt A.nx k,(gt v c).2=m-1)
noncomputable def qG(A:pZ)(P:List Int)(v:List eT)(k:Int):Nat:=(gt A.nx k).countP fun c=>decide (c∈P∧(gt v c).1=1)
def US(A:pZ)(n:Nat)(P R d:List Int)(t:Int)(v:List eT)(lf:List Int):Prop:=∀ k:Int,0≤k→k<n→k ∉ P++R →
 (∀ c∈P,c∈gt A.nx k→(gt v c).1≠3)∧(t=3→k ∉ d)∧gt lf k=(gt A.nx k).length-qG A P v k-(if t=1 then d.count k else 0:Nat)∧(gt A.nx k≠[]→0<gt lf k)
section
variable{A:pZ}{n:Nat}{P R d:List Int}{v:List eT}{lf:List Int}{i k t:Int}
theorem vM(hn:(P++R).Nodup)(hr:∀ k∈P++R,0≤k∧k<n):(P++R).length≤n:=by
 have h1:((P++R).map Int.toNat).Nodup:=by
  refine dV.2 (da ?_ hn)
  intro a b ha hb e
  have:=hr a ha;have:=hr b hb
  omega
 have:=xG h1 (m:=List.range n) fun x hx=>by
  obtain⟨a,ha,rfl⟩:=av.1 hx
  have:=hr a ha
  exact bx.2 (by omega)
 simpa using this
theorem VB.push(hn:∀ k:Int,0≤k→k<n→∀ c∈gt A.nx k,0≤c∧c<n)(h:VB A n P (i::R) v lf)(k0:0≤k)(k1:k<n)(hk:k ∉ P++i::R){o:Int}(ho:o=1∨o=3){OC:List Int}(hl:OC.length=n)
  (hs:(o=1∧i∈gt A.nx k∧(gt v i).1=3∧∀ c∈gt A.nx k,c∈P→(gt v c).1≠3)∨(o=3∧i∈gt A.nx k∧∀ c∈gt A.nx k,(gt v c).1=1∧(c∈P∨c=i))) :
  VB A n P (i::(R ++ [k])) (pt v k (o,(gt v i).2+1)) OC:=by
 have hQ:P++i::(R ++ [k])=(P++i::R) ++ [k]:=by simp
 have U':=h.z k k0 k1 hk
 have hg:∀ c:Int,0≤c→gt (pt v k (o,(gt v i).2+1)) c=if c=k then(o,(gt v i).2+1)else gt v c:=fun c hc=>lA k0 (by rw[h.vl];exact k1) hc
 have qj:∀ c∈P++i::R,gt (pt v k (o,(gt v i).2+1)) c=gt v c:=fun c hc=>by
  rw[hg c (h.qr c hc).1,if_neg (show c≠k from fun e=>hk (e▸hc))]
 have xb:gt (pt v k (o,(gt v i).2+1)) k=(o,(gt v i).2+1):=by rw[hg k k0,if_pos rfl]
 have zJ:i∈P++i::R:=by simp
 have NI:A.ov k=false:=by
  by_cases e:A.ov k=true
  ·exact absurd (h.ov k k0 k1 e).1 hk
  ·simpa using e
 have jO:=h.top i R rfl
 have om:=h.mono
 have Ty:∀ c∈P,(gt v c).2≤(gt v i).2:=fun c hc=>(aV.1 om).2.2 c hc i (by simp)
 have Ui:∀ c∈R,(gt v i).2≤(gt v c).2:=fun c hc=>(aL.1 (aV.1 om).2.1).1 c hc
 have oP:∀ c:Int,0≤c→(gt v c).1=1∨(gt v c).1=3→gt (pt v k (o,(gt v i).2+1)) c=gt v c:=fun c c0 hc=>by
  rw[hg c c0,if_neg (show c≠k from fun e=>?_)]
  rw[e,U']at hc
  simp at hc
 have Nh:∀ c:Int,0≤c→(gt (pt v k (o,(gt v i).2+1)) c).1=3→(gt v c).1=3∨(o=3∧gt (pt v k (o,(gt v i).2+1)) c=(3,(gt v i).2+1)):=fun c c0 hc=>by
  by_cases e:c=k
  ·rw[e,xb]at hc ⊢
   exact .inr ⟨hc,by rw[show o=3 from hc]⟩
  ·rw[hg c c0,if_neg e]at hc
   exact .inl hc
 refine{ vl:=?_,ll:=hl,nd:=?_,qr:=?_,qi:=?_,z:=?_,ov:=?_,mono:=?_,top:=?_,nn:=?_,st:=?_ }
 ·rw[gC k0 (by rw[h.vl];exact k1)];exact h.vl
 ·rw[hQ,a7]
  exact⟨h.nd,by simp,fun a ha b hb e=>hk (by rw[List.mem_singleton.1 hb]at e;exact e▸ha)⟩
 ·intro c hc
  rw[hQ]at hc
  rcases List.mem_append.1 hc with hc|hc
  ·exact h.qr c hc
  ·rw[List.mem_singleton.1 hc];exact⟨k0,k1⟩
 ·intro c hc
  rw[hQ]at hc
  rcases List.mem_append.1 hc with hc|hc
  ·rw[qj c hc];exact h.qi c hc
  ·rw[List.mem_singleton.1 hc,xb];dsimp only;omega
 ·intro c c0 c1 hc
  rw[hQ]at hc
  rw[hg c c0,if_neg fun e=>hc (by simp[e])]
  exact h.z c c0 c1 fun hm=>hc (aP _ hm)
 ·intro c c0 c1 hc
  obtain⟨h1,h2⟩:=h.ov c c0 c1 hc
  exact⟨by rw[hQ];exact aP _ h1,by rw[qj c h1];exact h2⟩
 ·rw[hQ,aV]
  refine⟨?_,by simp,fun a ha b hb=>?_⟩
  ·refine da ?_ h.mono
   intro a b ha hb tI
   rw[qj a ha,qj b hb];exact tI
  ·rw[List.mem_singleton.1 hb,xb,qj a ha]
   exact jO a ha
 ·intro j R' e a ha
  rw[cm]at e
  rw[← e.1,qj i zJ]
  rw[hQ]at ha
  rcases List.mem_append.1 ha with ha|ha
  ·rw[qj a ha];exact jO a ha
  ·rw[List.mem_singleton.1 ha,xb];exact bU _
 ·intro a ha
  rw[hQ]at ha ⊢
  have hi:=h.nn i zJ
  rcases List.mem_append.1 ha with ha|ha
  ·rw[qj a ha]
   have:=h.nn a ha
   rw[ay]
   omega
  ·rw[List.mem_singleton.1 ha,xb,ay]
   simp only[List.length_singleton]
   omega
 ·intro c hc II
  rw[hQ]at hc
  rcases List.mem_append.1 hc with hc|hc
  ·have hr:=fun q hq=>(hn c (h.qr c hc).1 (h.qr c hc).2 q hq).1
   rw[qj c hc]
   have Nk:=jO c hc
   rcases h.st c hc II with⟨m,m1,e,⟨q,hq,eq⟩,zS⟩|⟨m,m1,e,gy,q,hq,eq⟩
   ·refine .inl ⟨m,m1,e,⟨q,hq,by rw[oP q (hr q hq) (.inr (by rw[eq]))];exact eq⟩,fun q hq e3=>?_⟩
    rcases Nh q (hr q hq) e3 with e4|⟨_,e4⟩
    ·rw[oP q (hr q hq) (.inr e4)];exact zS q hq e4
    ·rw[e4]
     rw[e]at Nk
     dsimp only at Nk ⊢
     omega
   ·refine .inr ⟨m,m1,e,fun q hq=>by rw[oP q (hr q hq) (.inl (gy q hq).1)];exact gy q hq,q,hq,by rw[oP q (hr q hq) (.inl (gy q hq).1)];exact eq⟩
  ·rw[List.mem_singleton.1 hc,xb]
   have hr:=fun q hq=>(hn k k0 k1 q hq)
   have hi:=h.nn i zJ
   rcases hs with⟨rfl,nb,Ug,zT⟩|⟨rfl,nb,gy⟩
   ·refine .inl ⟨(gt v i).2+1,by omega,rfl,⟨i,nb,?_⟩,fun c hc e3=>?_⟩
    ·rw[qj i zJ,show(gt v i).2+1-1=(gt v i).2 by omega,← Ug]
    ·rcases Nh c (hr c hc).1 e3 with e4|⟨e4,_⟩
     ·rw[oP c (hr c hc).1 (.inr e4)]
      have EH:c∈P++i::R:=by
       by_cases EH:c∈P++i::R
       ·exact EH
       ·rw[h.z c (hr c hc).1 (hr c hc).2 EH]at e4;simp at e4
      rcases List.mem_append.1 EH with h1|h1
      ·exact absurd e4 (zT c hc h1)
      ·rcases au.1 h1 with h1|h1
       ·rw[h1];omega
       ·have:=Ui c h1;omega
     ·simp at e4
   ·refine .inr ⟨(gt v i).2+1,by omega,rfl,fun c hc=>?_,i,nb,by rw[qj i zJ];omega⟩
    obtain⟨e1,e2⟩:=gy c hc
    rw[oP c (hr c hc).1 (.inl e1)]
    refine⟨e1,?_⟩
    rcases e2 with e2|e2
    ·have:=Ty c e2;omega
    ·rw[e2];omega
theorem US.t0(h:US A n P R [] t v lf)(t':Int):US A n P R [] t' v lf:=fun k k0 k1 hk=>by
 obtain⟨a,b,c,d⟩:=h k k0 k1 hk
 refine⟨a,fun _=>by simp,?_,d⟩
 simpa using c
theorem US.skip(h:US A n P (i::R) d t v lf)(hk:k∈P++i::R∨(t≠1∧t≠3)):US A n P (i::R) (d ++ [k]) t v lf:=fun q q0 q1 hq=>by
 obtain⟨a,b,c,e⟩:=h q q0 q1 hq
 refine⟨a,fun e3=>?_,?_,e⟩
 ·rw[List.mem_append,List.mem_singleton]
  rintro(h1|h1)
  ·exact b e3 h1
  ·rcases hk with hk|hk
   ·exact hq (h1▸hk)
   ·exact hk.2 e3
 ·rw[c]
  by_cases e1:t=1
  ·rcases hk with hk|hk
   ·have:k≠q:=fun e=>hq (e▸hk)
    rw[if_pos e1,if_pos e1,cM,cS,if_neg (by simpa using this),bQ]
   ·exact absurd e1 hk.1
  ·rw[if_neg e1,if_neg e1]
theorem Hf{q:Int}(h:q≠k):(d ++ [k]).count q=d.count q:=by
 rw[cM,cS,if_neg (by simpa using fun e=>h e.symm),bQ]
theorem QD{v':List eT}(h:∀ c∈P,gt v' c=gt v c)(q:Int):qG A P v' q=qG A P v q:=by
 unfold qG
 refine List.countP_congr fun c _=>?_
 simp only[decide_eq_true_eq]
 constructor
 ·rintro⟨a,b⟩;exact⟨a,by rw[← h c a];exact b⟩
 ·rintro⟨a,b⟩;exact⟨a,by rw[h c a];exact b⟩
theorem acT(hn:∀ k:Int,0≤k→k<n→∀ c∈gt A.nx k,0≤c∧c<n)(h:VB A n P (i::R) v lf)(hU:US A n P (i::R) d (gt v i).1 v lf)(k0:0≤k)(k1:k<n)(hk:k ∉ P++i::R)(nb:i∈gt A.nx k)(e:(gt v i).1=3) :
  VB A n P (i::(R ++ [k])) (pt v k (1,(gt v i).2+1)) lf∧US A n P (i::(R ++ [k])) (d ++ [k]) (gt v i).1 (pt v k (1,(gt v i).2+1)) lf:=by
 obtain⟨a,_⟩:=hU k k0 k1 hk
 have hv:∀ c∈P,gt (pt v k (1,(gt v i).2+1)) c=gt v c:=fun c hc=>by
  rw[lA k0 (by rw[h.vl];exact k1) (h.qr c (by simp[hc])).1,if_neg (show c≠k from fun e=>hk (e▸(by simp[hc])))]
 refine⟨h.push hn k0 k1 hk (.inl rfl) h.ll (.inl ⟨rfl,nb,e,fun c hc hP=>a c hP hc⟩),fun q q0 q1 hq=>?_⟩
 have oR:q≠k:=fun e=>hq (by simp[e])
 obtain⟨a,b,c,f⟩:=hU q q0 q1 fun hm=>hq (by
  rcases List.mem_append.1 hm with h1|h1
  ·simp[h1]
  ·rcases au.1 h1 with h1|h1<;>simp[h1])
 refine⟨fun c hc Ie=>by rw[hv c hc];exact a c hc Ie,fun e3=>?_,?_,f⟩
 ·rw[List.mem_append,List.mem_singleton]
  rintro(h1|h1)
  ·exact b e3 h1
  ·exact oR h1
 ·rw[QD hv,c,Hf oR]
theorem acU(h:VB A n P (i::R) v lf)(hU:US A n P (i::R) d (gt v i).1 v lf)(k0:0≤k)(k1:k<n)(hk:k ∉ P++i::R)(nb:i∈gt A.nx k)(e:(gt v i).1=1)(hl:gt lf k-1≠0) :
  VB A n P (i::R) v (pt lf k (gt lf k-1))∧US A n P (i::R) (d ++ [k]) (gt v i).1 v (pt lf k (gt lf k-1)):=by
 have q8:k<lf.length:=by rw[h.ll];exact k1
 refine⟨{ h with ll:=by rw[gC k0 q8];exact h.ll },fun q q0 q1 hq=>?_⟩
 obtain⟨a,b,c,f⟩:=hU q q0 q1 hq
 rw[lA k0 q8 q0]
 by_cases oR:q=k
 ·subst oR
  rw[if_pos rfl]
  refine⟨a,fun e3=>absurd (e.symm.trans e3) (by simp),?_,fun fY=>?_⟩
  ·rw[c,if_pos e,if_pos e,cM,cS,if_pos (by simp)]
   omega
  ·have:=f fY
   omega
 ·rw[if_neg oR]
  refine⟨a,fun e3=>absurd (e.symm.trans e3) (by simp),?_,f⟩
  rw[c,Hf oR]
theorem QS{L:List Int}{p q:Int→Bool}(qm:∀ c∈L,¬ (p c=true∧q c=true))(h:L.length≤L.countP p+L.countP q):∀ c∈L,p c=true∨q c=true:=by
 induction L with
 | nil=>intro c hc;cases hc
 | cons x L ih=>
  have h1:=qm x (by simp)
  have lp:=cz (p:=p) (l:=L)
  rw[bz,bz,aJ]at h
  have hle:L.countP p+L.countP q≤L.length:=by
   clear ih h lp h1
   induction L with
   | nil=>simp
   | cons y L ih=>
    have h1:=qm y (by simp)
    have h2:=ih fun c hc=>qm c (by rcases au.1 hc with h|h<;>simp[h])
    rw[bz,bz,aJ]
    by_cases a:p y=true<;>by_cases b:q y=true<;>simp[a,b]at h1 ⊢ <;> omega
  intro c hc
  by_cases a:p x=true<;>by_cases b:q x=true<;>simp[a,b]at h1 h
  ·rcases au.1 hc with rfl|hc
   ·exact .inl a
   ·exact ih (fun c hc=>qm c (by simp[hc])) (by omega) c hc
  ·rcases au.1 hc with rfl|hc
   ·exact .inr b
   ·exact ih (fun c hc=>qm c (by simp[hc])) (by omega) c hc
  ·omega
theorem acV(hn:∀ k:Int,0≤k→k<n→∀ c∈gt A.nx k,0≤c∧c<n)(h:VB A n P (i::R) v lf)(hU:US A n P (i::R) d (gt v i).1 v lf)(k0:0≤k)(k1:k<n)(hk:k ∉ P++i::R)(nb:i∈gt A.nx k)(e:(gt v i).1=1)(hl:gt lf k-1=0)
  (hd:d.count k+1≤(gt A.nx k).count i) :
  VB A n P (i::(R ++ [k])) (pt v k (3,(gt v i).2+1)) (pt lf k (gt lf k-1))∧US A n P (i::(R ++ [k])) (d ++ [k]) (gt v i).1 (pt v k (3,(gt v i).2+1)) (pt lf k (gt lf k-1)):=by
 have q8:k<lf.length:=by rw[h.ll];exact k1
 obtain⟨_,_,c,_⟩:=hU k k0 k1 hk
 have Io:i ∉ P:=fun hm=>(a7.1 h.nd).2.2 i hm i (by simp) rfl
 have gy:=QS (L:=gt A.nx k) (p:=fun c=>decide (c∈P∧(gt v c).1=1)) (q:=fun c=>c == i) (fun c _=>by
  rintro⟨h1,h2⟩
  simp only[decide_eq_true_eq]at h1
  simp only[beq_iff_eq]at h2
  exact Io (h2▸h1.1)) (by
  rw[if_pos e]at c
  unfold qG at c
  have Nl:(gt A.nx k).count i=(gt A.nx k).countP (fun c=>c == i):=rfl
  omega)
 have hv:∀ c∈P,gt (pt v k (3,(gt v i).2+1)) c=gt v c:=fun c hc=>by
  rw[lA k0 (by rw[h.vl];exact k1) (h.qr c (by simp[hc])).1,if_neg (show c≠k from fun e=>hk (e▸(by simp[hc])))]
 refine⟨h.push hn k0 k1 hk (.inr rfl) (by rw[gC k0 q8];exact h.ll) (.inr ⟨rfl,nb,fun c hc=>?_⟩),fun q q0 q1 hq=>?_⟩
 ·rcases gy c hc with h1|h1
  ·simp only[decide_eq_true_eq]at h1
   exact⟨h1.2,.inl h1.1⟩
  ·simp only[beq_iff_eq]at h1
   rw[h1]
   exact⟨e,.inr rfl⟩
 have oR:q≠k:=fun e=>hq (by simp[e])
 obtain⟨a,b,c,f⟩:=hU q q0 q1 fun hm=>hq (by
  rcases List.mem_append.1 hm with h1|h1
  ·simp[h1]
  ·rcases au.1 h1 with h1|h1<;>simp[h1])
 rw[lA k0 q8 q0,if_neg oR]
 refine⟨fun c hc Ie=>by rw[hv c hc];exact a c hc Ie,fun e3=>absurd (e.symm.trans e3) (by simp),?_,f⟩
 rw[QD hv,c,Hf oR]
theorem TZ(h:VB A n P (i::R) v lf)(hU:US A n P (i::R) d (gt v i).1 v lf)(hd:∀ k:Int,0≤k→k<n→d.count k=(gt A.nx k).count i) :
  VB A n (P ++ [i]) R v lf∧US A n (P ++ [i]) R [] 0 v lf:=by
 have hQ:(P ++ [i])++R=P++i::R:=by simp
 have Io:i ∉ P:=fun hm=>(a7.1 h.nd).2.2 i hm i (by simp) rfl
 refine⟨⟨h.vl,h.ll,by rw[hQ];exact h.nd,by rw[hQ];exact h.qr,by rw[hQ];exact h.qi,by rw[hQ];exact h.z,by rw[hQ];exact h.ov,by rw[hQ];exact h.mono,?_,by rw[hQ];exact h.nn,by rw[hQ];exact h.st⟩,fun k k0 k1 hk=>?_⟩
 ·intro j R' e a ha
  rw[hQ]at ha
  have h1:=h.top i R rfl a ha
  have h2:=(aL.1 (aV.1 h.mono).2.1).1 j (by rw[e];simp)
  omega
 ·rw[hQ]at hk
  obtain⟨a,b,c,f⟩:=hU k k0 k1 hk
  have Ig:=hd k k0 k1
  refine⟨fun q hq oR=>?_,fun e=>by simp at e,?_,f⟩
  ·rcases List.mem_append.1 hq with h1|h1
   ·exact a q h1 oR
   ·rw[List.mem_singleton.1 h1]at oR ⊢
    intro e3
    refine b e3 (db.1 ?_)
    rw[Ig]
    exact db.2 oR
  ·rw[if_neg (show ¬ ((0:Int)=1)by decide),c]
   have:qG A (P ++ [i]) v k=qG A P v k+(if (gt v i).1=1 then d.count k else 0):=by
    rw[Ig]
    unfold qG
    clear c f b a Ig
    induction gt A.nx k with
    | nil=>simp
    | cons x L ih=>
     rw[bz,bz,List.count_cons,ih]
     by_cases tU:x=i
     ·subst tU
      simp[Io]
      split<;>simp_all<;>omega
     ·simp[tU]
      by_cases hx:x∈P∧(gt v x).1=1
      ·simp[hx];omega
      ·simp[hx]
   rw[this]
   push_cast
   omega
theorem ac4(hn:∀ k:Int,0≤k→k<n→∀ c∈gt A.nx k,0≤c∧c<n)(h:VB A n P [] v lf)(hU:US A n P [] [] 0 v lf){v':List eT}(hv:∀ k:Int,0≤k→k<n→gt v' k=if (gt v k).1=0 then(2,(gt v k).2)else gt v k) :
  ∀ k:Int,0≤k→k<n→mj A v' k:=fun k k0 k1=>by
 have hx:=hn k k0 k1
 have vE:∀ c:Int,0≤c→c<n→(gt v c).1=1∨(gt v c).1=3→gt v' c=gt v c:=fun c c0 c1 e=>by rw[hv c c0 c1,if_neg (by omega)]
 have Fa:∀ c:Int,0≤c→c<n→(gt v' c).1=1∨(gt v' c).1=3→gt v' c=gt v c:=fun c c0 c1 e=>by
  rw[hv c c0 c1]at e ⊢
  split at e
  ·simp at e
  ·rename_i h;rw[if_neg h]
 by_cases hk:k∈P ++ []
 ·have jk:gt v' k=gt v k:=by rw[hv k k0 k1,if_neg (h.qi k hk)]
  by_cases ho:A.ov k=true
  ·exact .inl ⟨ho,by rw[jk];exact(h.ov k k0 k1 ho).2⟩
  ·have ho:A.ov k=false:=by simpa using ho
   rcases h.st k hk ho with⟨m,m1,e,⟨q,hq,eq⟩,zS⟩|⟨m,m1,e,gy,q,hq,eq⟩
   ·refine .inr ⟨ho,.inl ⟨m,m1,by rw[jk];exact e,⟨q,hq,by rw[vE q (hx q hq).1 (hx q hq).2 (.inr (by rw[eq]))];exact eq⟩,fun c hc e3=>?_⟩⟩
    have:=Fa c (hx c hc).1 (hx c hc).2 (.inr e3)
    rw[this]at e3 ⊢
    exact zS c hc e3
   ·refine .inr ⟨ho,.inr (.inl ⟨m,m1,by rw[jk];exact e,fun c hc=>by rw[vE c (hx c hc).1 (hx c hc).2 (.inl (gy c hc).1)];exact gy c hc,q,hq,by rw[vE q (hx q hq).1 (hx q hq).2 (.inl (gy q hq).1)];exact eq⟩)⟩
 ·have hz:=h.z k k0 k1 hk
  obtain⟨a,_,c,f⟩:=hU k k0 k1 hk
  have ho:A.ov k=false:=by
   by_cases ho:A.ov k=true
   ·exact absurd (h.ov k k0 k1 ho).1 hk
   ·simpa using ho
  have hP:∀ c:Int,0≤c→c<n→(gt v' c).1=1∨(gt v' c).1=3→c∈P:=fun c c0 c1 e=>by
   have e2:=Fa c c0 c1 e
   by_cases hc:c∈P ++ []
   ·simpa using hc
   ·rw[e2,h.z c c0 c1 hc]at e
    simp at e
  refine .inr ⟨ho,.inr (.inr ⟨by rw[hv k k0 k1,hz];rfl,fun q hq e3=>?_,fun⟨fY,gy⟩=>?_⟩)⟩
  ·have IT:=hP q (hx q hq).1 (hx q hq).2 (.inr e3)
   rw[Fa q (hx q hq).1 (hx q hq).2 (.inr e3)]at e3
   exact a q IT hq e3
  ·have h1:=f fY
   rw[c]at h1
   have:qG A P v k=(gt A.nx k).length:=by
    unfold qG
    refine List.countP_eq_length.2 fun q hq=>?_
    have e1:=gy q hq
    have IT:=hP q (hx q hq).1 (hx q hq).2 (.inl e1)
    rw[Fa q (hx q hq).1 (hx q hq).2 (.inl e1)]at e1
    simpa using ⟨IT,e1⟩
   simp[this]at h1
structure VS(A:pZ)(n:Nat)(m:Int)(R:List Int)(v:List eT)(lf:List Int):Prop where
 vl:v.length=n
 ll:lf.length=n
 nd:R.Nodup
 qr:∀ k,k∈R↔(0≤k∧k<m)∧A.ov k=true
 vv:∀ k:Int,0≤k→k<n→gt v k=if k∈R then(A.rs k,0)else(0,0)
 lv:∀ k:Int,0≤k→k<m→gt lf k=(gt A.nx k).length
theorem VS.start(A:pZ)(n:Nat):VS A n 0 [] (List.replicate n (0,0)) (List.replicate n 0):=
 ⟨by simp,by simp,by simp,fun k=>by simp;omega,fun k k0 k1=>by rw[Ez k0 k1];simp,fun k k0 k1=>by omega⟩
theorem VS.no{m:Int}(h:VS A n m R v lf)(m0:0≤m)(m1:m<n)(ho:A.ov m=false):VS A n (m+1) R v (pt lf m (gt A.nx m).length):=by
 have hl:m<lf.length:=by rw[h.ll];exact m1
 refine⟨h.vl,by rw[gC m0 hl];exact h.ll,h.nd,fun k=>?_,h.vv,fun k k0 k1=>?_⟩
 ·rw[h.qr k]
  refine⟨fun⟨a,b⟩=>⟨by omega,b⟩,fun⟨a,b⟩=>⟨?_,b⟩⟩
  have:k≠m:=fun e=>by rw[e,ho]at b;cases b
  omega
 ·rw[lA m0 hl k0]
  by_cases e:k=m
  ·rw[if_pos e,e]
  ·rw[if_neg e];exact h.lv k k0 (by omega)
theorem VS.yes{m:Int}(h:VS A n m R v lf)(m0:0≤m)(m1:m<n)(ho:A.ov m=true):VS A n (m+1) (R ++ [m]) (pt v m (A.rs m,0)) (pt lf m (gt A.nx m).length):=by
 have hl:m<lf.length:=by rw[h.ll];exact m1
 have hv:m<v.length:=by rw[h.vl];exact m1
 have hm:m ∉ R:=fun hm=>by have:=((h.qr m).1 hm).1;omega
 refine⟨by rw[gC m0 hv];exact h.vl,by rw[gC m0 hl];exact h.ll,?_,fun k=>?_,fun k k0 k1=>?_,fun k k0 k1=>?_⟩
 ·rw[a7]
  exact⟨h.nd,by simp,fun a ha b hb e=>hm (by rw[List.mem_singleton.1 hb]at e;exact e▸ha)⟩
 ·rw[List.mem_append,List.mem_singleton,h.qr k]
  constructor
  ·rintro(⟨a,b⟩|rfl)
   ·exact⟨by omega,b⟩
   ·exact⟨by omega,ho⟩
  ·rintro⟨a,b⟩
   by_cases e:k=m
   ·exact .inr e
   ·exact .inl ⟨by omega,b⟩
 ·rw[lA m0 hv k0]
  by_cases e:k=m
  ·rw[if_pos e,if_pos (by simp[e]),e]
  ·rw[if_neg e,h.vv k k0 k1]
   simp[e]
 ·rw[lA m0 hl k0]
  by_cases e:k=m
  ·rw[if_pos e,e]
  ·rw[if_neg e];exact h.lv k k0 (by omega)
theorem VS.done(h:VS A n n R v lf)(hr:∀ k:Int,A.ov k=true→A.rs k≠0):VB A n [] R v lf∧US A n [] R [] 0 v lf:=by
 have hq:=fun k (hk:k∈R)=>(h.qr k).1 hk
 have hv:=fun k (hk:k∈R)=>by
  have:=h.vv k (hq k hk).1.1 (hq k hk).1.2
  rwa [if_pos hk]at this
 refine⟨⟨h.vl,h.ll,by simpa using h.nd,fun k hk=>(hq k (by simpa using hk)).1,fun k hk=>?_,fun k k0 k1 hk=>?_,fun k k0 k1 ho=>?_,?_,fun i R' e a ha=>?_,fun a ha=>?_,fun k hk ho=>?_⟩,fun k k0 k1 hk=>⟨fun c hc=>(by cases hc),fun e=>(by simp at e),?_,fun fY=>?_⟩⟩
 ·rw[aY]at hk
  rw[hv k hk];exact hr k (hq k hk).2
 ·rw[aY]at hk
  rw[h.vv k k0 k1,if_neg hk]
 ·have hk:=(h.qr k).2 ⟨⟨k0,k1⟩,ho⟩
  exact⟨by simpa using hk,hv k hk⟩
 ·rw[aY]
  refine da (R:=fun _ _=>True) ?_ (List.pairwise_of_forall fun _ _=>trivial)
  intro a b ha hb _
  rw[hv a ha,hv b hb];exact bU _
 ·rw[aY]at ha
  rw[hv a ha,hv i (by rw[e];simp)];simp
 ·rw[aY]at ha ⊢
  rw[hv a ha];simp
 ·rw[aY]at hk
  rw[(hq k hk).2]at ho;cases ho
 ·rw[h.lv k k0 k1,if_neg (by decide)]
  unfold qG
  simp
 ·rw[h.lv k k0 k1]
  have:=aA.2 fY
  omega
