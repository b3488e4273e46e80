/- Part 40 of the proof of skewer.skewerlaw15.TableValues. -/
import Derived.Test.YtnaefnajkaohgaaGreatDoorE39
set_option linter.all false
namespace Go.Proofs.YtnaefnajkaohgaaGreatDoor
open Go Go.AL Classical
section
variable{g:eU}{l:List Pos}{nx:List (List Int)}{part:List Int}{bu:Int}
structure pU(L:Nat)(S:Int→Prop)(v:List eY)(b:List Bool)(v':List eY)(b':List Bool):Prop where
 vl:v.length=L
 bl:b.length=L
 B6:v'.length=L
 xn:b'.length=L
 eb:∀ k:Int,0≤k→k<L→S k→gt b k=gt b' k
 ev:∀ k:Int,0≤k→k<L→S k→gt b k=false→gt v k=gt v' k
theorem pU.symm{L:Nat}{S:Int→Prop}{v:List eY}{b:List Bool}{v':List eY}{b':List Bool}(h:pU L S v b v' b'):pU L S v' b' v b:=
 ⟨h.B6,h.xn,h.vl,h.bl,fun k k0 k1 s=>(h.eb k k0 k1 s).symm,fun k k0 k1 s e=>(h.ev k k0 k1 s (by rw[h.eb k k0 k1 s];exact e)).symm⟩
structure xi(l:List Pos)(nx:List (List Int))(part:List Int)(S:Int→Prop):Prop where
 own:∀ i∈part,S i
 next:∀ i∈part,∀ k∈gt nx i,S k
theorem Rr{L:Nat}{S:Int→Prop}{v v':List eY}{b b':List Bool}(h:pU L S v b v' b'){x:List Int}(hx:∀ k∈x,(0≤k∧k<L)∧S k):∀ j:Nat,j≤x.length→jC v b x j=jC v' b' x j
 | 0,_=>rfl
 | j+1,hj=>by
  have hm:=hx _ (ff (l:=x) (n:=(j:Int)) (by omega) (by omega))
  have h1:=h.eb _ hm.1.1 hm.1.2 hm.2
  rw[jC,jC,Rr h hx j (by omega),← h1]
  by_cases e:gt b (gt x (j:Int))=false
  ·rw[h.ev _ hm.1.1 hm.1.2 hm.2 e]
  ·rw[if_neg (fun c=>e c.1),if_neg (fun c=>e c.1)]
theorem Ps{L:Nat}{S:Int→Prop}{v v':List eY}{b b':List Bool}(h:pU L S v b v' b'){x:List Int}(hx:∀ k∈x,(0≤k∧k<L)∧S k){n:Int}(hl:qU v b x n):qU v' b' x n:=by
 obtain⟨k,hk,h1,h2⟩:=hl
 have hm:=hx k hk
 exact⟨k,hk,by rw[← h.eb k hm.1.1 hm.1.2 hm.2];exact h1,by rw[← h.ev k hm.1.1 hm.1.2 hm.2 h1];exact h2⟩
theorem M6{L:Nat}{S:Int→Prop}{v v':List eY}{b b':List Bool}(h:pU L S v b v' b'){x:List Int}(hx:∀ k∈x,(0≤k∧k<L)∧S k)(p:Pos)(n:Int):jI g p v b x n=jI g p v' b' x n:=by
 have e:qU v b x n↔qU v' b' x n:=⟨Ps h hx,Ps h.symm hx⟩
 unfold jI
 rw[Rr h hx x.length (Nat.le_refl _)]
 by_cases c:qU v b x n
 ·rw[if_pos c,if_pos (e.1 c)]
 ·rw[if_neg c,if_neg (fun d=>c (e.2 d))]
theorem ads(o:lx g l nx part bu){S:Int→Prop}(hS:xi l nx part S){v v':List eY}{b b':List Bool}(h:pU l.length S v b v' b')(n:Int):pU l.length S (rV g l nx part v b n) (rB g l nx part v b n) (rV g l nx part v' b' n) (rB g l nx part v' b' n):=by
 have hx:∀ i∈part,∀ k∈gt nx i,(0≤k∧k<l.length)∧S k:=fun i hi k hk=>⟨(o.yv i (o.prt i hi).1 (o.prt i hi).2).1 k hk,hS.next i hi k hk⟩
 have he:∀ i∈part,oD g l nx v b n i=oD g l nx v' b' n i:=fun i hi=>by unfold oD;rw[M6 h (hx i hi)]
 have hd:mA g l nx part v b n=mA g l nx part v' b' n:=by
  unfold mA
  refine List.filter_congr fun i hi=>?_
  have hp:=o.prt i hi
  unfold kC
  rw[M6 h (hx i hi),h.eb i hp.1 hp.2 (hS.own i hi)]
 refine⟨yD o h.vl h.bl,yC o h.bl,yD o h.B6 h.xn,yC o h.xn,fun k k0 k1 s=>?_,fun k k0 k1 s e=>?_⟩
 ·rw[vH o h.bl k0 k1,vH o h.xn k0 k1,hd,h.eb k k0 k1 s]
 ·rw[xI o h.vl h.bl k0 k1,xI o h.B6 h.xn k0 k1,hd]
  rw[vH o h.bl k0 k1,hd]at e
  split
  ·rename_i hm
   exact he k (EU hm)
  ·rename_i hm
   rw[if_neg hm]at e
   exact h.ev k k0 k1 s e
def Quiet(L:Nat)(S:Int→Prop)(v:List eY)(b:List Bool)(n:Int):Prop:=∀ k:Int,0≤k→k<L→S k→gt b k=false→(gt v k).1≠2→(gt v k).2<n
theorem Quiet.Ma{L:Nat}{S:Int→Prop}{v v':List eY}{b b':List Bool}{n:Int}(q:Quiet L S v b n)(h:pU L S v b v' b'):Quiet L S v' b' n:=fun k k0 k1 s e f=>by
 have hb:=h.eb k k0 k1 s
 have hv:=h.ev k k0 k1 s (by rw[hb];exact e)
 rw[← hv]at f ⊢
 exact q k k0 k1 s (by rw[hb];exact e) f
theorem Quiet.none(o:lx g l nx part bu){S:Int→Prop}(hS:xi l nx part S){v:List eY}{b:List Bool}{n:Int}(n0:0≤n)(q:Quiet l.length S v b n):mA g l nx part v b (n+1) = []:=by
 refine cF.2 fun i hi=>?_
 have hp:=o.prt i hi
 have hx:=(o.yv i hp.1 hp.2).1
 unfold kC jI
 rw[if_neg (by omega),if_neg]
 ·simp only[ah,decide_eq_true_eq,not_and]
  intro h
  exfalso
  rcases B7 v b (gt nx i) (gt nx i).length (Nat.le_refl _)with e|⟨j,hj,e1,e2,e3⟩
  ·omega
  ·have:=q j (hx j hj).1 (hx j hj).2 (hS.next i hi j hj) e1 (by omega)
   omega
 ·rintro⟨k,hk,e1,e2⟩
  have h1:(gt v k).1=3:=by rw[e2]
  have h2:(gt v k).2=n+1-1:=by rw[e2]
  have:=q k (hx k hk).1 (hx k hk).2 (hS.next i hi k hk) e1 (by omega)
  omega
theorem Quiet.iR(o:lx g l nx part bu){S:Int→Prop}(hS:xi l nx part S){v:List eY}{b:List Bool}(iF:Int):∀ (f:Nat) (n:Int) (t:Int),0≤n→Quiet l.length S v b n→(iR g l nx part iF f (n+1) v b t).2=(v,b)
 | 0,_,_,_,_=>rfl
 | f+1,n,t,n0,q=>by
  have hd:=q.none o hS n0
  have e1:rV g l nx part v b (n+1)=v:=by unfold rV;rw[hd];rfl
  have e2:rB g l nx part v b (n+1)=b:=by unfold rB;rw[hd];rfl
  rw[Go.Proofs.YtnaefnajkaohgaaGreatDoor.iR,e1,e2]
  split
  ·exact Quiet.iR o hS iF f (n+1) _ (by omega) fun k k0 k1 s e h=>by have:=q k k0 k1 s e h;omega
  ·rfl
theorem Fk(v:List eY)(b:List Bool):∀ (k:Nat) (j:Int),0≤j→j<k→gt b j=false→(gt v j).1≠2→(gt v j).2≤lC v b k
 | 0,j,j0,j1,_,_=>by omega
 | k+1,j,j0,j1,h1,h2=>by
  rw[lC]
  by_cases e:j=(k:Int)
  ·subst e
   rw[if_pos ⟨h1,h2⟩];omega
  ·have:=Fk v b k j j0 (by omega) h1 h2
   split<;>omega
theorem QJ(o:lx g l nx part bu){S:Int→Prop}(hS:xi l nx part S)(iF:Int):∀ (f:Nat) (n:Int) (v v':List eY) (b b':List Bool) (t t':Int),0≤n→pU l.length S v b v' b' →
  pU l.length S (iR g l nx part iF f n v b t).2.1 (iR g l nx part iF f n v b t).2.2 (iR g l nx part iF f n v' b' t').2.1 (iR g l nx part iF f n v' b' t').2.2
 | 0,n,v,v',b,b',t,t',_,h=>h
 | f+1,n,v,v',b,b',t,t',n0,h=>by
  have hr:=ads o hS h n
  rw[iR,iR]
  generalize rV g l nx part v b n=V at *
  generalize rB g l nx part v b n=B at *
  generalize rV g l nx part v' b' n=V' at *
  generalize rB g l nx part v' b' n=B' at *
  by_cases c:n≤lC V B v.length∧n<4000
  ·by_cases c':n≤lC V' B' v'.length∧n<4000
   ·rw[if_pos c,if_pos c']
    exact QJ o hS iF f (n+1) V V' B B' _ _ (by omega) hr
   ·have q':Quiet l.length S V' B' n:=fun k k0 k1 _ e h2=>by
     have:=Fk V' B' v'.length k k0 (by rw[h.B6];exact k1) e h2
     omega
    rw[if_pos c,if_neg c',(q'.Ma hr.symm).iR o hS iF f n _ n0]
    exact hr
  ·have q:Quiet l.length S V B n∨¬ n<4000:=by
    by_cases c2:n<4000
    ·exact .inl fun k k0 k1 _ e h2=>by
      have:=Fk V B v.length k k0 (by rw[h.vl];exact k1) e h2
      omega
    ·exact .inr c2
   by_cases c':n≤lC V' B' v'.length∧n<4000
   ·rw[if_neg c,if_pos c',((q.resolve_right (fun h=>h c'.2)).Ma hr).iR o hS iF f n _ n0]
    exact hr
   ·rw[if_neg c,if_neg c']
    exact hr
def rep(n:Nat):List Bool:=List.replicate n false
theorem tm(n:Nat):(rep n).length=n:=by simp[rep]
theorem TT(o:lx g l nx part bu)(iF:Int){v:List eY}(hv:v.length=l.length):(jJ g l nx part iF v (rep l.length)).2.2=rep l.length:=by
 have hb:=tm l.length
 obtain⟨m1,m2⟩:=Bf o hb
 obtain⟨⟨r1,r2⟩,r3⟩:=BH o iF 4001 0 v (jk (rep l.length) (fun _=>true) part) 0 hv m1
 obtain⟨f1,f2⟩:=z8 o r1 r2
 have h1:=(tZ o iF hv hb).1.2
 refine Ac (by rw[h1,hb]) fun j j0 j1=>?_
 rw[h1]at j1
 have hf:gt (rep l.length) j=false:=vI j0 (by omega)
 rw[hf]
 unfold jJ
 dsimp only
 rw[(f2 j j0 j1).2]
 split
 ·rfl
 ·rename_i hj
  rw[(r3 j j0 j1 hj).2,m2 j j0 j1,if_neg hj,hf]
theorem No(o:lx g l nx part bu){S:Int→Prop}(hS:xi l nx part S)(iF:Int){v v':List eY}(hv:v.length=l.length)(kd:v'.length=l.length)(h:∀ k:Int,0≤k→k<l.length→S k→k ∉ part→gt v k=gt v' k) :
  ∀ k:Int,0≤k→k<l.length→S k→gt (jJ g l nx part iF v (rep l.length)).2.1 k=gt (jJ g l nx part iF v' (rep l.length)).2.1 k:=by
 have hb:=tm l.length
 obtain⟨m1,m2⟩:=Bf o hb
 have h0:pU l.length S v (jk (rep l.length) (fun _=>true) part) v' (jk (rep l.length) (fun _=>true) part):=⟨hv,m1,kd,m1,fun _ _ _ _=>rfl,fun k k0 k1 s e=>by
  rw[m2 k k0 k1]at e
  split at e
  ·cases e
  ·rename_i hk
   exact h k k0 k1 s hk⟩
 have hr:=QJ o hS iF 4001 0 v v' _ _ 0 0 (by omega) h0
 obtain⟨_,r3⟩:=BH o iF 4001 0 v (jk (rep l.length) (fun _=>true) part) 0 hv m1
 obtain⟨_,f2⟩:=z8 o hr.vl hr.bl
 obtain⟨_,TC⟩:=z8 o hr.B6 hr.xn
 intro k k0 k1 s
 unfold jJ
 dsimp only
 rw[(f2 k k0 k1).1,(TC k k0 k1).1,← hr.eb k k0 k1 s]
 by_cases c:k∈part∧gt (iR g l nx part iF 4001 0 v (jk (rep l.length) (fun _=>true) part) 0).2.2 k=true
 ·rw[if_pos c,if_pos c]
 ·rw[if_neg c,if_neg c]
  refine hr.ev k k0 k1 s ?_
  by_cases hk:k∈part
  ·have:=fun e=>c ⟨hk,e⟩
   simpa using this
  ·rw[(r3 k k0 k1 hk).2,m2 k k0 k1,if_neg hk]
   exact vI k0 (by omega)
end
section
variable{g:eU}{l:List Pos}{m:List Int}
theorem PY(hg:fr g)(hv:pX g m)(hc:mQ g l){i:Int}(i0:0≤i)(i1:i<l.length):∀ k∈gt (fE g l) i,fY m (gt l k)≤fY m (gt l i):=fun k hk=>by
 rw[(r8 hc i0 i1).1]at hk
 obtain⟨q,hq,rfl⟩:=ao.1 hk
 have rP:=wD.1 hq
 have FR:=hc.cl _ (ff i0 i1) q rP
 rw[(z' FR).2.2]
 exact Yx hg hv (hc.ok _ (ff i0 i1)) rP
theorem QW(hg:fr g)(hv:pX g m)(hc:mQ g l)(n:Int):xi l (fE g l) (kO m l n) fun k=>fY m (gt l k)≤n:=
 ⟨fun i hi=>by rw[(wB.1 hi).2];exact b8 _,fun i hi k hk=>by
  obtain⟨⟨i0,i1⟩,e⟩:=wB.1 hi
  have:=PY hg hv hc i0 i1 k hk
  omega⟩
noncomputable def rD(g:eU)(l:List Pos)(bu:Int):List (List Int)→List eY→List eY
 | [],v=>v
 | p::ps,v=>rD g l bu ps (jJ g l (fE g l) p bu v (rep l.length)).2.1
theorem PN(hg:fr g)(hc:mQ g l){bu:Int}(hb:1≤bu∧bu≤9223372036854775807):∀ (ps:List (List Int)) (_:∀ p∈ps,p∈lA m l) (v:List eY) (t:Int),v.length=l.length→(pM g l (fE g l) bu ps v (rep l.length) t).2.1=rD g l bu ps v
 | [],_,v,t,hv=>rfl
 | p::ps,h,v,t,hv=>by
  have o:=xF hg hc hb (h p (by simp))
  rw[pM,rD,TT o bu hv]
  exact PN hg hc hb ps (fun q hq=>h q (by simp[hq])) _ _ (tZ o bu hv (tm _)).1.1
theorem Nq(hg:fr g)(hv:pX g m)(hc:mQ g l){bu:Int}(hb:1≤bu∧bu≤9223372036854775807):∀ (ns:List Int),px ns→(∀ n∈ns,n∈lH m l)→∀ (v v':List eY),v.length=l.length→v'.length=l.length →
  (∀ k:Int,0≤k→k<l.length→fY m (gt l k) ∉ ns→(∀ n∈ns,fY m (gt l k)<n)∧gt v k=gt v' k)→rD g l bu (ns.map (kO m l)) v=rD g l bu (ns.map (kO m l)) v'
 | [],_,_,v,v',e,e',h=>Ac (e.trans e'.symm) fun j j0 j1=>(h j j0 (by rw[← e];exact j1) (by simp)).2
 | n::ns,hs,hm,v,v',e,e',h=>by
  obtain⟨s1,s2⟩:=aJ.1 hs
  have o:=xF hg hc hb (ao.2 ⟨n,hm n (by simp),rfl⟩:kO m l n∈lA m l)
  have oh:=No o (QW hg hv hc n) bu e e' fun k k0 k1 hk l4=>by
   have gd:fY m (gt l k)≠n:=fun e=>l4 (wB.2 ⟨⟨k0,k1⟩,e⟩)
   refine(h k k0 k1 fun kb=>?_).2
   rcases aq.1 kb with h1|h1
   ·exact gd h1
   ·have:=s1 _ h1;omega
  rw[List.map_cons,rD,rD]
  refine Nq hg hv hc hb ns s2 (fun x hx=>hm x (by simp[hx])) _ _ (tZ o bu e (tm _)).1.1 (tZ o bu e' (tm _)).1.1 fun k k0 k1 hk=>?_
  by_cases hn:fY m (gt l k)=n
  ·exact⟨fun x hx=>by rw[hn];exact s1 x hx,oh k k0 k1 (by omega)⟩
  ·have h2:=h k k0 k1 (by simp[hn,hk])
   have h3:=h2.1 n (by simp)
   exact⟨fun x hx=>h2.1 x (by simp[hx]),oh k k0 k1 (by omega)⟩
theorem TW(hg:fr g)(hv:pX g m)(hc:mQ g l){bu:Int}(hb:1≤bu∧bu≤9223372036854775807){v:List eY}(e:v.length=l.length):rD g l bu (lA m l) v=(pN g l m bu).2.1:=by
 have h1:=PN hg hc hb (lA m l) (fun p hp=>hp) (List.replicate l.length (2,0)) 0 (by simp)
 unfold pN
 unfold rep at h1
 rw[h1]
 refine Nq hg hv hc hb (lH m l) (wX _) (fun n hn=>hn) _ _ e (by simp) fun k k0 k1 hk=>?_
 exact absurd (Gt.2 ⟨k,k0,k1,rfl⟩) hk
end
end Go.Proofs.YtnaefnajkaohgaaGreatDoor
namespace Go.Proofs.YtnaefnajkaohgaaGreatDoor
open Go Go.AL Classical
structure pr where
 ov:Int→Bool
 rs:Int→Int
 nx:List (List Int)
def kK(A:pr)(v:List eY)(i:Int):Prop:=
 (A.ov i=true∧gt v i=(A.rs i,0))∨(A.ov i=false∧(
  (∃ n,1≤n∧gt v i=(1,n)∧(∃ k∈gt A.nx i,gt v k=(3,n-1))∧∀ k∈gt A.nx i,(gt v k).1=3→n-1≤(gt v k).2) ∨
  (∃ n,1≤n∧gt v i=(3,n)∧(∀ k∈gt A.nx i,(gt v k).1=1∧(gt v k).2≤n-1)∧∃ k∈gt A.nx i,(gt v k).2=n-1) ∨
  (gt v i=(2,0)∧(∀ k∈gt A.nx i,(gt v k).1≠3)∧¬ (gt A.nx i≠[]∧∀ k∈gt A.nx i,(gt v k).1=1))))
theorem kK.n0{A:pr}{v:List eY}{i:Int}(h:kK A v i):0≤(gt v i).2:=by
 rcases h with⟨_,e⟩|⟨_,⟨n,h,e,_⟩|⟨n,h,e,_⟩|⟨e,_⟩⟩<;>rw[e]<;>simp<;>omega
theorem kK.congr{A:pr}{v v':List eY}{i:Int}(h:kK A v i)(hi:gt v' i=gt v i)(hk:∀ k∈gt A.nx i,gt v' k=gt v k):kK A v' i:=by
 rcases h with⟨c1,c2⟩|⟨c1,⟨q,q1,c2,⟨k,ie,c3⟩,c4⟩|⟨q,q1,c2,c3,k,ie,c4⟩|⟨c2,c3,c4⟩⟩
 ·exact .inl ⟨c1,by rw[hi];exact c2⟩
 ·exact .inr ⟨c1,.inl ⟨q,q1,by rw[hi];exact c2,⟨k,ie,by rw[hk k ie];exact c3⟩,fun p hp=>by rw[hk p hp];exact c4 p hp⟩⟩
 ·exact .inr ⟨c1,.inr (.inl ⟨q,q1,by rw[hi];exact c2,fun p hp=>by rw[hk p hp];exact c3 p hp,k,ie,by rw[hk k ie];exact c4⟩)⟩
 ·exact .inr ⟨c1,.inr (.inr ⟨by rw[hi];exact c2,fun p hp=>by rw[hk p hp];exact c3 p hp,fun⟨a1,a2⟩=>c4 ⟨a1,fun p hp=>by rw[← hk p hp];exact a2 p hp⟩⟩)⟩
section
variable{A:pr}{S:Int→Prop}{v v':List eY}
theorem Pr(hS:∀ i,S i→∀ k∈gt A.nx i,S k)(h:∀ i,S i→kK A v i)(h':∀ i,S i→kK A v' i){n:Int}
  (ih:∀ m:Int,0≤m→m<n→∀ i,S i→(gt v i).1≠2→(gt v i).2=m→gt v' i=gt v i) (JS:∀ m:Int,0≤m→m<n→∀ i,S i→(gt v' i).1≠2→(gt v' i).2=m→gt v i=gt v' i) :
  ∀ i,S i→(gt v i).1≠2→(gt v i).2=n→gt v' i=gt v i:=fun i hi h2 hn=>by
 rcases h i hi with⟨o,e⟩|⟨o,⟨m,h1,e,⟨k,hk,ek⟩,_⟩|⟨m,h1,e,ha,k,hk,ek⟩|⟨e,_⟩⟩
 ·rcases h' i hi with⟨_,e'⟩|⟨o',_⟩
  ·rw[e,e']
  ·rw[o]at o';cases o'
 ·rw[e]at hn
  dsimp only at hn
  subst hn
  have ie:=ih (m-1) (by omega) (by omega) k (hS i hi k hk) (by rw[ek];simp) (by rw[ek])
  rw[ek]at ie
  rcases h' i hi with⟨o',_⟩|⟨_,⟨m',xL,e',_,v8⟩|⟨m',_,_,oE,_⟩|⟨_,sY,_⟩⟩
  ·rw[o]at o';cases o'
  ·have:=v8 k hk (by rw[ie])
   rw[ie]at this
   dsimp only at this
   by_cases e2:m'=m
   ·rw[e,e',e2]
   ·have:=JS m' (by omega) (by omega) i hi (by rw[e'];simp) (by rw[e'])
    rw[e,e']at this
    exact absurd (congrArg Prod.snd this).symm e2
  ·have:=(oE k hk).1
   rw[ie]at this
   exact absurd this (by simp)
  ·exact absurd (by rw[ie]) (sY k hk)
 ·rw[e]at hn
  dsimp only at hn
  subst hn
  have gu:∀ q∈gt A.nx i,gt v' q=gt v q:=fun q hq=>ih _ (h q (hS i hi q hq)).n0 (by have:=(ha q hq).2;omega) q (hS i hi q hq) (by rw[(ha q hq).1];simp) rfl
  rcases h' i hi with⟨o',_⟩|⟨_,⟨m',_,_,⟨q,hq,eq⟩,_⟩|⟨m',xL,e',oE,q,hq,eq⟩|⟨_,_,sY⟩⟩
  ·rw[o]at o';cases o'
  ·have:=(ha q hq).1
   rw[← gu q hq,eq]at this
   exact absurd this (by simp)
  ·have a1:=(oE k hk).2
   have a2:=(ha q hq).2
   rw[gu k hk]at a1
   rw[gu q hq]at eq
   rw[e,e',show m'=m by omega]
  ·exact(sY ⟨fun e0=>(by rw[e0]at hk;cases hk),fun q hq=>by rw[gu q hq];exact(ha q hq).1⟩).elim
 ·rw[e]at h2;exact absurd rfl h2
theorem X4(hS:∀ i,S i→∀ k∈gt A.nx i,S k)(h:∀ i,S i→kK A v i)(h':∀ i,S i→kK A v' i):∀ i,S i→gt v i=gt v' i:=by
 have key:∀ N:Nat,(∀ m:Int,0≤m→m<N→∀ i,S i→(gt v i).1≠2→(gt v i).2=m→gt v' i=gt v i)∧(∀ m:Int,0≤m→m<N→∀ i,S i→(gt v' i).1≠2→(gt v' i).2=m→gt v i=gt v' i):=by
  intro N
  induction N with
  | zero=>exact⟨fun m _ _=>by omega,fun m _ _=>by omega⟩
  | succ N ih=>
   refine⟨fun m m0 m1=>?_,fun m m0 m1=>?_⟩
   ·exact Pr hS h h' (fun q q0 q1=>ih.1 q q0 (by omega)) (fun q q0 q1=>ih.2 q q0 (by omega))
   ·exact Pr hS h' h (fun q q0 q1=>ih.2 q q0 (by omega)) (fun q q0 q1=>ih.1 q q0 (by omega))
 intro i hi
 have n0:=(h i hi).n0
 have YE:=(h' i hi).n0
 by_cases e:(gt v i).1=2
 ·by_cases e':(gt v' i).1=2
  ·refine dH (by rw[e,e']) ?_
   have z:∀ {w:List eY},kK A w i→(gt w i).1=2→(gt w i).2=0:=fun{w} hw yf=>by
    rcases hw with⟨_,e⟩|⟨_,⟨n,_,e,_⟩|⟨n,_,e,_⟩|⟨e,_⟩⟩
    ·rw[e]
    ·rw[e]at yf;exact absurd yf (by simp)
    ·rw[e]at yf;exact absurd yf (by simp)
    ·rw[e]
   rw[z (h i hi) e,z (h' i hi) e']
  ·exact(key ((gt v' i).2.toNat+1)).2 _ YE (by omega) i hi e' rfl
 ·exact((key ((gt v i).2.toNat+1)).1 _ n0 (by omega) i hi e rfl).symm
end
noncomputable def lM(g:eU)(l:List Pos)(nx:List (List Int)):pr:=⟨fun i=>(stat g (gt l i)).2,fun i=>(stat g (gt l i)).1,nx⟩
end Go.Proofs.YtnaefnajkaohgaaGreatDoor
namespace Go.Proofs.YtnaefnajkaohgaaGreatDoor
open Go Go.AL Classical
theorem Rs{v:List eY}{b:List Bool}{x:List Int}:∀ n:Nat,n≤x.length→(∀ j:Nat,j<n→gt b (gt x (j:Int))=false∧(gt v (gt x (j:Int))).1=1)→(jC v b x n).1=n
 | 0,_,_=>rfl
 | n+1,hn,h=>by
  rw[jC,if_pos (h n (by omega))]
  have:=Rs (v:=v) (b:=b) (x:=x) n (by omega) fun j hj=>h j (by omega)
  dsimp only
  omega
theorem Rt{v:List eY}{b:List Bool}{x:List Int}:∀ n:Nat,(jC v b x n).1=n→∀ j:Nat,j<n→gt b (gt x (j:Int))=false∧(gt v (gt x (j:Int))).1=1
 | 0,_,j,hj=>by omega
 | n+1,h,j,hj=>by
  have fF:=Hu v b x n
  rw[jC]at h
  split at h
  ·rename_i hc
   dsimp only at h
   by_cases e:j=n
   ·subst e;exact hc
   ·exact Rt (v:=v) (b:=b) (x:=x) n (by omega) j (by omega)
  ·omega
theorem Lb{v:List eY}{b:List Bool}{x:List Int}:∀ n:Nat,(jC v b x n).1=n→∀ j:Nat,j<n→(gt v (gt x (j:Int))).2≤(jC v b x n).2
 | 0,_,j,hj=>by omega
 | n+1,h,j,hj=>by
  have fF:=Hu v b x n
  rw[jC]at h ⊢
  split at h
  ·rename_i hc
   rw[if_pos hc]
   dsimp only at h ⊢
   by_cases e:j=n
   ·subst e;omega
   ·have:=Lb (v:=v) (b:=b) (x:=x) n (by omega) j (by omega)
    omega
  ·omega
theorem Ki{x:List Int}{k:Int}:k∈x↔∃ j:Nat,j<x.length∧gt x (j:Int)=k:=by
 rw[qm]
 constructor
 ·rintro⟨n,n0,n1,e⟩
  exact⟨n.toNat,by omega,by rw[show((n.toNat:Nat):Int)=n by omega];exact e⟩
 ·rintro⟨j,hj,e⟩
  exact⟨j,by omega,by omega,e⟩
section
variable{g:eU}{l:List Pos}{nx:List (List Int)}{part:List Int}{bu:Int}
structure FI(g:eU)(l:List Pos)(nx:List (List Int))(part:List Int)(v0:List eY)(n:Int)(v:List eY)(b:List Bool):Prop where
 vl:v.length=l.length
 bl:b.length=l.length
 out:∀ k:Int,0≤k→k<l.length→k ∉ part→gt b k=false∧gt v k=gt v0 k
 dec:∀ i∈part,gt b i=false→(0≤(gt v i).2∧(gt v i).2<n)∧(((stat g (gt l i)).2=true∧gt v i=((stat g (gt l i)).1,0))∨((stat g (gt l i)).2=false∧(
  (∃ m,1≤m∧gt v i=(1,m)∧(∃ k∈gt nx i,gt b k=false∧gt v k=(3,m-1))∧∀ k∈gt nx i,gt b k=false→(gt v k).1=3→m-1≤(gt v k).2) ∨
  (∃ m,1≤m∧gt v i=(3,m)∧(∀ k∈gt nx i,gt b k=false∧(gt v k).1=1∧(gt v k).2≤m-1)∧∃ k∈gt nx i,(gt v k).2=m-1))))
 Bp:∀ i∈part,gt b i=true→0<n→(stat g (gt l i)).2=false∧(∀ k∈gt nx i,gt b k=false→(gt v k).1=3→n-1≤(gt v k).2) ∧
  (gt nx i≠[]→(∀ k∈gt nx i,gt b k=false∧(gt v k).1=1)→∃ k∈gt nx i,n-1≤(gt v k).2)
theorem FI.step(o:lx g l nx part bu){v0:List eY}(h0:∀ k:Int,0≤k→k<l.length→0≤(gt v0 k).2){n:Int}(n0:0≤n){v:List eY}{b:List Bool}(h:FI g l nx part v0 n v b):FI g l nx part v0 (n+1) (rV g l nx part v b n) (rB g l nx part v b n):=by
 have hV:=fun{k:Int} (k0:0≤k) (k1:k<l.length)=>xI o h.vl h.bl (n:=n) k0 k1
 have hB:=fun{k:Int} (k0:0≤k) (k1:k<l.length)=>vH o (v:=v) h.bl (n:=n) k0 k1
 have fF:∀ i∈part,∀ k∈gt nx i,0≤k∧k<l.length:=fun i hi k hk=>(o.yv i (o.prt i hi).1 (o.prt i hi).2).1 k hk
 have hd:∀ k,k∈mA g l nx part v b n↔k∈part∧(jI g (gt l k) v b (gt nx k) n).2=true∧gt b k=true:=fun k=>by
  unfold mA kC
  rw[aK,ah]
 have kT:∀ k,k∈mA g l nx part v b n→(oD g l nx v b n k).2=n:=fun k hk=>by
  unfold oD jI
  split
  ·rename_i e;rw[e]
  ·split<;>rfl
 have hold:∀ k:Int,0≤k→k<l.length→gt b k=false→gt (rB g l nx part v b n) k=false∧gt (rV g l nx part v b n) k=gt v k:=fun k k0 k1 e=>by
  have hn:k ∉ mA g l nx part v b n:=fun hm=>by rw[((hd k).1 hm).2.2]at e;cases e
  rw[hV k0 k1,hB k0 k1,if_neg hn,if_neg hn]
  exact⟨e,rfl⟩
 have AQ:∀ k:Int,0≤k→k<l.length→gt (rB g l nx part v b n) k=false→(gt b k=false∧gt (rV g l nx part v b n) k=gt v k)∨(k∈mA g l nx part v b n∧(gt (rV g l nx part v b n) k).2=n):=fun k k0 k1 e=>by
  by_cases hm:k∈mA g l nx part v b n
  ·right
   rw[hV k0 k1,if_pos hm]
   exact⟨hm,kT k hm⟩
  ·left
   rw[hB k0 k1,if_neg hm]at e
   rw[hV k0 k1,if_neg hm]
   exact⟨e,rfl⟩
 have sX:∀ k:Int,0≤k→k<l.length→gt b k=false→0≤(gt v k).2:=fun k k0 k1 e=>by
  by_cases hp:k∈part
  ·exact(h.dec k hp e).1.1
  ·rw[(h.out k k0 k1 hp).2];exact h0 k k0 k1
 refine⟨yD o h.vl h.bl,yC o h.bl,fun k k0 k1 hk=>?_,fun i hi e=>?_,fun i hi e _=>?_⟩
 ·obtain⟨a,c⟩:=h.out k k0 k1 hk
  obtain⟨a',c'⟩:=hold k k0 k1 a
  exact⟨a',c'.trans c⟩
 ·obtain⟨i0,i1⟩:=o.prt i hi
  rcases AQ i i0 i1 e with⟨e1,e2⟩|⟨hm,ajI⟩
  ·obtain⟨hr,hc⟩:=h.dec i hi e1
   rw[e2]
   refine⟨⟨hr.1,by omega⟩,?_⟩
   rcases hc with⟨c1,c2⟩|⟨c1,⟨m,m1,c2,⟨k,hk,c3,c4⟩,c5⟩|⟨m,m1,c2,c3,k,hk,c4⟩⟩
   ·exact .inl ⟨c1,c2⟩
   ·refine .inr ⟨c1,.inl ⟨m,m1,c2,⟨k,hk,?_⟩,fun q hq a1 a2=>?_⟩⟩
    ·have:=hold k (fF i hi k hk).1 (fF i hi k hk).2 c3
     exact⟨this.1,this.2.trans c4⟩
    ·rcases AQ q (fF i hi q hq).1 (fF i hi q hq).2 a1 with⟨b1,b2⟩|⟨_,b2⟩
     ·rw[b2]at a2 ⊢;exact c5 q hq b1 a2
     ·rw[c2]at hr
      dsimp only at hr
      omega
   ·refine .inr ⟨c1,.inr ⟨m,m1,c2,fun q hq=>?_,k,hk,?_⟩⟩
    ·obtain⟨d1,d2,d3⟩:=c3 q hq
     have:=hold q (fF i hi q hq).1 (fF i hi q hq).2 d1
     rw[this.2]
     exact⟨this.1,d2,d3⟩
    ·rw[(hold k (fF i hi k hk).1 (fF i hi k hk).2 (c3 k hk).1).2];exact c4
  ·obtain⟨_,h2,h3⟩:=(hd i).1 hm
   refine⟨by omega,?_⟩
   have hv:gt (rV g l nx part v b n) i=(jI g (gt l i) v b (gt nx i) n).1:=by rw[hV i0 i1,if_pos hm];rfl
   rw[hv]
   by_cases e0:n=0
   ·subst e0
    unfold jI at h2 ⊢
    rw[if_pos rfl]at h2 ⊢
    exact .inl ⟨h2,rfl⟩
   ·obtain⟨p1,p2,p3⟩:=h.Bp i hi h3 (by omega)
    refine .inr ⟨p1,?_⟩
    unfold jI at h2 ⊢
    rw[if_neg e0]at h2 ⊢
    by_cases hl:qU v b (gt nx i) n
    ·rw[if_pos hl]
     obtain⟨k,hk,c3,c4⟩:=hl
     refine .inl ⟨n,by omega,rfl,⟨k,hk,?_⟩,fun q hq a1 a2=>?_⟩
     ·have:=hold k (fF i hi k hk).1 (fF i hi k hk).2 c3
      exact⟨this.1,this.2.trans c4⟩
     ·rcases AQ q (fF i hi q hq).1 (fF i hi q hq).2 a1 with⟨b1,b2⟩|⟨_,b2⟩
      ·rw[b2]at a2 ⊢;exact p2 q hq b1 a2
      ·omega
    ·rw[if_neg hl]at h2 ⊢
     simp only[decide_eq_true_eq]at h2
     obtain⟨w0,w1,w2⟩:=h2
     have hc:=Rt _ w1
     have hg:=Lb _ w1
     refine .inr ⟨n,by omega,rfl,fun q hq=>?_,?_⟩
     ·obtain⟨j,hj,rfl⟩:=Ki.1 hq
      have hb:=hold _ (fF i hi _ hq).1 (fF i hi _ hq).2 (hc j hj).1
      have:=hg j hj
      rw[hb.2]
      exact⟨hb.1,(hc j hj).2,by omega⟩
     ·rcases B7 v b (gt nx i) (gt nx i).length (Nat.le_refl _)with e1|⟨q,hq,q1,q2,q3⟩
      ·omega
      ·refine⟨q,hq,?_⟩
       rw[(hold q (fF i hi q hq).1 (fF i hi q hq).2 q1).2]
       omega
 ·obtain⟨i0,i1⟩:=o.prt i hi
  have lE:i ∉ mA g l nx part v b n:=fun hm=>by
   rw[hB i0 i1,if_pos hm]at e;cases e
  rw[hB i0 i1,if_neg lE]at e
  have jS:(jI g (gt l i) v b (gt nx i) n).2=false:=by
   by_cases hx:(jI g (gt l i) v b (gt nx i) n).2=true
   ·exact absurd ((hd i).2 ⟨hi,hx,e⟩) lE
   ·simpa using hx
  have Jp:(stat g (gt l i)).2=false:=by
   by_cases e0:n=0
   ·unfold jI at jS
    rw[if_pos e0]at jS
    exact jS
   ·exact(h.Bp i hi e (by omega)).1
  have mG:n≠0→¬ qU v b (gt nx i) n:=fun e0 hl=>by
   unfold jI at jS
   rw[if_neg e0,if_pos hl]at jS
   cases jS
  refine⟨Jp,fun k hk a1 a2=>?_,fun gd ha=>?_⟩
  ·rcases AQ k (fF i hi k hk).1 (fF i hi k hk).2 a1 with⟨b1,b2⟩|⟨_,b2⟩
   ·rw[b2]at a2 ⊢
    by_cases e0:n=0
    ·have:=sX k (fF i hi k hk).1 (fF i hi k hk).2 b1
     omega
    ·have h1:=(h.Bp i hi e (by omega)).2.1 k hk b1 a2
     have h2:(gt v k).2≠n-1:=fun h3=>mG e0 ⟨k,hk,b1,dH a2 h3⟩
     omega
   ·omega
  ·by_cases hx:∃ k∈gt nx i,n≤(gt (rV g l nx part v b n) k).2
   ·obtain⟨k,hk,hx⟩:=hx
    exact⟨k,hk,by omega⟩
   ·exfalso
    have ft:∀ k∈gt nx i,gt b k=false∧(gt v k).1=1∧(gt v k).2<n:=fun k hk=>by
     have h1:¬ n≤(gt (rV g l nx part v b n) k).2:=fun h2=>hx ⟨k,hk,h2⟩
     obtain⟨a1,a2⟩:=ha k hk
     rcases AQ k (fF i hi k hk).1 (fF i hi k hk).2 a1 with⟨b1,b2⟩|⟨_,b2⟩
     ·rw[b2]at a2 h1
      exact⟨b1,a2,by omega⟩
     ·omega
    have jr:0<(gt nx i).length:=az.2 gd
    by_cases e0:n=0
    ·have hk:=ff (l:=gt nx i) (n:=0) (by omega) (by omega)
     have h1:=ft _ hk
     have h2:=sX _ (fF i hi _ hk).1 (fF i hi _ hk).2 h1.1
     omega
    ·obtain⟨k,hk,h1⟩:=(h.Bp i hi e (by omega)).2.2 gd fun k hk=>⟨(ft k hk).1,(ft k hk).2.1⟩
     have w1:=Rs (v:=v) (b:=b) (x:=gt nx i) _ (Nat.le_refl _) fun j hj=>by
      have:=ft _ (Ki.2 ⟨j,hj,rfl⟩)
      exact⟨this.1,this.2.1⟩
     have w2:(jC v b (gt nx i) (gt nx i).length).2=n-1:=by
      obtain⟨j,hj,rfl⟩:=Ki.1 hk
      have g1:=Lb _ w1 j hj
      rcases B7 v b (gt nx i) (gt nx i).length (Nat.le_refl _)with e1|⟨q,hq,_,_,q3⟩
      ·have:=sX _ (fF i hi _ hk).1 (fF i hi _ hk).2 (ft _ hk).1
       omega
      ·have:=(ft q hq).2.2
       omega
     unfold jI at jS
     rw[if_neg e0,if_neg (mG e0)]at jS
     simp only[decide_eq_false_iff_not]at jS
     exact jS ⟨by omega,w1,w2⟩
end
end Go.Proofs.YtnaefnajkaohgaaGreatDoor
namespace Go.Proofs.YtnaefnajkaohgaaGreatDoor
open Go Go.AL Classical
section
variable{g:eU}{l:List Pos}{nx:List (List Int)}{part:List Int}{bu:Int}
theorem FI.iR(o:lx g l nx part bu)(iF:Int){v0:List eY}(h0:∀ k:Int,0≤k→k<l.length→0≤(gt v0 k).2):∀ (f:Nat) (n:Int) (v:List eY) (b:List Bool) (t:Int),0≤n→n≤4000→n+f=4001→tB l.length v b→FI g l nx part v0 n v b →
  ∃ n',0<n'∧FI g l nx part v0 n' (iR g l nx part iF f n v b t).2.1 (iR g l nx part iF f n v b t).2.2 ∧
   ∀ k:Int,0≤k→k<l.length→gt (iR g l nx part iF f n v b t).2.2 k=false→(gt (iR g l nx part iF f n v b t).2.1 k).1≠2→(gt (iR g l nx part iF f n v b t).2.1 k).2<n'-1
 | 0,n,v,b,t,n0,n1,hf,_,_=>by omega
 | f+1,n,v,b,t,n0,n1,hf,hc,hi=>by
  have hs:=hi.step o h0 n0
  have mC:=hc.round o n0
  have gT:=hi.vl
  rw[Go.Proofs.YtnaefnajkaohgaaGreatDoor.iR]
  generalize rV g l nx part v b n=V at *
  generalize rB g l nx part v b n=B at *
  split
  ·exact FI.iR o iF h0 f (n+1) V B _ (by omega) (by omega) (by omega) mC hs
  ·rename_i Fx
   refine⟨n+1,by omega,hs,fun k k0 k1 e e2=>?_⟩
   have h1:=Fk V B v.length k k0 (by rw[gT];exact k1) e e2
   have h2:=mC.lC
   have h3:=o.len
   rw[mC.vl,← gT]at h2
   dsimp only at h1 ⊢
   omega
theorem TR(o:lx g l nx part bu){v0 V:List eY}{B:List Bool}{n:Int}(n0:0<n)(hf:FI g l nx part v0 n V B)
  (hq:∀ k:Int,0≤k→k<l.length→gt B k=false→(gt V k).1≠2→(gt V k).2<n-1):∀ i∈part,kK (lM g l nx) (kP part V B).1 i:=by
 obtain⟨_,f2⟩:=z8 o hf.vl hf.bl
 have fF:∀ i∈part,∀ k∈gt nx i,0≤k∧k<l.length:=fun i hi k hk=>(o.yv i (o.prt i hi).1 (o.prt i hi).2).1 k hk
 have hk:∀ k:Int,0≤k→k<l.length→gt B k=false→gt (kP part V B).1 k=gt V k:=fun k k0 k1 e=>by
  rw[(f2 k k0 k1).1,if_neg fun h=>by rw[e]at h;exact absurd h.2 (by simp)]
 have hs:∀ k:Int,0≤k→k<l.length→(gt (kP part V B).1 k).1≠2→gt B k=false:=fun k k0 k1 e=>by
  by_cases hp:k∈part
  ·by_cases um:gt B k=true
   ·rw[(f2 k k0 k1).1,if_pos ⟨hp,um⟩]at e
    exact absurd rfl e
   ·simpa using um
  ·exact(hf.out k k0 k1 hp).1
 intro i hi
 obtain⟨i0,i1⟩:=o.prt i hi
 by_cases e:gt B i=true
 ·obtain⟨p1,p2,p3⟩:=hf.Bp i hi e n0
  refine .inr ⟨p1,.inr (.inr ⟨by rw[(f2 i i0 i1).1,if_pos ⟨hi,e⟩],fun k ie e3=>?_,fun⟨gd,ha⟩=>?_⟩)⟩
  ·obtain⟨k0,k1⟩:=fF i hi k ie
   have e4:=hs k k0 k1 (by omega)
   rw[hk k k0 k1 e4]at e3
   have h1:=p2 k ie e4 e3
   have h2:=hq k k0 k1 e4 (by omega)
   omega
  ·obtain⟨k,ie,h1⟩:=p3 gd fun k ie=>by
    obtain⟨k0,k1⟩:=fF i hi k ie
    have e3:=ha k ie
    have e4:=hs k k0 k1 (by omega)
    rw[hk k k0 k1 e4]at e3
    exact⟨e4,e3⟩
   obtain⟨k0,k1⟩:=fF i hi k ie
   have e3:=ha k ie
   have e4:=hs k k0 k1 (by omega)
   rw[hk k k0 k1 e4]at e3
   have h2:=hq k k0 k1 e4 (by omega)
   omega
 ·have e':gt B i=false:=by simpa using e
  rcases(hf.dec i hi e').2 with⟨c1,c2⟩|⟨c1,⟨m,J9,c2,⟨k,ie,c3,c4⟩,c5⟩|⟨m,J9,c2,c3,k,ie,c4⟩⟩
  ·exact .inl ⟨c1,by rw[hk i i0 i1 e'];exact c2⟩
  ·refine .inr ⟨c1,.inl ⟨m,J9,by rw[hk i i0 i1 e'];exact c2,⟨k,ie,by rw[hk k (fF i hi k ie).1 (fF i hi k ie).2 c3];exact c4⟩,fun q x6 e3=>?_⟩⟩
   obtain⟨q0,q1⟩:=fF i hi q x6
   have e4:=hs q q0 q1 (by omega)
   rw[hk q q0 q1 e4]at e3 ⊢
   exact c5 q x6 e4 e3
  ·refine .inr ⟨c1,.inr (.inl ⟨m,J9,by rw[hk i i0 i1 e'];exact c2,fun q x6=>?_,k,ie,?_⟩)⟩
   ·obtain⟨d1,d2⟩:=c3 q x6
    rw[hk q (fF i hi q x6).1 (fF i hi q x6).2 d1]
    exact d2
   ·rw[hk k (fF i hi k ie).1 (fF i hi k ie).2 (c3 k ie).1];exact c4
theorem TU(o:lx g l nx part bu)(iF:Int){v:List eY}(h0:∀ k:Int,0≤k→k<l.length→0≤(gt v k).2)(hc:tB l.length v (jk (rep l.length) (fun _=>true) part)) :
  ∀ i∈part,kK (lM g l nx) (jJ g l nx part iF v (rep l.length)).2.1 i:=by
 have hb:=tm l.length
 obtain⟨m1,m2⟩:=Bf o hb
 have Vb:FI g l nx part v 0 v (jk (rep l.length) (fun _=>true) part):=⟨hc.vl,m1,fun k k0 k1 hk=>⟨by rw[m2 k k0 k1,if_neg hk];exact vI k0 (by omega),rfl⟩,fun i hi e=>by
  (rw[m2 i (o.prt i hi).1 (o.prt i hi).2,if_pos hi]at e;exact absurd e (by simp)),fun i hi e h=>by omega⟩
 obtain⟨n,n0,hf,hq⟩:=FI.iR o iF h0 4001 0 v _ 0 (by omega) (by omega) (by omega) hc Vb
 unfold jJ
 exact TR o n0 hf hq
end
section
variable{g:eU}{l:List Pos}{m:List Int}
noncomputable def pf(m:List Int)(l:List Pos)(n:Int)(v:List eY):List eY:=(upto l.length).map fun k=>if fY m (gt l k)<n then gt v k else(2,0)
theorem Pt(n:Int)(v:List eY):(pf m l n v).length=l.length:=by simp[pf,upto]
theorem Ad{n:Int}{v:List eY}{k:Int}(k0:0≤k)(k1:k<l.length):gt (pf m l n v) k=if fY m (gt l k)<n then gt v k else(2,0):=by
 have h1:k<(pf m l n v).length:=by rw[Pt];exact k1
 rw[nu k0 h1]
 unfold pf upto
 rw[c9,c9,List.getElem_range,show((k.toNat:Nat):Int)=k by omega]
theorem ad1(hg:fr g)(hv:pX g m)(hc:mQ g l){bu:Int}(hb:1≤bu∧bu≤9223372036854775807){n:Int}(hn:n∈lH m l){v:List eY}(e:v.length=l.length)
  (h:∀ i:Int,0≤i→i<l.length→fY m (gt l i)<n→kK (lM g l (fE g l)) v i) :
  ∀ i:Int,0≤i→i<l.length→fY m (gt l i)≤n→kK (lM g l (fE g l)) (jJ g l (fE g l) (kO m l n) bu v (rep l.length)).2.1 i:=by
 have o:=xF hg hc hb (ao.2 ⟨n,hn,rfl⟩:kO m l n∈lA m l)
 obtain⟨m1,m2⟩:=Bf o (tm l.length)
 have l4:∀ i:Int,0≤i→i<l.length→∀ k∈gt (fE g l) i,0≤k∧k<l.length:=fun i i0 i1=>(r8 hc i0 i1).2
 have pa:=fun{i:Int} (i0:0≤i) (i1:i<l.length)=>PY hg hv hc i0 i1
 have hw:=Pt (m:=m) (l:=l) n v
 have FJ:∀ k:Int,k∈kO m l n↔(0≤k∧k<l.length)∧fY m (gt l k)=n:=fun k=>wB
 have Ji:∀ i:Int,0≤i→i<l.length→fY m (gt l i)<n→kK (lM g l (fE g l)) (pf m l n v) i:=fun i i0 i1 hi=>by
  have hk:∀ k∈gt (fE g l) i,gt (pf m l n v) k=gt v k:=fun k hk=>by
   have:=pa i0 i1 k hk
   rw[Ad (l4 i i0 i1 k hk).1 (l4 i i0 i1 k hk).2,if_pos (by omega)]
  have l3:gt (pf m l n v) i=gt v i:=by rw[Ad i0 i1,if_pos hi]
  exact(h i i0 i1 hi).congr l3 hk
 have Jk:∀ k:Int,0≤k→k<l.length→0≤(gt (pf m l n v) k).2:=fun k k0 k1=>by
  by_cases hk:fY m (gt l k)<n
  ·exact(Ji k k0 k1 hk).n0
  ·rw[Ad k0 k1,if_neg hk];simp
 have UX:tB l.length (pf m l n v) (jk (rep l.length) (fun _=>true) (kO m l n)):=⟨hw,m1,fun i i0 i1 eb e2=>by
  have hi:fY m (gt l i)<n:=by
   by_cases hi:fY m (gt l i)<n
   ·exact hi
   ·rw[Ad i0 i1,if_neg hi]at e2;exact absurd rfl e2
  have OW:∀ k∈gt (fE g l) i,gt (jk (rep l.length) (fun _=>true) (kO m l n)) k=false:=fun k hk=>by
   have:=pa i0 i1 k hk
   rw[m2 k (l4 i i0 i1 k hk).1 (l4 i i0 i1 k hk).2,if_neg fun hm=>by have:=((FJ k).1 hm).2;omega]
   exact vI (l4 i i0 i1 k hk).1 (by have:=(l4 i i0 i1 k hk).2;omega)
  rcases Ji i i0 i1 hi with⟨c1,c2⟩|⟨c1,⟨q,q1,c2,⟨k,ie,c3⟩,c4⟩|⟨q,q1,c2,c3,k,ie,c4⟩|⟨c2,c3,c4⟩⟩
  ·rw[c2];exact⟨by simp,fun h=>by simp at h⟩
  ·refine⟨by rw[c2];dsimp only;omega,fun _=>⟨k,(l4 i i0 i1 k ie).1,(l4 i i0 i1 k ie).2,OW k ie,by rw[c3];simp,by rw[c3,c2]⟩⟩
  ·refine⟨by rw[c2];dsimp only;omega,fun _=>⟨k,(l4 i i0 i1 k ie).1,(l4 i i0 i1 k ie).2,OW k ie,by rw[(c3 k ie).1];simp,by rw[c4,c2]⟩⟩
  ·rw[c2]at e2;exact absurd rfl e2⟩
 have h1:=TU o bu Jk UX
 have ho:=tZ o bu hw (tm l.length)
 have NU:=No o (QW hg hv hc n) bu e hw fun k k0 k1 hk rM=>by
  rw[Ad k0 k1,if_pos]
  have:fY m (gt l k)≠n:=fun e=>rM ((FJ k).2 ⟨⟨k0,k1⟩,e⟩)
  omega
 have gu:∀ i:Int,0≤i→i<l.length→fY m (gt l i)≤n→kK (lM g l (fE g l)) (jJ g l (fE g l) (kO m l n) bu (pf m l n v) (rep l.length)).2.1 i:=fun i i0 i1 hi=>by
  by_cases hp:i∈kO m l n
  ·exact h1 i hp
  ·have ka:fY m (gt l i)<n:=by
    have:fY m (gt l i)≠n:=fun e=>hp ((FJ i).2 ⟨⟨i0,i1⟩,e⟩)
    omega
   have hk:∀ k∈gt (fE g l) i,gt (jJ g l (fE g l) (kO m l n) bu (pf m l n v) (rep l.length)).2.1 k=gt (pf m l n v) k:=fun k hk=>by
    have:=pa i0 i1 k hk
    exact(ho.2 k (l4 i i0 i1 k hk).1 (l4 i i0 i1 k hk).2 fun hm=>by have:=((FJ k).1 hm).2;omega).1
   have l3:=(ho.2 i i0 i1 hp).1
   exact(Ji i i0 i1 ka).congr l3 hk
 intro i i0 i1 hi
 have hk:∀ k∈gt (fE g l) i,gt (jJ g l (fE g l) (kO m l n) bu v (rep l.length)).2.1 k=gt (jJ g l (fE g l) (kO m l n) bu (pf m l n v) (rep l.length)).2.1 k:=fun k hk=>by
  have:=pa i0 i1 k hk
  exact NU k (l4 i i0 i1 k hk).1 (l4 i i0 i1 k hk).2 (by omega)
 have l3:=NU i i0 i1 hi
 exact(gu i i0 i1 hi).congr l3 hk
end
end Go.Proofs.YtnaefnajkaohgaaGreatDoor
namespace Go.Proofs.YtnaefnajkaohgaaGreatDoor
open Go Go.AL Classical
section
variable{g:eU}{l:List Pos}{m:List Int}
theorem Nr(hg:fr g)(hv:pX g m)(hc:mQ g l){bu:Int}(hb:1≤bu∧bu≤9223372036854775807):∀ (ns:List Int),px ns→(∀ n∈ns,n∈lH m l)→∀ (v:List eY),v.length=l.length →
  (∀ k:Int,0≤k→k<l.length→fY m (gt l k) ∉ ns→(∀ n∈ns,fY m (gt l k)<n)∧kK (lM g l (fE g l)) v k) →
  ∀ k:Int,0≤k→k<l.length→kK (lM g l (fE g l)) (rD g l bu (ns.map (kO m l)) v) k
 | [],_,_,v,_,h=>fun k k0 k1=>(h k k0 k1 (by simp)).2
 | n::ns,hs,hm,v,e,h=>by
  obtain⟨s1,s2⟩:=aJ.1 hs
  have o:=xF hg hc hb (ao.2 ⟨n,hm n (by simp),rfl⟩:kO m l n∈lA m l)
  have mG:=ad1 hg hv hc hb (hm n (by simp)) e fun i i0 i1 hi=>(h i i0 i1 fun kb=>by
   rcases aq.1 kb with h1|h1
   ·omega
   ·have:=s1 _ h1;omega).2
  rw[List.map_cons,rD]
  refine Nr hg hv hc hb ns s2 (fun x hx=>hm x (by simp[hx])) _ (tZ o bu e (tm _)).1.1 fun k k0 k1 hk=>?_
  by_cases hn:fY m (gt l k)=n
  ·exact⟨fun x hx=>by rw[hn];exact s1 x hx,mG k k0 k1 (by omega)⟩
  ·have h2:=h k k0 k1 (by simp[hn,hk])
   have h3:=h2.1 n (by simp)
   exact⟨fun x hx=>h2.1 x (by simp[hx]),mG k k0 k1 (by omega)⟩
theorem Yd(hg:fr g)(hv:pX g m)(hc:mQ g l){bu:Int}(hb:1≤bu∧bu≤9223372036854775807):∀ k:Int,0≤k→k<l.length→kK (lM g l (fE g l)) (pN g l m bu).2.1 k:=by
 rw[← TW hg hv hc hb (v:=List.replicate l.length (2,0)) (by simp)]
 exact Nr hg hv hc hb (lH m l) (wX _) (fun n hn=>hn) _ (by simp) fun k k0 k1 hk=>absurd (Gt.2 ⟨k,k0,k1,rfl⟩) hk
theorem X3(hc:mQ g l){v v':List eY}(e:v.length=l.length)(e':v'.length=l.length)(h:∀ k:Int,0≤k→k<l.length→kK (lM g l (fE g l)) v k)(h':∀ k:Int,0≤k→k<l.length→kK (lM g l (fE g l)) v' k):v=v':=
 Ac (e.trans e'.symm) fun j j0 j1=>X4 (A:=lM g l (fE g l)) (S:=fun i=>0≤i∧i<l.length) (fun i hi k hk=>(r8 hc hi.1 hi.2).2 k hk) (fun i hi=>h i hi.1 hi.2) (fun i hi=>h' i hi.1 hi.2) j ⟨j0,by omega⟩
