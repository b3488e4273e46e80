/- Part 39 of the proof of skewer.skewerlaw15.TableValues. -/
import Derived.Test.YtnaefnajkaohgaaGreatDoorE37
import Derived.Test.YtnaefnajkaohgaaGreatDoorE38
import Derived.Test.YtnaefnajkaohgaaGreatDoorE26
import Derived.Test.YtnaefnajkaohgaaGreatDoorE14
set_option linter.all false
namespace Go.Proofs.YtnaefnajkaohgaaGreatDoor
open Go Go.AL Classical
section
variable{g:eU}{l:List Pos}{nx:List (List Int)}{part:List Int}
end
structure tB(L:Nat)(v:List eY)(b:List Bool):Prop where
 vl:v.length=L
 bl:b.length=L
 n:∀ i:Int,0≤i→i<L→gt b i=false→(gt v i).1≠2→0≤(gt v i).2∧(0<(gt v i).2→∃ j:Int,0≤j∧j<L∧gt b j=false∧(gt v j).1≠2∧(gt v j).2=(gt v i).2-1)
theorem NK(v:List eY)(b:List Bool):∀ k:Nat,lC v b k = -1∨∃ i:Int,0≤i∧i<k∧gt b i=false∧(gt v i).1≠2∧(gt v i).2=lC v b k
 | 0=>.inl rfl
 | k+1=>by
  have ih:=NK v b k
  rw[lC]
  split
  ·rename_i h
   rcases Int.le_total (lC v b k) (gt v (k:Int)).2 with h2|h2
   ·refine .inr ⟨k,by omega,by omega,h.1,h.2,?_⟩
    rw[Int.max_eq_right h2]
   ·rw[Int.max_eq_left h2]
    rcases ih with h3|⟨i,h3,h4,h5⟩
    ·exact .inl h3
    ·exact .inr ⟨i,h3,by omega,h5⟩
  ·rcases ih with h3|⟨i,h3,h4,h5⟩
   ·exact .inl h3
   ·exact .inr ⟨i,h3,by omega,h5⟩
theorem aez{L:Nat}{f:Int→Int}(K:Nat)(h:∀ m:Nat,m<K→∃ i:Int,0≤i∧i<L∧f i=m):K≤L:=by
 have key:∀ k:Nat,k≤K→∃ xs:List Int,xs.length=k∧xs.Nodup∧∀ x∈xs,(0≤x∧x<L)∧f x<k:=by
  intro k
  induction k with
  | zero=>exact fun _=>⟨[],rfl,.nil,by simp⟩
  | succ k ih=>
   intro hk
   obtain⟨xs,h1,h2,h3⟩:=ih (by omega)
   obtain⟨i,i0,i1,e⟩:=h k (by omega)
   refine⟨i::xs,by simp[h1],ct.2 ⟨fun hm=>by have:=(h3 i hm).2;omega,h2⟩,fun x hx=>?_⟩
   rcases aq.1 hx with rfl|hx
   ·exact⟨⟨i0,i1⟩,by omega⟩
   ·have:=h3 x hx;exact⟨this.1,by omega⟩
 obtain⟨xs,h1,h2,h3⟩:=key K (Nat.le_refl _)
 have:=uL L xs h2 fun y hy=>(h3 y hy).1
 omega
theorem tB.lC{L:Nat}{v:List eY}{b:List Bool}(h:tB L v b):lC v b v.length<L∨lC v b v.length = -1:=by
 have hv:=h.vl
 rcases NK v b v.length with e|⟨i,i0,i1,i2,i3,i4⟩
 ·exact .inr e
 ·left
  have hn:=(h.n i i0 (by omega) i2 i3).1
  rw[i4]at hn
  generalize Go.Proofs.YtnaefnajkaohgaaGreatDoor.lC v b v.length=N at *
  have all:∀ k:Nat,(k:Int)≤N→∃ j:Int,0≤j∧j<L∧gt b j=false∧(gt v j).1≠2∧(gt v j).2=N-k:=by
   intro k
   induction k with
   | zero=>exact fun _=>⟨i,i0,by omega,i2,i3,by omega⟩
   | succ k ih=>
    intro hk
    obtain⟨j,j0,j1,j2,j3,j4⟩:=ih (by omega)
    obtain⟨j',h0,h1,h2,h3,h4⟩:=(h.n j j0 j1 j2 j3).2 (by omega)
    exact⟨j',h0,h1,h2,h3,by omega⟩
  have:=aez (L:=L) (f:=fun j=>(gt v j).2) (N.toNat+1) fun m hm=>by
   obtain⟨j,j0,j1,_,_,j4⟩:=all (N.toNat-m) (by omega)
   exact⟨j,j0,j1,by omega⟩
  omega
theorem B7(v:List eY)(b:List Bool)(x:List Int):∀ k:Nat,k≤x.length→(jC v b x k).2 = -1∨∃ j∈x,gt b j=false∧(gt v j).1=1∧(gt v j).2=(jC v b x k).2
 | 0,_=>.inl rfl
 | k+1,hk=>by
  have ih:=B7 v b x k (by omega)
  have hm:gt x (k:Int)∈x:=ff (by omega) (by omega)
  rw[jC]
  split
  ·rename_i h
   dsimp only
   rcases Int.le_total (jC v b x k).2 (gt v (gt x (k:Int))).2 with h2|h2
   ·rw[Int.max_eq_right h2];exact .inr ⟨_,hm,h.1,h.2,rfl⟩
   ·rw[Int.max_eq_left h2];exact ih
  ·exact ih
section
variable{g:eU}{l:List Pos}{nx:List (List Int)}{part:List Int}{bu:Int}
theorem ET(o:lx g l nx part bu){v:List eY}{b:List Bool}(hb:b.length=l.length){n:Int}:∀ i∈mA g l nx part v b n,0≤i∧i<b.length:=fun i hi=>by rw[hb];exact o.prt i (EU hi)
theorem yD(o:lx g l nx part bu){v:List eY}{b:List Bool}(hv:v.length=l.length)(hb:b.length=l.length){n:Int}:(rV g l nx part v b n).length=l.length:=by
 unfold rV
 rw[oP _ _ _ (by rw[hv,← hb];exact ET o hb),hv]
theorem yC(o:lx g l nx part bu){v:List eY}{b:List Bool}(hb:b.length=l.length){n:Int}:(rB g l nx part v b n).length=l.length:=by
 unfold rB
 rw[oP _ _ _ (ET o hb),hb]
theorem xI(o:lx g l nx part bu){v:List eY}{b:List Bool}(hv:v.length=l.length)(hb:b.length=l.length){n j:Int}(j0:0≤j)(j1:j<l.length):gt (rV g l nx part v b n) j=if j∈mA g l nx part v b n then oD g l nx v b n j else gt v j:=
 sM _ _ _ (by rw[hv,← hb];exact ET o hb) j j0 (by omega)
theorem vH(o:lx g l nx part bu){v:List eY}{b:List Bool}(hb:b.length=l.length){n j:Int}(j0:0≤j)(j1:j<l.length):gt (rB g l nx part v b n) j=if j∈mA g l nx part v b n then false else gt b j:=
 sM _ _ _ (ET o hb) j j0 (by omega)
theorem tB.round(o:lx g l nx part bu){v:List eY}{b:List Bool}(h:tB l.length v b){n:Int}(n0:0≤n):tB l.length (rV g l nx part v b n) (rB g l nx part v b n):=by
 have hv:=h.vl
 have hb:=h.bl
 have mZ:∀ j:Int,0≤j→j<l.length→gt b j=false→(gt v j).1≠2→gt (rB g l nx part v b n) j=false∧gt (rV g l nx part v b n) j=gt v j:=fun j j0 j1 e _=>by
  have hn:j ∉ mA g l nx part v b n:=fun hm=>by
   have:=(aK.1 hm).2
   unfold kC at this
   rw[e]at this
   simp at this
  rw[vH o hb j0 j1,xI o hv hb j0 j1,if_neg hn,if_neg hn]
  exact⟨e,rfl⟩
 refine⟨yD o hv hb,yC o hb,fun i i0 i1 IX wk=>?_⟩
 rw[vH o hb i0 i1]at IX
 rw[xI o hv hb i0 i1]at wk ⊢
 by_cases hm:i∈mA g l nx part v b n
 ·rw[if_pos hm]at wk ⊢
  have eX:=(aK.1 hm).2
  have hx:=o.yv i i0 i1
  unfold kC at eX
  unfold oD at wk ⊢
  by_cases hz:n=0
  ·have:(jI g (gt l i) v b (gt nx i) n).1.2=0:=by simp[jI,hz]
   exact⟨by omega,fun hp=>by omega⟩
  ·by_cases hl:qU v b (gt nx i) n
   ·have e:(jI g (gt l i) v b (gt nx i) n).1=(1,n):=by simp[jI,hz,hl]
    rw[e]
    refine⟨by dsimp only;omega,fun _=>?_⟩
    obtain⟨k,hk,k1,k2⟩:=hl
    obtain⟨k3,k4⟩:=hx.1 k hk
    have h2:(gt v k).1≠2:=by rw[k2];simp
    obtain⟨a1,a2⟩:=mZ k k3 k4 k1 h2
    exact⟨k,k3,k4,a1,by rw[a2];exact h2,by rw[a2,k2]⟩
   ·have e:(jI g (gt l i) v b (gt nx i) n).1=(3,n):=by simp[jI,hz,hl]
    have e2:(jI g (gt l i) v b (gt nx i) n).2=decide (0<(gt nx i).length∧(jC v b (gt nx i) (gt nx i).length).1=(gt nx i).length∧(jC v b (gt nx i) (gt nx i).length).2=n-1):=by simp[jI,hz,hl]
    rw[e2]at eX
    have eX:=of_decide_eq_true (ah _ _▸eX:_∧_).1
    rw[e]
    refine⟨by dsimp only;omega,fun _=>?_⟩
    rcases B7 v b (gt nx i) (gt nx i).length (Nat.le_refl _)with h1|⟨k,hk,k1,k5,k6⟩
    ·omega
    ·obtain⟨k3,k4⟩:=hx.1 k hk
     have h2:(gt v k).1≠2:=by rw[k5];decide
     obtain⟨a1,a2⟩:=mZ k k3 k4 k1 h2
     exact⟨k,k3,k4,a1,by rw[a2];exact h2,by rw[a2];dsimp only;omega⟩
 ·rw[if_neg hm]at wk IX ⊢
  obtain⟨h1,h2⟩:=h.n i i0 i1 IX wk
  refine⟨h1,fun hp=>?_⟩
  obtain⟨j,j0,j1,j2,j3,j4⟩:=h2 hp
  obtain⟨a1,a2⟩:=mZ j j0 j1 j2 j3
  exact⟨j,j0,j1,a1,by rw[a2];exact j3,by rw[a2];exact j4⟩
theorem BH(o:lx g l nx part bu)(iF:Int):∀ (f:Nat) (n:Int) (v:List eY) (b:List Bool) (t:Int),v.length=l.length→b.length=l.length →
  ((iR g l nx part iF f n v b t).2.1.length=l.length∧(iR g l nx part iF f n v b t).2.2.length=l.length)∧∀ j:Int,0≤j→j<l.length→j ∉ part→gt (iR g l nx part iF f n v b t).2.1 j=gt v j∧gt (iR g l nx part iF f n v b t).2.2 j=gt b j
 | 0,n,v,b,t,hv,hb=>⟨⟨hv,hb⟩,fun _ _ _ _=>⟨rfl,rfl⟩⟩
 | f+1,n,v,b,t,hv,hb=>by
  have h1:=yD o hv hb (n:=n)
  have h2:=yC o (v:=v) hb (n:=n)
  have h3:∀ j:Int,0≤j→j<l.length→j ∉ part→gt (rV g l nx part v b n) j=gt v j∧gt (rB g l nx part v b n) j=gt b j:=fun j j0 j1 hj=>by
   rw[xI o hv hb j0 j1,vH o hb j0 j1,if_neg fun hm=>hj (EU hm),if_neg fun hm=>hj (EU hm)]
   exact⟨rfl,rfl⟩
  rw[iR]
  split
  ·obtain⟨a,c⟩:=BH o iF f (n+1) _ _ (t+(lT b part iF part.length).1) h1 h2
   refine⟨a,fun j j0 j1 hj=>?_⟩
   rw[(c j j0 j1 hj).1,(c j j0 j1 hj).2]
   exact h3 j j0 j1 hj
  ·exact⟨⟨h1,h2⟩,h3⟩
theorem z8(o:lx g l nx part bu){v:List eY}{b:List Bool}(hv:v.length=l.length)(hb:b.length=l.length):((kP part v b).1.length=l.length∧(kP part v b).2.length=l.length) ∧
  ∀ j:Int,0≤j→j<l.length→gt (kP part v b).1 j=(if j∈part∧gt b j=true then(2,0)else gt v j)∧gt (kP part v b).2 j=(if j∈part then false else gt b j):=by
 have hi:∀ i∈part.filter (fun i=>gt b i),0≤i∧i<l.length:=fun i hi=>o.prt i (aK.1 hi).1
 unfold kP
 dsimp only
 refine⟨⟨by rw[oP _ _ _ (by rw[hv];exact hi),hv],by rw[oP _ _ _ (by rw[hb];exact hi),hb]⟩,fun j j0 j1=>?_⟩
 rw[sM _ _ _ (by rw[hv];exact hi) j j0 (by omega),sM _ _ _ (by rw[hb];exact hi) j j0 (by omega)]
 simp only[aK]
 refine⟨trivial,?_⟩
 by_cases h1:j∈part
 ·by_cases h2:gt b j=true
  ·simp[h1,h2]
  ·simp[h1,h2]
 ·simp[h1]
theorem Bf(o:lx g l nx part bu){b:List Bool}(hb:b.length=l.length):(jk b (fun _=>true) part).length=l.length∧∀ j:Int,0≤j→j<l.length→gt (jk b (fun _=>true) part) j=if j∈part then true else gt b j:=by
 have hi:∀ i∈part,0≤i∧i<b.length:=fun i hi=>by rw[hb];exact o.prt i hi
 exact⟨by rw[oP _ _ _ hi,hb],fun j j0 j1=>sM _ _ _ hi j j0 (by omega)⟩
theorem tZ(o:lx g l nx part bu)(iF:Int){v:List eY}{b:List Bool}(hv:v.length=l.length)(hb:b.length=l.length):((jJ g l nx part iF v b).2.1.length=l.length∧(jJ g l nx part iF v b).2.2.length=l.length) ∧
  ∀ j:Int,0≤j→j<l.length→j ∉ part→gt (jJ g l nx part iF v b).2.1 j=gt v j∧gt (jJ g l nx part iF v b).2.2 j=gt b j:=by
 obtain⟨m1,m2⟩:=Bf o hb
 obtain⟨⟨r1,r2⟩,r3⟩:=BH o iF 4001 0 v (jk b (fun _=>true) part) 0 hv m1
 obtain⟨f1,f2⟩:=z8 o r1 r2
 unfold jJ
 dsimp only
 refine⟨f1,fun j j0 j1 hj=>?_⟩
 obtain⟨a1,a2⟩:=f2 j j0 j1
 obtain⟨c1,c2⟩:=r3 j j0 j1 hj
 rw[a1,a2,if_neg (fun h=>hj h.1),if_neg hj,c1,c2,m2 j j0 j1,if_neg hj]
 exact⟨rfl,rfl⟩
end
noncomputable def pM(g:eU)(l:List Pos)(nx:List (List Int))(bu:Int):List (List Int)→List eY→List Bool→Int→Int×List eY×List Bool
 | [],v,b,t=>(t,v,b)
 | p::ps,v,b,t=>pM g l nx bu ps (jJ g l nx p bu v b).2.1 (jJ g l nx p bu v b).2.2 (t+(jJ g l nx p bu v b).1)
section
variable{g:eU}{l:List Pos}{nx:List (List Int)}
end
end Go.Proofs.YtnaefnajkaohgaaGreatDoor
namespace Go.Proofs.YtnaefnajkaohgaaGreatDoor
open Go Go.AL Classical
noncomputable def GC(m:List Int)(l:List Pos)(last:Int):Nat→Int
 | 0 => -1
 | i+1=>if last<fY m (gt l (i:Int))∧(GC m l last i<0∨fY m (gt l (i:Int))<GC m l last i)then fY m (gt l (i:Int))else GC m l last i
@[simp] theorem ala(m:List Int)(l:List Pos)(last:Int):GC m l last 0 = -1:=rfl
theorem QK{g:eU}{l:List Pos}{nx:List (List Int)}{part:List Int}{bu:Int}(kU:part.length≤4000):∀ (f:Nat) (n:Int) (v:List eY) (b:List Bool) (t:Int),t≤(iR g l nx part bu f n v b t).1∧(iR g l nx part bu f n v b t).1≤t+f*4000
 | 0,n,v,b,t=>by rw[iR];dsimp only;omega
 | f+1,n,v,b,t=>by
  have h:=A9 b part bu part.length
  rw[iR]
  split
  ·have:=QK (g:=g) (l:=l) (nx:=nx) kU f (n+1) (rV g l nx part v b n) (rB g l nx part v b n) (t+(lT b part bu part.length).1) (bu:=bu)
   omega
  ·dsimp only;omega
theorem Np{g:eU}{l:List Pos}{nx:List (List Int)}{part:List Int}{bu:Int}(kU:part.length≤4000)(v:List eY)(b:List Bool):0≤(jJ g l nx part bu v b).1∧(jJ g l nx part bu v b).1≤20000000:=by
 have:=QK (g:=g) (l:=l) (nx:=nx) (bu:=bu) kU 4001 0 v (jk b (fun _=>true) part) 0
 unfold jJ
 dsimp only
 omega
end Go.Proofs.YtnaefnajkaohgaaGreatDoor
namespace Go.Proofs.YtnaefnajkaohgaaGreatDoor
open Go Go.AL Classical
theorem vI{α:Type}[Inhabited α]{n:Nat}{a:α}{k:Int}(k0:0≤k)(k1:k<n):gt (List.replicate n a) k=a:=by
 unfold gt
 rw[List.getD_eq_getElem?_getD,dy,if_pos (by omega)];rfl
noncomputable def pN(g:eU)(l:List Pos)(m:List Int)(n:Int):Int×List eY×List Bool:=pM g l (fE g l) n (lA m l) (List.replicate l.length (2,0)) (List.replicate l.length false) 0
section
variable{g:eU}{l:List Pos}{m:List Int}{n k:Int}
theorem xF(hg:fr g)(hc:mQ g l)(hn:1≤n∧n≤9223372036854775807){p:List Int}(hp:p∈lA m l):lx g l (fE g l) p n:=by
 obtain⟨p1,p2,p3,p4⟩:=Ic hp
 have:=hc.len
 exact⟨hg,hc.ok,hc.len,by simp[fE],fun i i0 i1=>⟨(r8 hc i0 i1).2,by rw[(r8 hc i0 i1).1,List.length_map];have:=Bj hg (hc.ok _ (ff i0 i1));omega⟩,p4,p1,by omega,hn⟩
theorem PR{nx:List (List Int)}{bu:Int}:∀ (ps:List (List Int)) (_:∀ p∈ps,p.length≤4000) (v:List eY) (b:List Bool) (t:Int),t≤(pM g l nx bu ps v b t).1∧(pM g l nx bu ps v b t).1≤t+ps.length*20000000
 | [],_,v,b,t=>by rw[pM];simp
 | p::ps,h,v,b,t=>by
  have h1:=Np (g:=g) (l:=l) (nx:=nx) (bu:=bu) (h p (by simp)) v b
  have h2:=PR (nx:=nx) (bu:=bu) ps (fun q hq=>h q (by simp[hq])) (jJ g l nx p bu v b).2.1 (jJ g l nx p bu v b).2.2 (t+(jJ g l nx p bu v b).1)
  rw[pM,aG]
  omega
end
end Go.Proofs.YtnaefnajkaohgaaGreatDoor
namespace Go.Proofs.YtnaefnajkaohgaaGreatDoor
open Go Go.AL Classical
set_option maxRecDepth 10000
set_option maxHeartbeats 8000000
def zz(b:Int)(l:List eY):Bool:=l.any fun s=>s.1 == 8&&s.2 == b
def rv(g:eU)(a b:Int):Bool:=(gt g.kinds a).gD.any (zz b)
structure pX(g:eU)(m:List Int):Prop where
 ok:ko g m
 le:∀ a b:Int,0≤a→a<g.kinds.length→0≤b→b<g.kinds.length→rv g a b=true→gt m b≤gt m a
theorem Mh{α:Type}[Inhabited α](f:α→Bool){l:List α}{i:Int}(i0:0≤i)(hi:i<l.length):(l.take (i+1).toNat).any f=((l.take i.toNat).any f||f (gt l i)):=by
 rw[gE i0 hi,List.any_append];simp
theorem Md{α:Type}[Inhabited α]{f:α→Bool}{l:List α}{i:Int}(i0:0≤i)(hi:i<l.length)(h:f (gt l i)=true):l.any f=true:=dK.2 ⟨_,ff i0 hi,h⟩
theorem Uj{α:Type}[Inhabited α]{l l':List α}{n:Int}(h0:0≤n)(h:n<l.length):gt (l++l') n=gt l n:=by
 unfold gt
 rw[List.getD_eq_getElem?_getD,List.getD_eq_getElem?_getD,ag (by omega)]
theorem Nj(g:eU)(hg:fr g)(a b:Int)(ha:0≤a∧a<g.kinds.length):Wf T 62 [dG g,.i a,.i b] [] (Is (.b (rv g a b))):=by
 have hk:=hg.gD _ (ff (l:=g.kinds) ha.1 ha.2)
 refine Yg DZ ?_
 simp[DZ]
 refine fe.e (0:Int) (fun i=>[(1,.i a),(2,.i b),(3,.ptr 0 0 0),(7,.i i)]) (fun i=>[.row 41 0 g.cells]) (fun i=>0≤i∧i≤(gt g.kinds a).gD.length∧((gt g.kinds a).gD.take i.toNat).any (zz b)=false) (fun i=>(gt g.kinds a).gD.length-i.toNat) ?_ ?_
 ·simp
 rintro i ⟨i0,i1,i2⟩
 by_cases hi:i<(gt g.kinds a).gD.length
 ·have hp:=(hk.2 _ (ff i0 hi)).len
  have hn:=Mh (zz b) i0 hi
  have fF:zz b (gt (gt g.kinds a).gD i)=true→rv g a b=true:=Md (f:=zz b) i0 hi
  rw[i2,ec]at hn
  simp[hi]
  generalize hpp:gt (gt g.kinds a).gD i=p at *
  (with_reducible repeat' first|refine Xk ?_<;>try simp|refine Xs ?_ ?_<;>intro h<;>(try intro h')<;>(try simp[h])<;>(try omega)|refine Xg ?_|omega)
  refine fe.e (0:Int) (fun j=>[(1,.i a),(2,.i b),(3,.ptr 0 0 0),(7,.i i),(8,gQ p),(9,.i j)]) (fun j=>[.row 41 0 g.cells]) (fun j=>0≤j∧j≤p.length∧(p.take j.toNat).any (fun s=>s.1 == 8&&s.2 == b)=false) (fun j=>p.length-j.toNat) ?_ ?_
  ·simp
  rintro j ⟨j0,j1,j2⟩
  by_cases hj:j<p.length
  ·have Jc:=Mh (fun s:eY=>s.1 == 8&&s.2 == b) j0 hj
   have Vp:=Md (f:=fun s:eY=>s.1 == 8&&s.2 == b) j0 hj
   rw[j2,ec]at Jc
   simp[hj]
   (with_reducible repeat' first|refine Xk ?_<;>try simp|refine Xs ?_ ?_<;>intro h<;>(try intro h')<;>(try simp[h])<;>(try omega)|refine Xg ?_|omega)
   ·rw[fF (Vp (by simp[*]))]
   ·refine LJ.e (j+1) ?_
    exact⟨by omega,by omega,by omega,by rw[Jc];simp[*]⟩
   ·refine LJ.e (j+1) ?_
    exact⟨by omega,by omega,by omega,by rw[Jc];simp[*]⟩
  ·rw[js (by omega)]at j2
   simp[hj]
   (with_reducible repeat' first|refine Xk ?_<;>try simp|refine Xs ?_ ?_<;>intro h<;>(try intro h')<;>(try simp[h])<;>(try omega)|refine Xg ?_|omega)
   refine LJ.e (i+1) ?_
   exact⟨by omega,by omega,by omega,by rw[hn];exact j2⟩
 ·rw[js (by omega)]at i2
  have:rv g a b=false:=i2
  simp[hi,this]
  exact ha
theorem Iu(g:eU)(hg:fr g)(a:Int)(ha:0≤a∧a<g.kinds.length):Wf T 63 [dG g,.i a] [] (Ey dI fun r=>1≤r.length∧r.length≤g.kinds.length∧a∈r∧∀ c:Int,0≤c→c<g.kinds.length→rv g a c=true→c∈r):=by
 have hk:=hg.kinds
 have lE:∀ w:List Int,w.Nodup→(∀ y∈w,0≤y∧y<g.kinds.length)→w.length≤g.kinds.length:=fun w h1 h2=>uL _ w h1 h2
 refine Yg D0 ?_
 simp[D0]
 refine fe.e ((0,0,[a]):Int×Nat×List Int) (fun y=>[(2,.ptr 0 0 0),(5,.eT 1 y.2.1 1 0 y.2.2.length),(6,.i y.1)]) (fun y=>[.row 41 0 g.cells,.row 3 y.2.1 (cl f1 y.2.2)]) (fun y=>0≤y.1∧y.1≤y.2.2.length∧y.2.2.Nodup∧(∀ z∈y.2.2,0≤z∧z<g.kinds.length)∧(1≤y.2.2.length∧gt y.2.2 0=a)∧(∀ c:Int,0≤c→c<g.kinds.length→0<y.1→rv g a c=true→c∈y.2.2)) (fun y=>g.kinds.length-y.1.toNat) ?_ ?_
 ·simp;exact⟨by omega,by omega,rfl⟩
 rintro⟨i,gn,w⟩ ⟨i0,i1,i2,i3,i4,i5⟩
 dsimp only at i0 i1 i2 i3 i4 i5 ⊢
 have hw:=lE w i2 i3
 by_cases hi:i<w.length
 ·simp[hi]
  refine fe.e ((0,gn,w):Int×Nat×List Int) (fun y=>[(2,.ptr 0 0 0),(5,.eT 1 y.2.1 1 0 y.2.2.length),(6,.i i),(7,.i y.1)]) (fun y=>[.row 41 0 g.cells,.row 3 y.2.1 (cl f1 y.2.2)]) (fun y=>0≤y.1∧y.1≤g.kinds.length∧y.2.2.Nodup∧(∀ z∈y.2.2,0≤z∧z<g.kinds.length)∧w.length≤y.2.2.length∧gt y.2.2 0=a∧(∀ c:Int,0≤c→c<g.kinds.length→0<i∨c<y.1→rv g a c=true→c∈y.2.2)) (fun y=>g.kinds.length-y.1.toNat) ?_ ?_
  ·simp;exact⟨i2,i3,i4.2,fun c c0 c1 c2=>i5 c c0 c1 (by omega)⟩
  rintro⟨b,gm,u⟩ ⟨b0,b1,b2,b3,b4,b5,b6⟩
  dsimp only at b0 b1 b2 b3 b4 b5 b6 ⊢
  have hu:=lE u b2 b3
  by_cases hb:b<g.kinds.length
  ·simp[hb]
   refine fe.e ((0,false):Int×Bool) (fun y=>[(2,.ptr 0 0 0),(5,.eT 1 gm 1 0 u.length),(6,.i i),(7,.i b),(8,.b y.2),(9,.i y.1)]) (fun y=>[.row 41 0 g.cells,.row 3 gm (cl f1 u)]) (fun y=>0≤y.1∧y.1≤u.length∧y.2=decide (b∈u.take y.1.toNat)) (fun y=>u.length-y.1.toNat) ?_ ?_
   ·simp
   rintro⟨k,kn⟩ ⟨k0,k1,k2⟩
   dsimp only at k0 k1 k2 ⊢
   by_cases hk:k<u.length
   ·cases kn<;>simp[hk]
    ·(with_reducible repeat' first|refine Xk ?_<;>try simp|refine Xs ?_ ?_<;>intro h<;>(try intro h')<;>(try simp[h])<;>(try omega)|refine Xg ?_|omega)
     refine LJ.e (k+1,decide (gt u k=b)) ?_
     dsimp only
     refine⟨by omega,by omega,by omega,?_⟩
     rw[gE k0 hk]
     simp at k2
     simp[k2,eq_comm]
    ·(with_reducible repeat' first|refine Xk ?_<;>try simp|refine Xs ?_ ?_<;>intro h<;>(try intro h')<;>(try simp[h])<;>(try omega)|refine Xg ?_|omega)
     refine LJ.e (k+1,true) ?_
     dsimp only
     refine⟨by omega,by omega,by omega,?_⟩
     rw[gE k0 hk]
     simp at k2
     simp[k2]
   ·rw[js (by omega)]at k2
    cases kn<;>simp[hk]
    ·have IZ:b ∉ u:=by simpa using k2
     have xU:=b3 _ (ff (l:=u) i0 (by omega))
     (with_reducible repeat' first|refine Xk ?_<;>try simp|refine Xs ?_ ?_<;>intro h<;>(try intro h')<;>(try simp[h])<;>(try omega)|refine Xg ?_|omega)
     refine Yt (Nj g hg _ b xU) ?_
     simp
     (with_reducible repeat' first|refine Xk ?_<;>try simp|refine Xs ?_ ?_<;>intro h<;>(try intro h')<;>(try simp[h])<;>(try omega)|refine Xg ?_|omega)
     ·refine LJ.e (b+1,gm+1,u ++ [b]) ?_
      dsimp only
      refine⟨by omega,by omega,by omega,aP.2 ⟨b2,by simp,fun y hy z hz e=>?_⟩,fun z hz=>?_,by simp;omega,?_,fun c c0 c1 c2 c3=>?_⟩
      ·rw[List.mem_singleton]at hz;subst hz;subst e;exact IZ hy
      ·rcases List.mem_append.1 hz with hz|hz
       ·exact b3 z hz
       ·rw[List.mem_singleton]at hz;omega
      ·rw[← b5];exact Uj (by omega) (by omega)
      ·by_cases e:c=b
       ·subst e;simp
       ·exact aR _ (b6 c c0 c1 (by omega) c3)
     ·refine LJ.e (b+1,gm,u) ?_
      dsimp only
      refine⟨by omega,by omega,by omega,b2,b3,b4,b5,fun c c0 c1 c2 c3=>?_⟩
      by_cases e:0<i∨c<b
      ·exact b6 c c0 c1 e c3
      ·have e1:c=b:=by omega
       have e2:i=0:=by omega
       have NW:rv g (gt u i) b=false:=by assumption
       rw[e2,b5,← e1,c3]at NW
       cases NW
    ·(with_reducible repeat' first|refine Xk ?_<;>try simp|refine Xs ?_ ?_<;>intro h<;>(try intro h')<;>(try simp[h])<;>(try omega)|refine Xg ?_|omega)
     refine LJ.e (b+1,gm,u) ?_
     dsimp only
     have IZ:b∈u:=by simpa using k2
     refine⟨by omega,by omega,by omega,b2,b3,b4,b5,fun c c0 c1 c2 c3=>?_⟩
     by_cases e:c=b
     ·subst e;exact IZ
     ·exact b6 c c0 c1 (by omega) c3
  ·simp[hb]
   (with_reducible repeat' first|refine Xk ?_<;>try simp|refine Xs ?_ ?_<;>intro h<;>(try intro h')<;>(try simp[h])<;>(try omega)|refine Xg ?_|omega)
   refine LJ.e (i+1,gm,u) ?_
   dsimp only
   exact⟨by omega,by omega,by omega,b2,b3,⟨by omega,b5⟩,fun c c0 c1 _ c3=>b6 c c0 c1 (by omega) c3⟩
 ·simp[hi]
  exact Ey.i w rfl rfl ⟨i4.1,hw,by rw[← i4.2];exact ff (by omega) (by omega),fun c c0 c1 c3=>i5 c c0 c1 (by omega) c3⟩
theorem TG(g:eU)(hg:fr g)(m:List Int)(hm:m.length=g.kinds.length):Wf T 35 [dG g,.agg [dI m]] [] (Ey D.b fun b=>b=true→pX g m):=by
 have hk:=hg.kinds
 refine Yg DN ?_
 simp[DN]
 (with_reducible repeat' first|refine Xk ?_<;>try simp|refine Xs ?_ ?_<;>intro h<;>(try intro h')<;>(try simp[h])<;>(try omega)|refine Xg ?_|omega)
 refine fe.e (0:Int) (fun i=>[(2,.ptr 0 0 0),(3,.ptr 1 0 0),(5,.i i)]) (fun i=>[.row 41 0 g.cells,.row 50 0 [dI m]]) (fun i=>0≤i∧i≤g.kinds.length∧∀ a:Int,0≤a→a<i→(1≤gt m a∧gt m a≤6)∧∀ b:Int,0≤b→b<g.kinds.length→rv g a b=true→gt m b≤gt m a) (fun i=>g.kinds.length-i.toNat) ?_ ?_
 ·simp;omega
 rintro i ⟨i0,i1,i2⟩
 by_cases hi:i<g.kinds.length
 ·simp[hi]
  (with_reducible repeat' first|refine Xk ?_<;>try simp|refine Xs ?_ ?_<;>intro h<;>(try intro h')<;>(try simp[h])<;>(try omega)|refine Xg ?_|omega)
  ·exact Ey.i false rfl rfl (by simp)
  ·exact Ey.i false rfl rfl (by simp)
  ·refine fe.e (0:Int) (fun j=>[(2,.ptr 0 0 0),(3,.ptr 1 0 0),(5,.i i),(6,.i j)]) (fun j=>[.row 41 0 g.cells,.row 50 0 [dI m]]) (fun j=>0≤j∧j≤g.kinds.length∧∀ b:Int,0≤b→b<j→rv g i b=true→gt m b≤gt m i) (fun j=>g.kinds.length-j.toNat) ?_ ?_
   ·simp;omega
   rintro j ⟨j0,j1,j2⟩
   by_cases hj:j<g.kinds.length
   ·simp[hj]
    refine Yt (Nj g hg i j ⟨i0,hi⟩) ?_
    simp
    (with_reducible repeat' first|refine Xk ?_<;>try simp|refine Xs ?_ ?_<;>intro h<;>(try intro h')<;>(try simp[h])<;>(try omega)|refine Xg ?_|omega)
    ·exact Ey.i false rfl rfl (by simp)
    ·refine LJ.e (j+1) ?_
     refine⟨by omega,by omega,by omega,fun b b0 b1 b2=>?_⟩
     by_cases e:b=j
     ·subst e;omega
     ·exact j2 b b0 (by omega) b2
    ·refine LJ.e (j+1) ?_
     refine⟨by omega,by omega,by omega,fun b b0 b1 b2=>?_⟩
     by_cases e:b=j
     ·subst e;simp_all
     ·exact j2 b b0 (by omega) b2
   ·simp[hj]
    (with_reducible repeat' first|refine Xk ?_<;>try simp|refine Xs ?_ ?_<;>intro h<;>(try intro h')<;>(try simp[h])<;>(try omega)|refine Xg ?_|omega)
    refine LJ.e (i+1) ?_
    refine⟨by omega,by omega,by omega,fun a a0 a1=>?_⟩
    by_cases e:a=i
    ·subst e;exact⟨by omega,fun b b0 b1 b2=>j2 b b0 (by omega) b2⟩
    ·exact i2 a a0 (by omega)
 ·simp[hi]
  refine Ey.i true rfl rfl fun _=>⟨⟨hm,fun x hx=>?_⟩,fun a b a0 a1 b0 b1 h=>(i2 a a0 (by omega)).2 b b0 b1 h⟩
  obtain⟨n,n0,n1,rfl⟩:=qm.1 hx
  exact(i2 n n0 (by omega)).1
theorem Rn{r:List Int}(h0:(0:Int)∈r)(h1:(1:Int)∈r):2≤r.length:=by
 rcases r with _|⟨a,_|⟨b,r⟩⟩
 ·simp at h0
 ·simp at h0 h1;omega
 ·simp
theorem TH(g:eU)(hg:fr g):Wf T 36 [dG g] [] (Ey (fun r:List Int=>.agg [dI r]) fun r=>pX g r):=by
 have hk:=hg.kinds
 refine Yg DO ?_
 simp[DO]
 rcases(show g.kinds.length=1∨g.kinds.length=2 by omega)with e|e
 ·refine fe.un ?_
  refine iO.u ?_
  simp[e]
  refine Yv (Iu g hg 0 (by omega)) fun r hr=>?_
  simp
  refine iO.u ?_
  simp[e]
  obtain⟨h1,h2,h3,h4⟩:=hr
  refine Ey.i [(r.length:Int)] rfl rfl ⟨⟨by simp[e],fun x hx=>?_⟩,fun a b a0 a1 b0 b1 h=>?_⟩
  ·simp at hx;omega
  ·have e1:a=0:=by omega
   have e2:b=0:=by omega
   rw[e1,e2];exact b8 _
 ·refine fe.un ?_
  refine iO.u ?_
  simp[e]
  refine Yv (Iu g hg 0 (by omega)) fun r hr=>?_
  simp
  refine iO.u ?_
  simp[e]
  refine Yv (Iu g hg 1 (by omega)) fun r2 FU=>?_
  simp
  refine iO.u ?_
  simp[e]
  obtain⟨h1,h2,h3,h4⟩:=hr
  obtain⟨k1,k2,k3,k4⟩:=FU
  refine Ey.i [(r.length:Int),(r2.length:Int)] rfl rfl ⟨⟨by simp[e],fun x hx=>?_⟩,fun a b a0 a1 b0 b1 h=>?_⟩
  ·simp at hx;omega
  ·have g0:gt [(r.length:Int),(r2.length:Int)] 0=r.length:=rfl
   have g1:gt [(r.length:Int),(r2.length:Int)] 1=r2.length:=rfl
   rcases(show a=0∨a=1 by omega)with rfl|rfl<;>rcases(show b=0∨b=1 by omega)with rfl|rfl
   ·exact b8 _
   ·have:=Rn h3 (h4 1 (by omega) (by omega) h)
    rw[g0,g1];omega
   ·have:=Rn (k4 0 (by omega) (by omega) h) k3
    rw[g0,g1];omega
   ·exact b8 _
theorem Tz(g:eU)(hg:fr g)(a0 a1 a2 a3 a4 a5:Int)(h:∀ n∈[a0,a1,a2,a3,a4,a5],0≤n∧n<256):Wf T 13 [dG g,dW [a0,a1,a2,a3,a4,a5]] [] (Ey (fun r:List Int=>.agg [dI r]) fun r=>pX g r):=by
 refine Yg Cu ?_
 simp[Cu,dW]
 have c:=f34 g hg a0 a1 a2 a3 a4 a5 h
 simp only[dW,List.map]at c
 refine Yq (c) fun m hm=>?_
 simp
 refine Yq (TG g hg m hm) fun b hb=>?_
 simp
 (with_reducible repeat' first|refine Xk ?_<;>try simp|refine Xs ?_ ?_<;>intro h<;>(try intro h')<;>(try simp[h])<;>(try omega)|refine Xg ?_|omega)
 ·exact Ey.i m rfl rfl (hb (by assumption))
 ·refine Yq (TH g hg) fun r hr=>?_
  simp
  exact Ey.i r rfl rfl hr
end Go.Proofs.YtnaefnajkaohgaaGreatDoor
namespace Go.Proofs.YtnaefnajkaohgaaGreatDoor
open Go Go.AL Classical
section
variable{g:eU}{m:List Int}
theorem Py{cs:List Int}{c v:Int}(c0:0≤c)(c1:c<cs.length):∀ n:Nat,n≤cs.length→nW m (pt cs c v) n=nW m cs n+if c<n then ot m v-ot m (gt cs c)else 0
 | 0,_=>by simp;omega
 | n+1,h=>by
  have ih:=Py (v:=v) c0 c1 n (by omega)
  rw[nW,nW,ih,mb c0 c1 (by omega)]
  by_cases e:(n:Int)=c
  ·subst e
   rw[if_pos rfl,if_neg (by omega),if_pos (by omega)]
   omega
  ·rw[if_neg e]
   by_cases e2:c<(n:Int)
   ·rw[if_pos e2,if_pos (by omega)];omega
   ·rw[if_neg e2,if_neg (by omega)];omega
theorem X8{cs:List Int}{c v:Int}(c0:0≤c)(c1:c<cs.length):nW m (pt cs c v) (pt cs c v).length=nW m cs cs.length+ot m v-ot m (gt cs c):=by
 rw[gI c0 c1,Py c0 c1 _ (Nat.le_refl _),if_pos c1];omega
theorem J8{a b:List Int}{k v:Int}(k0:0≤k)(k1:k<a.length):∀ n:Nat,n≤a.length→nb m (pt a k v) b n=nb m a b n+if k<n then gt m k*(v-gt a k)else 0
 | 0,_=>by simp;omega
 | n+1,h=>by
  have ih:=J8 (b:=b) (v:=v) k0 k1 n (by omega)
  rw[nb,nb,ih,mb k0 k1 (by omega)]
  by_cases e:(n:Int)=k
  ·subst e
   rw[if_pos rfl,if_neg (by omega),if_pos (by omega)]
   simp only[Int.mul_add,Int.mul_sub];omega
  ·rw[if_neg e]
   by_cases e2:k<(n:Int)
   ·rw[if_pos e2,if_pos (by omega)];omega
   ·rw[if_neg e2,if_neg (by omega)];omega
theorem J7{a b:List Int}:∀ n:Nat,nb m a b n=nb m b a n
 | 0=>rfl
 | n+1=>by rw[nb,nb,J7 n,Int.add_comm (gt a (n:Int))]
theorem ym:ot m 0=0:=by unfold ot fo;simp
theorem Gq{c:Int}(h:0≤fo c):ot m c=gt m (fo c):=by unfold ot;rw[if_pos h]
theorem PD{k s:Int}(h0:0≤k)(h1:k<2)(s0:0≤s)(s1:s≤1):fo (iS k s)=k:=by
 unfold fo iS
 rw[if_pos (by omega)];omega
theorem acU{r n:Int}(h0:0≤r)(h1:r<4)(n0:0≤n)(n1:n<2):se (dropRight r n)≤se r:=by
 rcases(show r=0∨r=1∨r=2∨r=3 by omega)with rfl|rfl|rfl|rfl<;>rcases(show n=0∨n=1 by omega)with rfl|rfl<;>decide
def ql(m:List Int)(s:e9):Int:=fY m s.p+gt m s.kind
theorem Pk{p:Pos}(hm:ko g m)(hp:fR g p){s k v:Int}(k0:0≤k)(k1:k<g.kinds.length):fY m (p.jG s (pt (p.hand s) k v))=fY m p+gt m k*(v-gt (p.hand s) k):=by
 have l0:=hp.h0.len
 have l1:=hp.h1.len
 have lm:=hm.len
 unfold Pos.jG Pos.hand fY
 by_cases e:s=0
 ·simp only[e,if_true]
  rw[J8 k0 (by omega) _ (by omega),if_pos (by omega)];omega
 ·simp only[e,if_false]
  rw[J7,J8 k0 (by omega) _ (by omega),if_pos (by omega),J7];omega
theorem yk{p:Pos}{c v:Int}(c0:0≤c)(c1:c<p.cs.length):fY m { p with cs:=pt p.cs c v }=fY m p+ot m v-ot m (gt p.cs c):=by
 unfold fY
 dsimp only
 rw[X8 c0 c1];omega
theorem ael(hg:fr g)(hm:ko g m){s:e9}(hs:iD g s){x:eY}(hx:vg g x)(hb:x.1=8→gt m x.2≤gt m s.kind){t:e9}(h:t∈gF g s x):ql m t≤ql m s∧(x.1≠8→t.kind=s.kind):=by
 have oF:=hg.ib
 have kQ:s.cur<s.p.cs.length:=by rw[hs.p.size];exact hs.cur.2
 have hc:=hs.p.cs _ (ff hs.cur.1 kQ)
 unfold gF at h
 dsimp only at h
 split at h
 ·split at h
  ·rw[List.mem_singleton]at h;subst h
   exact⟨b8 _,fun _=>rfl⟩
  ·cases h
 split at h
 ·obtain⟨c,h1,rfl⟩:=J3 h
  exact⟨b8 _,fun _=>rfl⟩
 iterate 3
  split at h
  ·split at h
   ·rw[List.mem_singleton]at h;subst h;exact⟨b8 _,fun _=>rfl⟩
   ·cases h
 split at h
 ·unfold oS at h
  dsimp only at h
  split at h
  ·cases h
  rename_i e
  have e:=dA.1 e
  have gH:=hs.p.side
  obtain⟨m1,m2,m3,m4⟩:=wz (by omega) e
  have hk:fo (gt s.p.cs s.cur)<g.kinds.length:=r7 hc.2 hg.kinds.1
  have hp:fR g { s.p with cs:=pt s.p.cs s.cur 0 }:=hs.p.uU hs.cur.1 hs.cur.2 (by omega)
  have hl:=yk (m:=m) (p:=s.p) (v:=0) hs.cur.1 kQ
  have h1:=hm.num _ (ff m1 (by rw[hm.len];exact hk))
  rw[ym,Gq m1]at hl
  split at h
  ·rw[List.mem_singleton]at h;subst h
   refine⟨?_,fun _=>rfl⟩
   unfold ql
   (try dsimp only at hl)
   (try dsimp only at hh)
   dsimp only
   omega
  split at h
  ·rw[List.mem_singleton]at h;subst h
   refine⟨?_,fun _=>rfl⟩
   have hh:=Pk hm hp (s:=s.p.side) (k:=fo (gt s.p.cs s.cur)) (v:=gt (s.p.hand s.p.side) (fo (gt s.p.cs s.cur))+1) m1 hk
   have e2:({ s.p with cs:=pt s.p.cs s.cur 0 }:Pos).hand s.p.side=s.p.hand s.p.side:=by unfold Pos.hand;split<;>rfl
   rw[e2,show gt (s.p.hand s.p.side) (fo (gt s.p.cs s.cur))+1-gt (s.p.hand s.p.side) (fo (gt s.p.cs s.cur))=1 by omega,Int.mul_one]at hh
   unfold ql
   (try dsimp only at hl)
   (try dsimp only at hh)
   dsimp only
   omega
  ·cases h
 split at h
 ·unfold ph at h
  dsimp only at h
  split at h
  ·cases h
  rename_i e
  simp only[not_or,eu,dA]at e
  rw[List.mem_singleton]at h;subst h
  refine⟨?_,fun _=>rfl⟩
  have ht:=oF.to s.p.side x.2 s.cur
  have t1:jB g s.p.side x.2 s.cur<s.p.cs.length:=by rw[hs.p.size];exact ht.2
  have gd:s.cur≠jB g s.p.side x.2 s.cur:=fun e1=>e.1 (e1▸e.2.2)
  have gW:=yk (m:=m) (p:=s.p) (v:=gt s.p.cs s.cur) e.2.1 t1
  have hJ:=yk (m:=m) (p:={ s.p with cs:=pt s.p.cs (jB g s.p.side x.2 s.cur) (gt s.p.cs s.cur) }) (c:=s.cur) (v:=0) hs.cur.1 (by dsimp only;rw[gI e.2.1 t1];exact kQ)
  dsimp only at hJ
  rw[Ae e.2.1 t1 hs.cur.1 gd,ym]at hJ
  rw[e.2.2,ym]at gW
  unfold ql
  dsimp only
  omega
 split at h
 ·rename_i e8
  rw[List.mem_singleton]at h;subst h
  have:=hb e8
  refine⟨?_,fun h=>absurd e8 h⟩
  unfold ql
  dsimp only
  omega
 split at h
 ·split at h
  ·rw[List.mem_singleton]at h;subst h;exact⟨b8 _,fun _=>rfl⟩
  ·cases h
 ·rw[List.mem_singleton]at h;subst h
  refine⟨?_,fun _=>rfl⟩
  have hr:=QH hg hs.p
  have pF:=hg.fq
  have hxx:=hx.ok
  have:=acU (r:=s.p.fq) (n:=x.2) (by omega) (by omega) (by omega) (by omega)
  unfold ql fY
  dsimp only
  omega
theorem QT(hg:fr g)(hm:ko g m){k L:Int}:∀ {l:List eY} {a:List e9},(∀ x∈l,vg g x)→(∀ x∈l,x.1=8→gt m x.2≤gt m k)→kr l 8≤1→(∀ s∈a,iD g s∧ql m s≤L∧(0<kr l 8→s.kind=k))→∀ s∈oy g l a,iD g s∧ql m s≤L
 | [],a,_,_,_,h=>fun s hs=>⟨(h s hs).1,(h s hs).2.1⟩
 | x::r,a,h1,h2,h3,h=>by
  rw[oy]
  have uo:kr (x::r) 8=kr r 8+if x.1=8 then 1 else 0:=by
   unfold kr
   rw[bB]
   by_cases e:x.1=8<;>simp[e]
  have h0:0≤kr r 8:=by unfold kr;omega
  refine QT hg hm (fun y hy=>h1 y (by simp[hy])) (fun y hy=>h2 y (by simp[hy])) (by split at uo<;>omega) fun t ht=>?_
  obtain⟨s,hs,ht⟩:=bh.1 ht
  obtain⟨s1,s2,s3⟩:=h s hs
  have hx:=h1 x (by simp)
  have hl:=ael hg hm s1 hx (fun e=>by rw[s3 (by rw[uo,if_pos e];omega)];exact h2 x (by simp) e) ht
  refine⟨uV hg s1 hx ht,by omega,fun hc=>?_⟩
  have e:x.1≠8:=fun e=>by rw[if_pos e]at uo;omega
  rw[hl.2 e]
  exact s3 (by rw[uo,if_neg e];omega)
theorem Qh(hg:fr g)(hv:pX g m){p:Pos}(hp:fR g p){o:fD}(h:o∈nc g p):fY m o.p≤fY m p:=by
 have hm:=hv.ok
 have gH:=hp.side
 obtain⟨c,hc,h⟩:=bh.1 h
 rw[pg]at hc
 have Fx:c<g.size:=by rw[← hp.size];exact hc.2
 unfold mO at h
 split at h
 ·rename_i e
  obtain⟨l,hl,h⟩:=bh.1 h
  obtain⟨s,hs,h⟩:=bW.1 h
  have fg:=yO hg hp hc.1 Fx e
  have hk:=hg.gD _ (ff (l:=g.kinds) fg.kind.1 fg.kind.2)
  have lF:=hk.2 l hl
  have m1:=(wz hp.side.1 e).1
  have vZ:=yk (m:=m) (p:=p) (v:=0) hc.1 hc.2
  rw[ym,Gq m1]at vZ
  have h0:ql m (jl p c)=fY m p:=by
   unfold ql jl
   dsimp only
   omega
  have hr:=QT hg hm (k:=fo (gt p.cs c)) (L:=fY m p) lF.steps (fun x hx e8=>by
   have h8:=(lF.steps x hx).ok
   refine hv.le _ _ fg.kind.1 fg.kind.2 (by omega) (by omega) ?_
   exact dK.2 ⟨l,hl,dK.2 ⟨x,hx,by simp[e8]⟩⟩) lF.zA (fun t ht=>by
    rw[List.mem_singleton]at ht;subst ht
    exact⟨fg,by omega,fun _=>rfl⟩) s hs
  unfold lO at h
  split at h
  ·rename_i e0
   cases h
   have kH:=hr.1
   have kQ:s.cur<s.p.cs.length:=by rw[kH.p.size];exact kH.cur.2
   have ja:=hg.kinds.2
   have jK:=kH.kind
   have gW:=yk (m:=m) (p:=s.p) (v:=iS s.kind p.side) kH.cur.1 kQ
   have Ay:=PD (k:=s.kind) (s:=p.side) jK.1 (by omega) gH.1 gH.2
   rw[e0,ym,Gq (by rw[Ay];exact jK.1),Ay]at gW
   have h2:=hr.2
   unfold ql at h2
   have e1:fY m { s.p with cs:=pt s.p.cs s.cur (iS s.kind p.side),side:=1-p.side }=fY m { s.p with cs:=pt s.p.cs s.cur (iS s.kind p.side) }:=rfl
   (try dsimp only at gW)
   (try dsimp only at e1)
   dsimp only
   rw[e1]
   omega
  ·cases h
 ·cases h
theorem S6(hg:fr g)(hm:ko g m){p:Pos}(hp:fR g p){q:Pos}(h:sr g p q):fY m q=fY m p:=by
 obtain⟨k,c,h1,h2,h3,h4,h5,h6,rfl⟩:=h
 have gH:=hp.side
 have ja:=hg.kinds.2
 have hh:=Pk hm hp (s:=p.side) (v:=gt (p.hand p.side) k-1) h1 h2
 have e:(p.jG p.side (pt (p.hand p.side) k (gt (p.hand p.side) k-1))).cs=p.cs:=by unfold Pos.jG;split<;>rfl
 have hl:=yk (m:=m) (p:=p.jG p.side (pt (p.hand p.side) k (gt (p.hand p.side) k-1))) (c:=c) (v:=iS k p.side) h3 (by rw[e];exact h4)
 have Ay:=PD (k:=k) (s:=p.side) h1 (by omega) gH.1 gH.2
 rw[e,h6,ym,Gq (by rw[Ay];exact h1),Ay]at hl
 have e1:fY m (iG p k c)=fY m { p.jG p.side (pt (p.hand p.side) k (gt (p.hand p.side) k-1))with cs:=pt p.cs c (iS k p.side) }:=rfl
 rw[e1,hl,hh]
 rw[show gt (p.hand p.side) k-1-gt (p.hand p.side) k = -1 by omega,Int.mul_neg,Int.mul_one]
 omega
theorem Yx(hg:fr g)(hv:pX g m){p:Pos}(hp:fR g p){q:Pos}(h:nG g p q):fY m q≤fY m p:=by
 obtain⟨_,h⟩:=h
 split at h
 ·exact Qh hg hv hp h
 ·rcases h with⟨o,h,rfl⟩|h
  ·exact Qh hg hv hp h
  ·exact Int.le_of_eq (S6 hg hv.ok hp h)
