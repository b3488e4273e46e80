/- 39 -/
import Derived.Test.YtnaefnajkaohgaaGreatDoorH38
set_option linter.all false
namespace Go.Proofs.YtnaefnajkaohgaaGreatDoor
open Go Go.AL Classical
set_option maxRecDepth 10000
set_option maxHeartbeats 8000000
def Be(b:Int)(l:List eO):Bool:=l.any fun s=>s.1 == 8&&s.2 == b
def tb(g:eH)(a b:Int):Bool:=(gt g.kinds a).gT.any (Be b)
structure yZ(g:eH)(m:List Int):Prop where
 ok:kD g m
 le:∀ a b:Int,0≤a→a<g.kinds.length→0≤b→b<g.kinds.length→tb g a b=true→gt m b≤gt m a
def N4{α:Type}[Inhabited α](f:α→Bool){l:List α}{i:Int}(i0:0≤i)(hi:i<l.length):(l.take (i+1).toNat).any f=((l.take i.toNat).any f||f (gt l i)):=by
 rw[gx i0 hi,List.any_append];simp
def N0{α:Type}[Inhabited α]{f:α→Bool}{l:List α}{i:Int}(i0:0≤i)(hi:i<l.length)(h:f (gt l i)=true):l.any f=true:=List.any_eq_true.2 ⟨_,eQ i0 hi,h⟩
def PD{α:Type}[Inhabited α]{l l':List α}{n:Int}(h0:0≤n)(h:n<l.length:=by omega):gt (l++l') n=gt l n:=by
 unfold gt
 rw[List.getD_eq_getElem?_getD,List.getD_eq_getElem?_getD,ag (by omega)]
def O9(g:eH)(hg:fe g)(a b:Int)(ha:0≤a∧a<g.kinds.length):Wf T 62 [dG g,.i a,.i b] [] (Is (.b (tb g a b))):=by
 have hk:=hg.gT _ (eQ (l:=g.kinds) ha.1 ha.2)
 refine Yg FQ ?_
 simp[FQ]
 refine eN.e (0:Int) (fun i=>[(1,.i a),(2,.i b),(3,.ptr 0 0 0),(7,.i i)]) (fun i=>[.row 41 0 g.cells]) (fun i=>0≤i∧i≤(gt g.kinds a).gT.length∧((gt g.kinds a).gT.take i.toNat).any (Be b)=false) (fun i=>(gt g.kinds a).gT.length-i.toNat) ?_ ?_
 ·simp
 rintro i ⟨i0,i1,i2⟩
 by_cases hi:i<(gt g.kinds a).gT.length
 ·have hp:=(hk.2 _ (eQ i0 hi)).len
  have hn:=N4 (Be b) i0 hi
  have ft:Be b (gt (gt g.kinds a).gT i)=true→tb g a b=true:=N0 (f:=Be b) i0 hi
  rw[i2,dK]at hn
  simp[hi]
  generalize vZ:gt (gt g.kinds a).gT i=p at *
  (with_reducible repeat' first|refine Xk ?_<;>try simp|refine Xs ?_ ?_<;>intro h<;>(try intro h')<;>(try simp[h])<;>try omega|refine Xg ?_|omega)
  refine eN.e (0:Int) (fun j=>[(1,.i a),(2,.i b),(3,.ptr 0 0 0),(7,.i i),(8,fh p),(9,.i j)]) (fun j=>[.row 41 0 g.cells]) (fun j=>0≤j∧j≤p.length∧(p.take j.toNat).any (fun s=>s.1 == 8&&s.2 == b)=false) (fun j=>p.length-j.toNat) ?_ ?_
  ·simp
  rintro j ⟨j0,j1,j2⟩
  by_cases hj:j<p.length
  ·have K9:=N4 (fun s:eO=>s.1 == 8&&s.2 == b) j0 hj
   have XA:=N0 (f:=fun s:eO=>s.1 == 8&&s.2 == b) j0 hj
   rw[j2,dK]at K9
   simp[hj]
   (with_reducible repeat' first|refine Xk ?_<;>try simp|refine Xs ?_ ?_<;>intro h<;>(try intro h')<;>(try simp[h])<;>try omega|refine Xg ?_|omega)
   ·rw[ft (XA (by simp[*]))]
   ·refine LJ.e (j+1) ?_
    exact eY (by rw[K9];simp[*])
   ·refine LJ.e (j+1) ?_
    exact eY (by rw[K9];simp[*])
  ·rw[jh (by omega)]at j2
   simp[hj]
   (with_reducible repeat' first|refine Xk ?_<;>try simp|refine Xs ?_ ?_<;>intro h<;>(try intro h')<;>(try simp[h])<;>try omega|refine Xg ?_|omega)
   refine LJ.e (i+1) ?_
   exact eY (by rw[hn];exact j2)
 ·rw[jh (by omega)]at i2
  have:tb g a b=false:=i2
  simp[hi,this]
  exact ha
def Kg(g:eH)(hg:fe g)(a:Int)(ha:0≤a∧a<g.kinds.length:=by omega):Wf T 63 [dG g,.i a] [] (Ey dI fun r=>1≤r.length∧r.length≤g.kinds.length∧a∈r∧∀ c:Int,0≤c→c<g.kinds.length→tb g a c=true→c∈r):=by
 have hk:=hg.kinds
 have lz:∀ w:List Int,w.Nodup→(∀ y∈w,0≤y∧y<g.kinds.length)→w.length≤g.kinds.length:=fun w h1 h2=>wv _ w h1 h2
 refine Yg FR ?_
 simp[FR]
 refine eN.e ((0,0,[a]):Int×Nat×List Int) (fun y=>[(2,.ptr 0 0 0),(5,.eF 1 y.2.1 1 0 y.2.2.length),(6,.i y.1)]) (fun y=>[.row 41 0 g.cells,.row 3 y.2.1 (cl f1 y.2.2)]) (fun y=>0≤y.1∧y.1≤y.2.2.length∧y.2.2.Nodup∧(∀ z∈y.2.2,0≤z∧z<g.kinds.length)∧(1≤y.2.2.length∧gt y.2.2 0=a)∧(∀ c:Int,0≤c→c<g.kinds.length→0<y.1→tb g a c=true→c∈y.2.2)) (fun y=>g.kinds.length-y.1.toNat) ?_ ?_
 ·simp;exact nk rfl
 rintro⟨i,gn,w⟩ ⟨i0,i1,i2,i3,i4,i5⟩
 dsimp only at i0 i1 i2 i3 i4 i5 ⊢
 have hw:=lz w i2 i3
 by_cases hi:i<w.length
 ·simp[hi]
  refine eN.e ((0,gn,w):Int×Nat×List Int) (fun y=>[(2,.ptr 0 0 0),(5,.eF 1 y.2.1 1 0 y.2.2.length),(6,.i i),(7,.i y.1)]) (fun y=>[.row 41 0 g.cells,.row 3 y.2.1 (cl f1 y.2.2)]) (fun y=>0≤y.1∧y.1≤g.kinds.length∧y.2.2.Nodup∧(∀ z∈y.2.2,0≤z∧z<g.kinds.length)∧w.length≤y.2.2.length∧gt y.2.2 0=a∧(∀ c:Int,0≤c→c<g.kinds.length→0<i∨c<y.1→tb g a c=true→c∈y.2.2)) (fun y=>g.kinds.length-y.1.toNat) ?_ ?_
  ·simp;exact⟨i2,i3,i4.2,fun c c0 c1 c2=>i5 c c0 c1 (by omega)⟩
  rintro⟨b,gm,u⟩ ⟨b0,b1,b2,b3,b4,b5,b6⟩
  dsimp only at b0 b1 b2 b3 b4 b5 b6 ⊢
  have hu:=lz u b2 b3
  by_cases hb:b<g.kinds.length
  ·simp[hb]
   refine eN.e ((0,false):Int×Bool) (fun y=>[(2,.ptr 0 0 0),(5,.eF 1 gm 1 0 u.length),(6,.i i),(7,.i b),(8,.b y.2),(9,.i y.1)]) (fun y=>[.row 41 0 g.cells,.row 3 gm (cl f1 u)]) (fun y=>0≤y.1∧y.1≤u.length∧y.2=decide (b∈u.take y.1.toNat)) (fun y=>u.length-y.1.toNat) ?_ ?_
   ·simp
   rintro⟨k,kn⟩ ⟨k0,k1,k2⟩
   dsimp only at k0 k1 k2 ⊢
   by_cases hk:k<u.length
   ·cases kn<;>simp[hk]
    ·(with_reducible repeat' first|refine Xk ?_<;>try simp|refine Xs ?_ ?_<;>intro h<;>(try intro h')<;>(try simp[h])<;>try omega|refine Xg ?_|omega)
     refine LJ.e (k+1,decide (gt u k=b)) ?_
     dsimp only
     refine eY ?_
     rw[gx k0 hk]
     simp at k2
     simp[k2,eq_comm]
    ·(with_reducible repeat' first|refine Xk ?_<;>try simp|refine Xs ?_ ?_<;>intro h<;>(try intro h')<;>(try simp[h])<;>try omega|refine Xg ?_|omega)
     refine LJ.e (k+1,true) ?_
     dsimp only
     refine eY ?_
     rw[gx k0 hk]
     simp at k2
     simp[k2]
   ·rw[jh (by omega)]at k2
    cases kn<;>simp[hk]
    ·have tu:b ∉ u:=by simpa using k2
     have zD:=b3 _ (eQ (l:=u) i0 (by omega))
     (with_reducible repeat' first|refine Xk ?_<;>try simp|refine Xs ?_ ?_<;>intro h<;>(try intro h')<;>(try simp[h])<;>try omega|refine Xg ?_|omega)
     refine Yt (O9 g hg _ b zD) ?_
     simp
     (with_reducible repeat' first|refine Xk ?_<;>try simp|refine Xs ?_ ?_<;>intro h<;>(try intro h')<;>(try simp[h])<;>try omega|refine Xg ?_|omega)
     ·refine LJ.e (b+1,gm+1,u ++ [b]) ?_
      dsimp only
      refine⟨by omega,by omega,by omega,aZ.2 ⟨b2,by simp,fun y hy z hz e=>?_⟩,fun z hz=>?_,by simp;omega,?_,fun c c0 c1 c2 c3=>?_⟩
      ·rw[List.mem_singleton]at hz;subst hz;subst e;exact tu hy
      ·rcases List.mem_append.1 hz with hz|hz
       ·exact b3 z hz
       ·rw[List.mem_singleton]at hz;omega
      ·rw[← b5];exact PD (by omega)
      ·by_cases e:c=b
       ·subst e;simp
       ·exact aX _ (b6 c c0 c1 (by omega) c3)
     ·refine LJ.e (b+1,gm,u) ?_
      dsimp only
      refine eY ⟨b2,b3,b4,b5,fun c c0 c1 c2 c3=>?_⟩
      by_cases e:0<i∨c<b
      ·exact b6 c c0 c1 e c3
      ·have e1:c=b:=by omega
       have e2:i=0:=by omega
       have PL:tb g (gt u i) b=false:=by assumption
       rw[e2,b5,← e1,c3]at PL
       cases PL
    ·(with_reducible repeat' first|refine Xk ?_<;>try simp|refine Xs ?_ ?_<;>intro h<;>(try intro h')<;>(try simp[h])<;>try omega|refine Xg ?_|omega)
     refine LJ.e (b+1,gm,u) ?_
     dsimp only
     have tu:b∈u:=by simpa using k2
     refine eY ⟨b2,b3,b4,b5,fun c c0 c1 c2 c3=>?_⟩
     by_cases e:c=b
     ·subst e;exact tu
     ·exact b6 c c0 c1 (by omega) c3
  ·simp[hb]
   (with_reducible repeat' first|refine Xk ?_<;>try simp|refine Xs ?_ ?_<;>intro h<;>(try intro h')<;>(try simp[h])<;>try omega|refine Xg ?_|omega)
   refine LJ.e (i+1,gm,u) ?_
   dsimp only
   exact⟨by omega,by omega,by omega,b2,b3,⟨by omega,b5⟩,fun c c0 c1 _ c3=>b6 c c0 c1 (by omega) c3⟩
 ·simp[hi]
  exact Ey.i w rfl rfl ⟨i4.1,hw,by rw[← i4.2];exact eQ (by omega) (by omega),fun c c0 c1 c3=>i5 c c0 c1 (by omega) c3⟩
def VH(g:eH)(hg:fe g)(m:List Int)(hm:m.length=g.kinds.length):Wf T 35 [dG g,.agg [dI m]] [] (Ey D.b fun b=>b=true→yZ g m):=by
 have hk:=hg.kinds
 refine Yg FA ?_
 simp[FA]
 (with_reducible repeat' first|refine Xk ?_<;>try simp|refine Xs ?_ ?_<;>intro h<;>(try intro h')<;>(try simp[h])<;>try omega|refine Xg ?_|omega)
 refine eN.e (0:Int) (fun i=>[(2,.ptr 0 0 0),(3,.ptr 1 0 0),(5,.i i)]) (fun i=>[.row 41 0 g.cells,.row 50 0 [dI m]]) (fun i=>0≤i∧i≤g.kinds.length∧∀ a:Int,0≤a→a<i→(1≤gt m a∧gt m a≤6)∧∀ b:Int,0≤b→b<g.kinds.length→tb g a b=true→gt m b≤gt m a) (fun i=>g.kinds.length-i.toNat) ?_ ?_
 ·simp;omega
 rintro i ⟨i0,i1,i2⟩
 by_cases hi:i<g.kinds.length
 ·simp[hi]
  (with_reducible repeat' first|refine Xk ?_<;>try simp|refine Xs ?_ ?_<;>intro h<;>(try intro h')<;>(try simp[h])<;>try omega|refine Xg ?_|omega)
  ·exact Ey.i false rfl rfl (by simp)
  ·exact Ey.i false rfl rfl (by simp)
  ·refine eN.e (0:Int) (fun j=>[(2,.ptr 0 0 0),(3,.ptr 1 0 0),(5,.i i),(6,.i j)]) (fun j=>[.row 41 0 g.cells,.row 50 0 [dI m]]) (fun j=>0≤j∧j≤g.kinds.length∧∀ b:Int,0≤b→b<j→tb g i b=true→gt m b≤gt m i) (fun j=>g.kinds.length-j.toNat) ?_ ?_
   ·simp;omega
   rintro j ⟨j0,j1,j2⟩
   by_cases hj:j<g.kinds.length
   ·simp[hj]
    refine Yt (O9 g hg i j ⟨i0,hi⟩) ?_
    simp
    (with_reducible repeat' first|refine Xk ?_<;>try simp|refine Xs ?_ ?_<;>intro h<;>(try intro h')<;>(try simp[h])<;>try omega|refine Xg ?_|omega)
    ·exact Ey.i false rfl rfl (by simp)
    ·refine LJ.e (j+1) ?_
     refine eY (fun b b0 b1 b2=>?_)
     by_cases e:b=j
     ·subst e;omega
     ·exact j2 b b0 (by omega) b2
    ·refine LJ.e (j+1) ?_
     refine eY (fun b b0 b1 b2=>?_)
     by_cases e:b=j
     ·subst e;simp_all
     ·exact j2 b b0 (by omega) b2
   ·simp[hj]
    (with_reducible repeat' first|refine Xk ?_<;>try simp|refine Xs ?_ ?_<;>intro h<;>(try intro h')<;>(try simp[h])<;>try omega|refine Xg ?_|omega)
    refine LJ.e (i+1) ?_
    refine eY (fun a a0 a1=>?_)
    by_cases e:a=i
    ·subst e;exact⟨by omega,fun b b0 b1 b2=>j2 b b0 (by omega) b2⟩
    ·exact i2 a a0 (by omega)
 ·simp[hi]
  refine Ey.i true rfl rfl fun _=>⟨⟨hm,fun x hx=>?_⟩,fun a b a0 a1 b0 b1 h=>(i2 a a0 (by omega)).2 b b0 b1 h⟩
  obtain⟨n,n0,n1,rfl⟩:=pc.1 hx
  exact(i2 n n0 (by omega)).1
def Tg{r:List Int}(h0:(0:Int)∈r)(h1:(1:Int)∈r):2≤r.length:=by
 rcases r with _|⟨a,_|⟨b,r⟩⟩
 ·simp at h0
 ·simp at h0 h1;omega
 ·simp
def VI(g:eH)(hg:fe g):Wf T 36 [dG g] [] (Ey (fun r:List Int=>.agg [dI r]) fun r=>yZ g r):=by
 have hk:=hg.kinds
 refine Yg FB ?_
 simp[FB]
 rcases(show g.kinds.length=1∨g.kinds.length=2 by omega)with e|e
 ·refine eN.un ?_
  refine iP.u ?_
  simp[e]
  refine Yv (Kg g hg 0) fun r hr=>?_
  simp
  refine iP.u ?_
  simp[e]
  obtain⟨h1,h2,h3,h4⟩:=hr
  refine Ey.i [(r.length:Int)] rfl rfl ⟨⟨by simp[e],fun x hx=>?_⟩,fun a b a0 a1 b0 b1 h=>?_⟩
  ·simp at hx;omega
  ·have e1:a=0:=by omega
   have e2:b=0:=by omega
   rw[e1,e2];exact cQ _
 ·refine eN.un ?_
  refine iP.u ?_
  simp[e]
  refine Yv (Kg g hg 0) fun r hr=>?_
  simp
  refine iP.u ?_
  simp[e]
  refine Yv (Kg g hg 1) fun r2 uR=>?_
  simp
  refine iP.u ?_
  simp[e]
  obtain⟨h1,h2,h3,h4⟩:=hr
  obtain⟨k1,k2,k3,k4⟩:=uR
  refine Ey.i [(r.length:Int),(r2.length:Int)] rfl rfl ⟨⟨by simp[e],fun x hx=>?_⟩,fun a b a0 a1 b0 b1 h=>?_⟩
  ·simp at hx;omega
  ·have g0:gt [(r.length:Int),(r2.length:Int)] 0=r.length:=rfl
   have g1:gt [(r.length:Int),(r2.length:Int)] 1=r2.length:=rfl
   rcases(show a=0∨a=1 by omega)with rfl|rfl<;>rcases(show b=0∨b=1 by omega)with rfl|rfl
   ·exact cQ _
   ·have:=Tg h3 (h4 1 (by omega) (by omega) h)
    rw[g0,g1];omega
   ·have:=Tg (k4 0 (by omega) (by omega) h) k3
    rw[g0,g1];omega
   ·exact cQ _
def Vt(g:eH)(hg:fe g)(a0 a1 a2 a3 a4 a5:Int)(h:∀ n∈[a0,a1,a2,a3,a4,a5],0≤n∧n<256):Wf T 13 [dG g,dW [a0,a1,a2,a3,a4,a5]] [] (Ey (fun r:List Int=>.agg [dI r]) fun r=>yZ g r):=by
 refine Yg D4 ?_
 simp[D4,dW]
 have c:=f34 g hg a0 a1 a2 a3 a4 a5 h
 simp only[dW,List.map]at c
 refine Yq (c) fun m hm=>?_
 simp
 refine Yq (VH g hg m hm) fun b hb=>?_
 simp
 (with_reducible repeat' first|refine Xk ?_<;>try simp|refine Xs ?_ ?_<;>intro h<;>(try intro h')<;>(try simp[h])<;>try omega|refine Xg ?_|omega)
 ·exact Ey.i m rfl rfl (hb (by assumption))
 ·refine Yq (VI g hg) fun r hr=>?_
  simp
  exact Ey.i r rfl rfl hr
end Go.Proofs.YtnaefnajkaohgaaGreatDoor
namespace Go.Proofs.YtnaefnajkaohgaaGreatDoor
open Go Go.AL Classical
section
variable{g:eH}{l:List Pos}{nx:List (List Int)}{part:List Int}{bu:Int}
structure Agr(L:Nat)(S:Int→Prop)(v:List eO)(b:List Bool)(v':List eO)(b':List Bool):Prop where
 vl:v.length=L
 bl:b.length=L
 vl':v'.length=L
 bl':b'.length=L
 eb:∀ k:Int,0≤k→k<L→S k→gt b k=gt b' k
 ev:∀ k:Int,0≤k→k<L→S k→gt b k=false→gt v k=gt v' k
structure ahe(l:List Pos)(nx:List (List Int))(part:List Int)(S:Int→Prop):Prop where
 own:∀ i∈part,S i
 next:∀ i∈part,∀ k∈gt nx i,S k
theorem PC(v:List eO)(b:List Bool):∀ (k:Nat) (j:Int),0≤j→j<k→gt b j=false→(gt v j).1≠2→(gt v j).2≤oW v b k
 | 0,j,j0,j1,_,_=>by omega
 | k+1,j,j0,j1,h1,h2=>by
  rw[oW]
  by_cases e:j=(k:Int)
  ·subst e
   rw[if_pos ⟨h1,h2⟩];omega
  ·have:=PC v b k j j0 (by omega) h1 h2
   split<;>omega
def rep(n:Nat):List Bool:=List.replicate n false
def Dd(n:Nat):(rep n).length=n:=by simp[rep]
def V3(o:mG g l nx part bu)(pr:Int){v:List eO}(hv:v.length=l.length):(kG g l nx part pr v (rep l.length)).2.2=rep l.length:=by
 have hb:=Dd l.length
 obtain⟨m1,m2⟩:=Mh o hb
 obtain⟨⟨r1,r2⟩,r3⟩:=I0 o pr 4001 0 v (jR (rep l.length) (fun _=>true) part) 0 hv m1
 obtain⟨f1,f2⟩:=Hh o r1 r2
 have h1:=(zk o pr hv hb).1.2
 refine Hu (by rw[h1,hb]) fun j j0 j1=>?_
 rw[h1]at j1
 have hf:gt (rep l.length) j=false:=zo j0
 rw[hf]
 unfold kG
 dsimp only
 rw[(f2 j j0 j1).2]
 split
 ·rfl
 ·rename_i hj
  rw[(r3 j j0 j1 hj).2,m2 j j0 j1,if_neg hj,hf]
end
section
variable{g:eH}{l:List Pos}{m:List Int}
end
end Go.Proofs.YtnaefnajkaohgaaGreatDoor
namespace Go.Proofs.YtnaefnajkaohgaaGreatDoor
open Go Go.AL Classical
structure ub where
 ov:Int→Bool
 rs:Int→Int
 nx:List (List Int)
def nB(A:ub)(v:List eO)(i:Int):Prop:=
 (A.ov i=true∧gt v i=(A.rs i,0))∨(A.ov i=false∧(
  (∃ n,1≤n∧gt v i=(1,n)∧(∃ k∈gt A.nx i,gt v k=(3,n-1))∧∀ k∈gt A.nx i,(gt v k).1=3→n-1≤(gt v k).2) ∨
  (∃ n,1≤n∧gt v i=(3,n)∧(∀ k∈gt A.nx i,(gt v k).1=1∧(gt v k).2≤n-1)∧∃ k∈gt A.nx i,(gt v k).2=n-1) ∨
  (gt v i=(2,0)∧(∀ k∈gt A.nx i,(gt v k).1≠3)∧¬ (gt A.nx i≠[]∧∀ k∈gt A.nx i,(gt v k).1=1))))
def nB.n0{A:ub}{v:List eO}{i:Int}(h:nB A v i):0≤(gt v i).2:=by
 rcases h with⟨_,e⟩|⟨_,⟨n,h,e,_⟩|⟨n,h,e,_⟩|⟨e,_⟩⟩<;>rw[e]<;>simp<;>omega
def nB.congr{A:ub}{v v':List eO}{i:Int}(h:nB A v i)(hi:gt v' i=gt v i)(hk:∀ k∈gt A.nx i,gt v' k=gt v k):nB A v' i:=by
 rcases h with⟨c1,c2⟩|⟨c1,⟨q,q1,c2,⟨k,jl,c3⟩,c4⟩|⟨q,q1,c2,c3,k,jl,c4⟩|⟨c2,c3,c4⟩⟩
 ·exact .inl ⟨c1,by rw[hi];exact c2⟩
 ·exact .inr ⟨c1,.inl ⟨q,q1,by rw[hi];exact c2,⟨k,jl,by rw[hk k jl];exact c3⟩,fun p hp=>by rw[hk p hp];exact c4 p hp⟩⟩
 ·exact .inr ⟨c1,.inr (.inl ⟨q,q1,by rw[hi];exact c2,fun p hp=>by rw[hk p hp];exact c3 p hp,k,jl,by rw[hk k jl];exact c4⟩)⟩
 ·exact .inr ⟨c1,.inr (.inr ⟨by rw[hi];exact c2,fun p hp=>by rw[hk p hp];exact c3 p hp,fun⟨a1,a2⟩=>c4 ⟨a1,fun p hp=>by rw[← hk p hp];exact a2 p hp⟩⟩)⟩
section
variable{A:ub}{S:Int→Prop}{v v':List eO}
end
noncomputable def pn(g:eH)(l:List Pos)(nx:List (List Int)):ub:=⟨fun i=>(stat g (gt l i)).2,fun i=>(stat g (gt l i)).1,nx⟩
end Go.Proofs.YtnaefnajkaohgaaGreatDoor
namespace Go.Proofs.YtnaefnajkaohgaaGreatDoor
open Go Go.AL Classical
theorem Ts{v:List eO}{b:List Bool}{x:List Int}:∀ n:Nat,n≤x.length→(∀ j:Nat,j<n→gt b (gt x (j:Int))=false∧(gt v (gt x (j:Int))).1=1)→(ju v b x n).1=n
 | 0,_,_=>rfl
 | n+1,hn,h=>by
  rw[ju,if_pos (h n (by omega))]
  have:=Ts (v:=v) (b:=b) (x:=x) n (by omega) fun j hj=>h j (by omega)
  dsimp only
  omega
theorem Nd{v:List eO}{b:List Bool}{x:List Int}:∀ n:Nat,(ju v b x n).1=n→∀ j:Nat,j<n→gt b (gt x (j:Int))=false∧(gt v (gt x (j:Int))).1=1
 | 0,_,j,hj=>by omega
 | n+1,h,j,hj=>by
  have ft:=Az v b x n
  rw[ju]at h
  split at h
  ·rename_i hc
   dsimp only at h
   by_cases e:j=n
   ·subst e;exact hc
   ·exact Nd (v:=v) (b:=b) (x:=x) n (by omega) j (by omega)
  ·omega
theorem Jy{v:List eO}{b:List Bool}{x:List Int}:∀ n:Nat,(ju v b x n).1=n→∀ j:Nat,j<n→(gt v (gt x (j:Int))).2≤(ju v b x n).2
 | 0,_,j,hj=>by omega
 | n+1,h,j,hj=>by
  have ft:=Az v b x n
  rw[ju]at h ⊢
  split at h
  ·rename_i hc
   rw[if_pos hc]
   dsimp only at h ⊢
   by_cases e:j=n
   ·subst e;omega
   ·have:=Jy (v:=v) (b:=b) (x:=x) n (by omega) j (by omega)
    omega
  ·omega
def x7{x:List Int}{k:Int}:k∈x↔∃ j:Nat,j<x.length∧gt x (j:Int)=k:=by
 rw[pc]
 constructor
 ·rintro⟨n,n0,n1,e⟩
  exact⟨n.toNat,by omega,by rw[show((n.toNat:Nat):Int)=n by omega];exact e⟩
 ·rintro⟨j,hj,e⟩
  exact⟨j,by omega,by omega,e⟩
section
variable{g:eH}{l:List Pos}{nx:List (List Int)}{part:List Int}{bu:Int}
structure FI(g:eH)(l:List Pos)(nx:List (List Int))(part:List Int)(v0:List eO)(n:Int)(v:List eO)(b:List Bool):Prop where
 vl:v.length=l.length
 bl:b.length=l.length
 out:∀ k:Int,0≤k→k<l.length→k ∉ part→gt b k=false∧gt v k=gt v0 k
 dec:∀ i∈part,gt b i=false→(0≤(gt v i).2∧(gt v i).2<n)∧(((stat g (gt l i)).2=true∧gt v i=((stat g (gt l i)).1,0))∨((stat g (gt l i)).2=false∧(
  (∃ m,1≤m∧gt v i=(1,m)∧(∃ k∈gt nx i,gt b k=false∧gt v k=(3,m-1))∧∀ k∈gt nx i,gt b k=false→(gt v k).1=3→m-1≤(gt v k).2) ∨
  (∃ m,1≤m∧gt v i=(3,m)∧(∀ k∈gt nx i,gt b k=false∧(gt v k).1=1∧(gt v k).2≤m-1)∧∃ k∈gt nx i,(gt v k).2=m-1))))
 yg:∀ i∈part,gt b i=true→0<n→(stat g (gt l i)).2=false∧(∀ k∈gt nx i,gt b k=false→(gt v k).1=3→n-1≤(gt v k).2) ∧
  (gt nx i≠[]→(∀ k∈gt nx i,gt b k=false∧(gt v k).1=1)→∃ k∈gt nx i,n-1≤(gt v k).2)
def FI.step(o:mG g l nx part bu){v0:List eO}(h0:∀ k:Int,0≤k→k<l.length→0≤(gt v0 k).2){n:Int}(n0:0≤n){v:List eO}{b:List Bool}(h:FI g l nx part v0 n v b):FI g l nx part v0 (n+1) (rV g l nx part v b n) (rB g l nx part v b n):=by
 have hV:=fun{k:Int} (k0:0≤k) (k1:k<l.length)=>Kz o h.vl h.bl (n:=n) k0 k1
 have hB:=fun{k:Int} (k0:0≤k) (k1:k<l.length)=>BL o (v:=v) h.bl (n:=n) k0 k1
 have ft:∀ i∈part,∀ k∈gt nx i,0≤k∧k<l.length:=fun i hi k hk=>(o.IJ i (o.prt i hi).1 (o.prt i hi).2).1 k hk
 have hd:∀ k,k∈oV g l nx part v b n↔k∈part∧(jc g (gt l k) v b (gt nx k) n).2=true∧gt b k=true:=fun k=>by
  unfold oV jQ
  rw[aH,ah]
 have lW:∀ k,k∈oV g l nx part v b n→(qg g l nx v b n k).2=n:=fun k hk=>by
  unfold qg jc
  split
  ·rename_i e;rw[e]
  ·split<;>rfl
 have hold:∀ k:Int,0≤k→k<l.length→gt b k=false→gt (rB g l nx part v b n) k=false∧gt (rV g l nx part v b n) k=gt v k:=fun k k0 k1 e=>by
  have hn:k ∉ oV g l nx part v b n:=fun hm=>by rw[((hd k).1 hm).2.2]at e;cases e
  rw[hV k0 k1,hB k0 k1,if_neg hn,if_neg hn]
  exact⟨e,rfl⟩
 have Ch:∀ k:Int,0≤k→k<l.length→gt (rB g l nx part v b n) k=false→(gt b k=false∧gt (rV g l nx part v b n) k=gt v k)∨(k∈oV g l nx part v b n∧(gt (rV g l nx part v b n) k).2=n):=fun k k0 k1 e=>by
  by_cases hm:k∈oV g l nx part v b n
  ·right
   rw[hV k0 k1,if_pos hm]
   exact⟨hm,lW k hm⟩
  ·left
   rw[hB k0 k1,if_neg hm]at e
   rw[hV k0 k1,if_neg hm]
   exact⟨e,rfl⟩
 have qO:∀ k:Int,0≤k→k<l.length→gt b k=false→0≤(gt v k).2:=fun k k0 k1 e=>by
  by_cases hp:k∈part
  ·exact(h.dec k hp e).1.1
  ·rw[(h.out k k0 k1 hp).2];exact h0 k k0 k1
 refine⟨IU o h.vl h.bl,IT o h.bl,fun k k0 k1 hk=>?_,fun i hi e=>?_,fun i hi e _=>?_⟩
 ·obtain⟨a,c⟩:=h.out k k0 k1 hk
  obtain⟨a',c'⟩:=hold k k0 k1 a
  exact⟨a',c'.trans c⟩
 ·obtain⟨i0,i1⟩:=o.prt i hi
  rcases Ch i i0 i1 e with⟨e1,e2⟩|⟨hm,ama⟩
  ·obtain⟨hr,hc⟩:=h.dec i hi e1
   rw[e2]
   refine⟨⟨hr.1,by omega⟩,?_⟩
   rcases hc with⟨c1,c2⟩|⟨c1,⟨m,m1,c2,⟨k,hk,c3,c4⟩,c5⟩|⟨m,m1,c2,c3,k,hk,c4⟩⟩
   ·exact .inl ⟨c1,c2⟩
   ·refine .inr ⟨c1,.inl ⟨m,m1,c2,⟨k,hk,?_⟩,fun q hq a1 a2=>?_⟩⟩
    ·have:=hold k (ft i hi k hk).1 (ft i hi k hk).2 c3
     exact⟨this.1,this.2.trans c4⟩
    ·rcases Ch q (ft i hi q hq).1 (ft i hi q hq).2 a1 with⟨b1,b2⟩|⟨_,b2⟩
     ·rw[b2]at a2 ⊢;exact c5 q hq b1 a2
     ·rw[c2]at hr
      dsimp only at hr
      omega
   ·refine .inr ⟨c1,.inr ⟨m,m1,c2,fun q hq=>?_,k,hk,?_⟩⟩
    ·obtain⟨d1,d2,d3⟩:=c3 q hq
     have:=hold q (ft i hi q hq).1 (ft i hi q hq).2 d1
     rw[this.2]
     exact⟨this.1,d2,d3⟩
    ·rw[(hold k (ft i hi k hk).1 (ft i hi k hk).2 (c3 k hk).1).2];exact c4
  ·obtain⟨_,h2,h3⟩:=(hd i).1 hm
   refine⟨by omega,?_⟩
   have hv:gt (rV g l nx part v b n) i=(jc g (gt l i) v b (gt nx i) n).1:=by rw[hV i0 i1,if_pos hm];rfl
   rw[hv]
   by_cases e0:n=0
   ·subst e0
    unfold jc at h2 ⊢
    rw[if_pos rfl]at h2 ⊢
    exact .inl ⟨h2,rfl⟩
   ·obtain⟨p1,p2,p3⟩:=h.yg i hi h3 (by omega)
    refine .inr ⟨p1,?_⟩
    unfold jc at h2 ⊢
    rw[if_neg e0]at h2 ⊢
    by_cases hl:rQ v b (gt nx i) n
    ·rw[if_pos hl]
     obtain⟨k,hk,c3,c4⟩:=hl
     refine .inl ⟨n,by omega,rfl,⟨k,hk,?_⟩,fun q hq a1 a2=>?_⟩
     ·have:=hold k (ft i hi k hk).1 (ft i hi k hk).2 c3
      exact⟨this.1,this.2.trans c4⟩
     ·rcases Ch q (ft i hi q hq).1 (ft i hi q hq).2 a1 with⟨b1,b2⟩|⟨_,b2⟩
      ·rw[b2]at a2 ⊢;exact p2 q hq b1 a2
      ·omega
    ·rw[if_neg hl]at h2 ⊢
     simp only[decide_eq_true_eq]at h2
     obtain⟨w0,w1,w2⟩:=h2
     have hc:=Nd _ w1
     have hg:=Jy _ w1
     refine .inr ⟨n,by omega,rfl,fun q hq=>?_,?_⟩
     ·obtain⟨j,hj,rfl⟩:=x7.1 hq
      have hb:=hold _ (ft i hi _ hq).1 (ft i hi _ hq).2 (hc j hj).1
      have:=hg j hj
      rw[hb.2]
      exact⟨hb.1,(hc j hj).2,by omega⟩
     ·rcases Nf v b (gt nx i) (gt nx i).length (Nat.le_refl _)with e1|⟨q,hq,q1,q2,q3⟩
      ·omega
      ·refine⟨q,hq,?_⟩
       rw[(hold q (ft i hi q hq).1 (ft i hi q hq).2 q1).2]
       omega
 ·obtain⟨i0,i1⟩:=o.prt i hi
  have lz:i ∉ oV g l nx part v b n:=fun hm=>by
   rw[hB i0 i1,if_pos hm]at e;cases e
  rw[hB i0 i1,if_neg lz]at e
  have kS:(jc g (gt l i) v b (gt nx i) n).2=false:=by
   by_cases hx:(jc g (gt l i) v b (gt nx i) n).2=true
   ·exact absurd ((hd i).2 ⟨hi,hx,e⟩) lz
   ·simpa using hx
  have Yf:(stat g (gt l i)).2=false:=by
   by_cases e0:n=0
   ·unfold jc at kS
    rw[if_pos e0]at kS
    exact kS
   ·exact(h.yg i hi e (by omega)).1
  have lq:n≠0→¬ rQ v b (gt nx i) n:=fun e0 hl=>by
   unfold jc at kS
   rw[if_neg e0,if_pos hl]at kS
   cases kS
  refine⟨Yf,fun k hk a1 a2=>?_,fun gw ha=>?_⟩
  ·rcases Ch k (ft i hi k hk).1 (ft i hi k hk).2 a1 with⟨b1,b2⟩|⟨_,b2⟩
   ·rw[b2]at a2 ⊢
    by_cases e0:n=0
    ·have:=qO k (ft i hi k hk).1 (ft i hi k hk).2 b1
     omega
    ·have h1:=(h.yg i hi e (by omega)).2.1 k hk b1 a2
     have h2:(gt v k).2≠n-1:=fun h3=>lq e0 ⟨k,hk,b1,Prod.ext a2 h3⟩
     omega
   ·omega
  ·by_cases hx:∃ k∈gt nx i,n≤(gt (rV g l nx part v b n) k).2
   ·obtain⟨k,hk,hx⟩:=hx
    exact⟨k,hk,by omega⟩
   ·exfalso
    have fq:∀ k∈gt nx i,gt b k=false∧(gt v k).1=1∧(gt v k).2<n:=fun k hk=>by
     have h1:¬ n≤(gt (rV g l nx part v b n) k).2:=fun h2=>hx ⟨k,hk,h2⟩
     obtain⟨a1,a2⟩:=ha k hk
     rcases Ch k (ft i hi k hk).1 (ft i hi k hk).2 a1 with⟨b1,b2⟩|⟨_,b2⟩
     ·rw[b2]at a2 h1
      exact⟨b1,a2,by omega⟩
     ·omega
    have jm:0<(gt nx i).length:=az.2 gw
    by_cases e0:n=0
    ·have hk:=eQ (l:=gt nx i) (n:=0) (by omega) (by omega)
     have h1:=fq _ hk
     have h2:=qO _ (ft i hi _ hk).1 (ft i hi _ hk).2 h1.1
     omega
    ·obtain⟨k,hk,h1⟩:=(h.yg i hi e (by omega)).2.2 gw fun k hk=>⟨(fq k hk).1,(fq k hk).2.1⟩
     have w1:=Ts (v:=v) (b:=b) (x:=gt nx i) _ (Nat.le_refl _) fun j hj=>by
      have:=fq _ (x7.2 ⟨j,hj,rfl⟩)
      exact⟨this.1,this.2.1⟩
     have w2:(ju v b (gt nx i) (gt nx i).length).2=n-1:=by
      obtain⟨j,hj,rfl⟩:=x7.1 hk
      have g1:=Jy _ w1 j hj
      rcases Nf v b (gt nx i) (gt nx i).length (Nat.le_refl _)with e1|⟨q,hq,_,_,q3⟩
      ·have:=qO _ (ft i hi _ hk).1 (ft i hi _ hk).2 (fq _ hk).1
       omega
      ·have:=(fq q hq).2.2
       omega
     unfold jc at kS
     rw[if_neg e0,if_neg (lq e0)]at kS
     simp only[decide_eq_false_iff_not]at kS
     exact kS ⟨by omega,w1,w2⟩
end
end Go.Proofs.YtnaefnajkaohgaaGreatDoor
namespace Go.Proofs.YtnaefnajkaohgaaGreatDoor
open Go Go.AL Classical
section
variable{g:eH}{l:List Pos}{nx:List (List Int)}{part:List Int}{bu:Int}
def VZ(o:mG g l nx part bu){v0 V:List eO}{B:List Bool}{n:Int}(n0:0<n)(hf:FI g l nx part v0 n V B)
  (hq:∀ k:Int,0≤k→k<l.length→gt B k=false→(gt V k).1≠2→(gt V k).2<n-1):∀ i∈part,nB (pn g l nx) (lG part V B).1 i:=by
 obtain⟨_,f2⟩:=Hh o hf.vl hf.bl
 have ft:∀ i∈part,∀ k∈gt nx i,0≤k∧k<l.length:=fun i hi k hk=>(o.IJ i (o.prt i hi).1 (o.prt i hi).2).1 k hk
 have hk:∀ k:Int,0≤k→k<l.length→gt B k=false→gt (lG part V B).1 k=gt V k:=fun k k0 k1 e=>by
  rw[(f2 k k0 k1).1,if_neg fun h=>by rw[e]at h;exact absurd h.2 (by simp)]
 have hs:∀ k:Int,0≤k→k<l.length→(gt (lG part V B).1 k).1≠2→gt B k=false:=fun k k0 k1 e=>by
  by_cases hp:k∈part
  ·by_cases uG:gt B k=true
   ·rw[(f2 k k0 k1).1,if_pos ⟨hp,uG⟩]at e
    exact absurd rfl e
   ·simpa using uG
  ·exact(hf.out k k0 k1 hp).1
 intro i hi
 obtain⟨i0,i1⟩:=o.prt i hi
 by_cases e:gt B i=true
 ·obtain⟨p1,p2,p3⟩:=hf.yg i hi e n0
  refine .inr ⟨p1,.inr (.inr ⟨by rw[(f2 i i0 i1).1,if_pos ⟨hi,e⟩],fun k jl e3=>?_,fun⟨gw,ha⟩=>?_⟩)⟩
  ·obtain⟨k0,k1⟩:=ft i hi k jl
   have e4:=hs k k0 k1 (by omega)
   rw[hk k k0 k1 e4]at e3
   have h1:=p2 k jl e4 e3
   have h2:=hq k k0 k1 e4 (by omega)
   omega
  ·obtain⟨k,jl,h1⟩:=p3 gw fun k jl=>by
    obtain⟨k0,k1⟩:=ft i hi k jl
    have e3:=ha k jl
    have e4:=hs k k0 k1 (by omega)
    rw[hk k k0 k1 e4]at e3
    exact⟨e4,e3⟩
   obtain⟨k0,k1⟩:=ft i hi k jl
   have e3:=ha k jl
   have e4:=hs k k0 k1 (by omega)
   rw[hk k k0 k1 e4]at e3
   have h2:=hq k k0 k1 e4 (by omega)
   omega
 ·have e':gt B i=false:=by simpa using e
  rcases(hf.dec i hi e').2 with⟨c1,c2⟩|⟨c1,⟨m,L8,c2,⟨k,jl,c3,c4⟩,c5⟩|⟨m,L8,c2,c3,k,jl,c4⟩⟩
  ·exact .inl ⟨c1,by rw[hk i i0 i1 e'];exact c2⟩
  ·refine .inr ⟨c1,.inl ⟨m,L8,by rw[hk i i0 i1 e'];exact c2,⟨k,jl,by rw[hk k (ft i hi k jl).1 (ft i hi k jl).2 c3];exact c4⟩,fun q zO e3=>?_⟩⟩
   obtain⟨q0,q1⟩:=ft i hi q zO
   have e4:=hs q q0 q1 (by omega)
   rw[hk q q0 q1 e4]at e3 ⊢
   exact c5 q zO e4 e3
  ·refine .inr ⟨c1,.inr (.inl ⟨m,L8,by rw[hk i i0 i1 e'];exact c2,fun q zO=>?_,k,jl,?_⟩)⟩
   ·obtain⟨d1,d2⟩:=c3 q zO
    rw[hk q (ft i hi q zO).1 (ft i hi q zO).2 d1]
    exact d2
   ·rw[hk k (ft i hi k jl).1 (ft i hi k jl).2 (c3 k jl).1];exact c4
end
section
variable{g:eH}{l:List Pos}{m:List Int}
end
end Go.Proofs.YtnaefnajkaohgaaGreatDoor
namespace Go.Proofs.YtnaefnajkaohgaaGreatDoor
open Go Go.AL Classical
set_option maxRecDepth 10000
set_option maxHeartbeats 4000000
def Oe{n:Nat}{N:Int→Int}{K:Int→Prop}(hK:∀ i,K i→(0≤i∧i<n)∧0≤N i)(h:∀ i,K i→N i=0∨∃ k,K k∧N k=N i-1):∀ i,K i→N i<n:=by
 have all:∀ (a:Nat) (i:Int),K i→N i=a→∀ m:Nat,m≤a→∃ q,K q∧N q=m:=by
  intro a
  induction a with
  | zero=>exact fun i hi e m hm=>⟨i,hi,by omega⟩
  | succ a ih=>
   intro i hi e m hm
   by_cases em:m=a+1
   ·exact⟨i,hi,by omega⟩
   rcases h i hi with h1|⟨k,hk,h1⟩
   ·omega
   ·exact ih k hk (by omega) m (by omega)
 intro i hi
 have h0:=hK i hi
 have:=rR (List.nodup_range (n:=(N i).toNat+1)) (m:=(upto n).map fun k=>(N k).toNat) fun x hx=>by
  obtain⟨q,hq,e⟩:=all (N i).toNat i hi (by omega) x (by have:=aY.1 hx;omega)
  exact ao.2 ⟨q,jI.2 (hK q hq).1,by rw[e];rfl⟩
 simp[upto]at this
 omega
def Rp{A:ub}{n:Nat}{v:List eO}(hS:∀ i:Int,0≤i→i<n→∀ k∈gt A.nx i,0≤k∧k<n)(h:∀ i:Int,0≤i→i<n→nB A v i){i:Int}(i0:0≤i)(i1:i<n):0≤(gt v i).2∧(gt v i).2<n:=by
 refine⟨(h i i0 i1).n0,Oe (N:=fun i=>(gt v i).2) (K:=fun i=>0≤i∧i<n) (fun i hi=>⟨hi,(h i hi.1 hi.2).n0⟩) (fun i hi=>?_) i ⟨i0,i1⟩⟩
 rcases h i hi.1 hi.2 with⟨_,e2⟩|⟨_,⟨a,a1,e2,⟨k,hk,ek⟩,_⟩|⟨a,a1,e2,_,k,hk,ek⟩|⟨e2,_⟩⟩
 ·left;rw[e2]
 ·right;exact⟨k,hS i hi.1 hi.2 k hk,by rw[e2,ek]⟩
 ·right;exact⟨k,hS i hi.1 hi.2 k hk,by rw[e2,ek]⟩
 ·left;rw[e2]
def kV(v:List Kn):List eO:=v.map fun x=>(x.1,x.2.1)
def kB(v:List Kn):List Bool:=v.map fun x => !x.2.2
def xu{v:List Kn}{k:Int}(k0:0≤k)(k1:k<v.length):gt (kV v) k=((gt v k).1,(gt v k).2.1):=by
 rw[mw k0 (by unfold kV;rw[List.length_map];exact k1),mw k0 k1];unfold kV;rw[List.getElem_map]
def tl{v:List Kn}{k:Int}(k0:0≤k)(k1:k<v.length):gt (kB v) k = !(gt v k).2.2:=by
 rw[mw k0 (by unfold kB;rw[List.length_map];exact k1),mw k0 k1];unfold kB;rw[List.getElem_map]
@[local simp] theorem anC:max (0:Int) (-1)=0:=by decide
noncomputable def n4(v:List Kn)(x:List Int)(n:Int):Kn:=if rQ (kV v) (kB v) x n then(1,n,true)else if (ju (kV v) (kB v) x x.length).1=x.length∧(ju (kV v) (kB v) x x.length).2=n-1 then(3,n,true)else(0,0,false)
def O'(v:List Kn)(l:List Int)(n:Int)(hn:1≤n∧n≤4000)(h0:0<l.length)(hl:l.length<2 ^ 40)(hr:∀ k∈l,0≤k∧k<v.length)(hw:∀ k∈l,(gt v k).2.2=true→0≤(gt v k).2.1) :
  Wf T 67 [.sl 3 (v.map fK),dI l,.i n] [] (Is (.agg [.i (n4 v l n).1,.i (n4 v l n).2.1,.b (n4 v l n).2.2])):=by
 refine Yg FV ?_
 simp[FV]
 refine eN.e (0:Int) (fun y=>[(0,.sl 3 (v.map fK)),(1,dI l),(2,.i n),(6,.ptr 0 0 0),(7,.i (ju (kV v) (kB v) l y.toNat).1),(8,.i (max 0 (ju (kV v) (kB v) l y.toNat).2)),(9,.i y)]) (fun y=>[.row 134 0 [.i 0,.i 0,.b false]]) (fun y=>0≤y∧y≤l.length∧∀ k∈l.take y.toNat,¬ (gt (kB v) k=false∧gt (kV v) k=(3,n-1))) (fun y=>(l.length-y).toNat) ?_ ?_
 ·simp
 rintro j ⟨j0,j1,j2⟩
 dsimp only at j0 j1 j2 ⊢
 by_cases hj:j<l.length
 ·have hk:=hr _ (eQ j0 hj)
  have iY:=Nc (v:=kV v) (b:=kB v) (x:=l) j0
  have hV:=xu hk.1 hk.2
  have hB:=tl hk.1 hk.2
  have hwi:=Az (kV v) (kB v) l j.toNat
  have kI:¬ (gt (kB v) (gt l j)=false∧gt (kV v) (gt l j)=(3,n-1))→∀ k∈l.take (j+1).toNat,¬ (gt (kB v) k=false∧gt (kV v) k=(3,n-1)):=fun h k hk=>by
   rw[gx j0 hj]at hk
   rcases List.mem_append.1 hk with hk|hk
   ·exact j2 k hk
   ·rw[List.mem_singleton.1 hk];exact h
  rw[hV,hB]at kI iY
  simp[hj]
  generalize gt v (gt l j)=r at *
  obtain⟨o,m,s⟩:=r
  dsimp only at kI iY hV hB ⊢
  (with_reducible repeat' first|refine Xk ?_<;>try simp|refine Xs ?_ ?_<;>intro h<;>(try intro h')<;>(try simp[h])<;>try omega|refine Xg ?_|omega)
  ·have hl:rQ (kV v) (kB v) l n:=⟨_,eQ j0 hj,by rw[hB];simp[*],by rw[hV];simp[*]⟩
   simp[n4,hl]
  ·refine LJ.i (j+1) (by first|rfl|simp[iY, *]) (by first|rfl|simp[iY, *]) rfl rfl ?_
   exact eY (kI (by simp[*]))
  ·refine LJ.i (j+1) (by first|rfl|simp[iY, *]) (by first|rfl|simp[iY, *]) rfl rfl ?_
   exact eY (kI (by simp[*]))
  ·refine LJ.i (j+1) (by first|rfl|simp[iY, *]) (by first|rfl|simp[iY, *]) rfl rfl ?_
   exact eY (kI (by simp[*]))
 ·have uM:j=l.length:=by omega
  subst uM
  have hl:¬ rQ (kV v) (kB v) l n:=fun⟨k,hk,h⟩=>j2 k (by rw[jh (by omega)];exact hk) h
  have mz:(ju (kV v) (kB v) l l.length).1=l.length→max 0 (ju (kV v) (kB v) l l.length).2=(ju (kV v) (kB v) l l.length).2:=fun e=>by
   have h1:=Jy _ e 0 h0
   have h2:=Nd _ e 0 h0
   have hm:=eQ (l:=l) (n:=((0:Nat):Int)) (by omega) (by omega)
   have hk:=hr _ hm
   rw[tl hk.1 hk.2]at h2
   rw[xu hk.1 hk.2]at h1
   have:=hw _ hm (by simpa using h2.1)
   dsimp only at h1
   omega
  simp[hj]
  (with_reducible repeat' first|refine Xk ?_<;>try simp|refine Xs ?_ ?_<;>intro h<;>(try intro h')<;>(try simp[h])<;>try omega|refine Xg ?_|omega)
  ·rw[mz ‹_›]at h;simp[n4,hl, *]
  ·rw[mz ‹_›]at h;simp[n4,hl, *]
  ·simp[n4,hl, *]
end Go.Proofs.YtnaefnajkaohgaaGreatDoor
namespace Go.Proofs.YtnaefnajkaohgaaGreatDoor
open Go Go.AL Classical
noncomputable def lu(m:List Int)(l:List Pos)(out:List Int)(i q:Int):Int:=if gM m (gt l q)<gM m (gt l i)then 0 else gt out q
def jD(v:List eO)(o:Int)(r:Int→Int)(x:List Int):Nat→Int
 | 0 => -1
 | j+1=>if o=3 then max (jD v o r x j) (r (gt x (j:Int)))else if (gt v (gt x (j:Int))).1=3∧(jD v o r x j<0∨r (gt x (j:Int))<jD v o r x j)then r (gt x (j:Int))else jD v o r x j
def pJ(v:List eO)(o:Int)(r:Int→Int)(x:List Int):Int:=jD v o r x x.length+1
section
variable{v:List eO}{o:Int}{r r':Int→Int}{x:List Int}
theorem z'(ho:o=3):∀ n:Nat,-1≤jD v o r x n∧(∀ j:Nat,j<n→r (gt x (j:Int))≤jD v o r x n)∧(jD v o r x n = -1∨∃ j:Nat,j<n∧jD v o r x n=r (gt x (j:Int)))
 | 0=>⟨by simp[jD],fun j hj=>by omega,.inl rfl⟩
 | n+1=>by
  obtain⟨a,b,c⟩:=z' ho n
  have e:jD v o r x (n+1)=max (jD v o r x n) (r (gt x (n:Int))):=by rw[jD,if_pos ho]
  rw[e]
  refine⟨by omega,fun j hj=>?_,?_⟩
  ·by_cases ej:j=n
   ·subst ej;omega
   ·have:=b j (by omega);omega
  ·by_cases h:jD v o r x n≤r (gt x (n:Int))
   ·exact .inr ⟨n,by omega,by omega⟩
   ·rcases c with c|⟨j,hj,c⟩
    ·left;omega
    ·exact .inr ⟨j,by omega,by omega⟩
theorem Aa(ho:o≠3)(hr:∀ j:Nat,j<x.length→0≤r (gt x (j:Int))):∀ n:Nat,n≤x.length→-1≤jD v o r x n∧(∀ j:Nat,j<n→(gt v (gt x (j:Int))).1=3→0≤jD v o r x n∧jD v o r x n≤r (gt x (j:Int)))∧(jD v o r x n = -1∨∃ j:Nat,j<n∧(gt v (gt x (j:Int))).1=3∧jD v o r x n=r (gt x (j:Int)))
 | 0,_=>⟨by simp[jD],fun j hj=>by omega,.inl rfl⟩
 | n+1,hn=>by
  obtain⟨a,b,c⟩:=Aa ho hr n (by omega)
  have h0:=hr n (by omega)
  rw[jD,if_neg ho]
  split
  ·rename_i h
   refine⟨by omega,fun j hj h3=>?_,.inr ⟨n,by omega,h.1,rfl⟩⟩
   by_cases ej:j=n
   ·subst ej;omega
   ·have:=b j (by omega) h3;omega
  ·rename_i h
   refine⟨a,fun j hj h3=>?_,?_⟩
   ·by_cases ej:j=n
    ·subst ej
     have h4:¬ (jD v o r x j<0∨r (gt x (j:Int))<jD v o r x j):=fun h5=>h ⟨h3,h5⟩
     omega
    ·exact b j (by omega) h3
   ·rcases c with c|⟨j,hj,c1,c⟩
    ·exact .inl c
    ·exact .inr ⟨j,by omega,c1,c⟩
def aaN(hr:∀ k∈x,0≤r k):0≤pJ v o r x:=by
 have kc:∀ j:Nat,j<x.length→0≤r (gt x (j:Int)):=fun j hj=>hr _ (eQ (by omega) (by omega))
 unfold pJ
 by_cases ho:o=3
 ·have:=(z' (v:=v) (r:=r) (x:=x) ho x.length).1;omega
 ·have:=(Aa (v:=v) ho kc x.length (Nat.le_refl _)).1;omega
def RM(hr:∀ k∈x,0≤r k)(h:∀ k∈x,r k≤r' k):pJ v o r x≤pJ v o r' x:=by
 have kc:∀ j:Nat,j<x.length→0≤r (gt x (j:Int)):=fun j hj=>hr _ (eQ (by omega) (by omega))
 have hh:∀ j:Nat,j<x.length→r (gt x (j:Int))≤r' (gt x (j:Int)):=fun j hj=>h _ (eQ (by omega) (by omega))
 unfold pJ
 by_cases ho:o=3
 ·obtain⟨a,b,c⟩:=z' (v:=v) (r:=r) (x:=x) ho x.length
  obtain⟨a',b',_⟩:=z' (v:=v) (r:=r') (x:=x) ho x.length
  rcases c with c|⟨j,hj,c⟩
  ·omega
  ·have:=hh j hj;have:=b' j hj;omega
 ·obtain⟨a,b,c⟩:=Aa (v:=v) ho kc x.length (Nat.le_refl _)
  obtain⟨a',b',c'⟩:=Aa (v:=v) (r:=r') ho (fun j hj=>cY (kc j hj) (hh j hj)) x.length (Nat.le_refl _)
  rcases c with c|⟨j,hj,h3,c⟩
  ·omega
  ·have h1:=b' j hj h3
   rcases c' with c'|⟨q,hq,q3,c'⟩
   ·omega
   ·have:=b q hq q3;have:=hh q hq;omega
end
def Act(v:List eO)(i:Int):Prop:=(gt v i).1≠2∧(gt v i).2≠0
section
variable{g:eH}{l:List Pos}{m:List Int}{v:List eO}{out:List Int}
noncomputable def mC(g:eH)(l:List Pos)(m:List Int)(v:List eO)(out:List Int)(i:Int):Int:=pJ v (gt v i).1 (lu m l out i) (gt (eS g l) i)
def ZW(g:eH)(l:List Pos)(m:List Int)(v:List eO)(w:List Int):Prop:=∀ i:Int,0≤i→i<l.length→0≤gt w i∧(Act v i→mC g l m v w i≤gt w i)
structure ZI(g:eH)(l:List Pos)(m:List Int)(v:List eO)(out:List Int):Prop where
 len:out.length=l.length
 lo:∀ i:Int,0≤i→i<l.length→0≤gt out i∧gt out i≤(gt v i).2
 na:∀ i:Int,0≤i→i<l.length→¬ Act v i→gt out i=0
 pre:∀ i:Int,0≤i→i<l.length→Act v i→gt out i≤mC g l m v out i
 le:∀ w,ZW g l m v w→∀ i:Int,0≤i→i<l.length→gt out i≤gt w i
def MJ(h:ZI g l m v out){i:Int}{x:List Int}(hx:∀ k∈x,0≤k∧k<l.length):∀ k∈x,0≤lu m l out i k∧lu m l out i k≤gt out k:=fun k hk=>by
 have:=h.lo k (hx k hk).1 (hx k hk).2
 unfold lu
 split<;>omega
def ZI.start(hc:jo g l)(hV:∀ k:Int,0≤k→k<l.length→nB (pn g l (eS g l)) v k):ZI g l m v (List.replicate l.length 0):=by
 have hz:∀ i:Int,0≤i→i<l.length→gt (List.replicate l.length (0:Int)) i=0:=fun i i0 i1=>zo i0 i1
 have lq:∀ i:Int,0≤i→i<l.length→0≤gt (List.replicate l.length (0:Int)) i∧gt (List.replicate l.length (0:Int)) i≤(gt v i).2:=fun i i0 i1=>by
  have:=(hV i i0 i1).n0
  rw[hz i i0 i1];omega
 refine⟨by simp,lq,fun i i0 i1 _=>hz i i0 i1,fun i i0 i1 _=>?_,fun w hw i i0 i1=>by rw[hz i i0 i1];exact(hw i i0 i1).1⟩
 rw[hz i i0 i1]
 refine aaN fun k hk=>?_
 have:=(mB hc i0 i1).2 k hk
 unfold lu
 split
 ·omega
 ·rw[hz k this.1 this.2];omega
def NT(hV:∀ k:Int,0≤k→k<l.length→nB (pn g l (eS g l)) v k){i:Int}(i0:0≤i)(i1:i<l.length)(ha:Act v i):gt (eS g l) i≠[]:=fun e0=>by
 rcases hV i i0 i1 with⟨_,e⟩|⟨_,⟨n,n1,e,⟨k,hk,ek⟩,_⟩|⟨n,n1,e,iF,k,hk,ek⟩|⟨e,_⟩⟩
 ·exact ha.2 (by rw[e])
 ·have jl:k∈gt (eS g l) i:=hk
  rw[e0]at jl;cases jl
 ·have jl:k∈gt (eS g l) i:=hk
  rw[e0]at jl;cases jl
 ·exact ha.1 (by rw[e])
def CV(hc:jo g l)(hV:∀ k:Int,0≤k→k<l.length→nB (pn g l (eS g l)) v k)(h:ZI g l m v out){i:Int}(i0:0≤i)(i1:i<l.length)(ha:Act v i):1≤mC g l m v out i∧mC g l m v out i≤(gt v i).2:=by
 have hx:=(mB hc i0 i1).2
 have hr:=MJ h (i:=i) hx
 have kc:∀ j:Nat,j<(gt (eS g l) i).length→0≤lu m l out i (gt (gt (eS g l) i) (j:Int)):=fun j hj=>(hr _ (eQ (by omega) (by omega))).1
 unfold mC pJ
 rcases hV i i0 i1 with⟨_,e⟩|⟨_,⟨n,n1,e,⟨k,hk,ek⟩,_⟩|⟨n,n1,e,iF,k,hk,ek⟩|⟨e,_⟩⟩
 ·exact absurd (show(gt v i).2=0 by rw[e]) ha.2
 ·rw[e]
  obtain⟨j,hj,rfl⟩:=x7.1 hk
  change j<(gt (eS g l) i).length at hj
  change gt (gt (eS g l) i) (j:Int)∈gt (eS g l) i at hk
  change gt v (gt (gt (eS g l) i) (j:Int))=_ at ek
  have:=(Aa (v:=v) (o:=1) (by decide) kc (gt (eS g l) i).length (Nat.le_refl _)).2.1 j hj (by rw[ek])
  have h2:=(hr _ hk).2
  have h3:=(h.lo _ (hx _ hk).1 (hx _ hk).2).2
  rw[ek]at h3
  dsimp only at h3 ⊢
  omega
 ·rw[e]
  obtain⟨j,hj,rfl⟩:=x7.1 hk
  change j<(gt (eS g l) i).length at hj
  change gt (gt (eS g l) i) (j:Int)∈gt (eS g l) i at hk
  change (gt v (gt (gt (eS g l) i) (j:Int))).2=_ at ek
  obtain⟨a,b,c⟩:=z' (v:=v) (o:=3) (r:=lu m l out i) (x:=gt (eS g l) i) rfl (gt (eS g l) i).length
  have h1:=b j hj
  have h2:=kc j hj
  dsimp only
  refine⟨by omega,?_⟩
  rcases c with c|⟨q,hq,c⟩
  ·omega
  ·have hm:=eQ (l:=gt (eS g l) i) (n:=(q:Int)) (by omega) (by omega)
   have h4:=(hr _ hm).2
   have h5:=(h.lo _ (hx _ hm).1 (hx _ hm).2).2
   have h6:=(iF _ hm).2
   omega
 ·exact absurd (show(gt v i).1=2 by rw[e]) ha.1
def ZI.step(hc:jo g l)(hV:∀ k:Int,0≤k→k<l.length→nB (pn g l (eS g l)) v k)(h:ZI g l m v out){i:Int}(i0:0≤i)(i1:i<l.length)(ha:Act v i):ZI g l m v (pt out i (mC g l m v out i)):=by
 have hl:i<out.length:=by rw[h.len];exact i1
 have hb:=CV hc hV h i0 i1 ha
 have hp:=h.pre i i0 i1 ha
 have hg:∀ k:Int,0≤k→gt (pt out i (mC g l m v out i)) k=if k=i then mC g l m v out i else gt out k:=fun k k0=>pz i0 hl k0
 have BX:∀ k:Int,0≤k→gt out k≤gt (pt out i (mC g l m v out i)) k:=fun k k0=>by
  rw[hg k k0];split
  ·rename_i e;rw[e];exact hp
  ·exact cQ _
 refine⟨by rw[gN i0 hl];exact h.len,fun k k0 k1=>?_,fun k k0 k1 hk=>?_,fun k k0 k1 hk=>?_,fun w hw k k0 k1=>?_⟩
 ·rw[hg k k0];split
  ·rename_i e;subst e;omega
  ·exact h.lo k k0 k1
 ·rw[hg k k0,if_neg fun e=>hk (by rw[e];exact ha)];exact h.na k k0 k1 hk
 ·have hx:=(mB hc k0 k1).2
  have hm:mC g l m v out k≤mC g l m v (pt out i (mC g l m v out i)) k:=by
   refine RM (fun q hq=>(MJ h hx q hq).1) fun q hq=>?_
   have:=BX q (hx q hq).1
   unfold lu
   split<;>omega
  rw[hg k k0];split
  ·rename_i e;subst e;exact hm
  ·exact cY (h.pre k k0 k1 hk) hm
 ·rw[hg k k0];split
  ·rename_i e
   subst e
   have hx:=(mB hc k0 k1).2
   refine cY (RM (fun q hq=>(MJ h hx q hq).1) fun q hq=>?_) ((hw k k0 k1).2 ha)
   have:=h.le w hw q (hx q hq).1 (hx q hq).2
   unfold lu
   split<;>omega
  ·exact h.le w hw k k0 k1
def sP(v:List eO)(out:List Int):Nat→Nat
 | 0=>0
 | n+1=>sP v out n+((gt v (n:Int)).2-gt out (n:Int)).toNat
theorem Jp{i n:Int}(i0:0≤i)(hl:i<out.length)(h1:gt out i<n)(h2:n≤(gt v i).2):∀ k:Nat,sP v (pt out i n) k≤sP v out k∧(i<k→sP v (pt out i n) k<sP v out k)
 | 0=>⟨Nat.le_refl _,fun h=>by omega⟩
 | k+1=>by
  have ih:=Jp i0 hl h1 h2 k
  rw[sP,sP,pz i0 hl]
  by_cases e:(k:Int)=i
  ·rw[if_pos e,e]
   exact⟨by omega,fun _=>by omega⟩
  ·rw[if_neg e]
   exact⟨by omega,fun h=>by have:=ih.2 (by omega);omega⟩
structure ZF(g:eH)(l:List Pos)(m:List Int)(v:List eO)(out:List Int):Prop where
 len:out.length=l.length
 lo:∀ i:Int,0≤i→i<l.length→0≤gt out i∧gt out i≤(gt v i).2
 na:∀ i:Int,0≤i→i<l.length→¬ Act v i→gt out i=0
 fx:∀ i:Int,0≤i→i<l.length→Act v i→gt out i=mC g l m v out i∧1≤gt out i
 le:∀ w,ZW g l m v w→∀ i:Int,0≤i→i<l.length→gt out i≤gt w i
def ZI.done(hc:jo g l)(hV:∀ k:Int,0≤k→k<l.length→nB (pn g l (eS g l)) v k)(h:ZI g l m v out)(hf:∀ i:Int,0≤i→i<l.length→Act v i→mC g l m v out i=gt out i):ZF g l m v out:=
 ⟨h.len,h.lo,h.na,fun i i0 i1 ha=>⟨(hf i i0 i1 ha).symm,by have:=(CV hc hV h i0 i1 ha).1;rwa [hf i i0 i1 ha]at this⟩,h.le⟩
def ZF.uniq{ow:List Int}(h:ZF g l m v out)(h':ZF g l m v ow):out=ow:=by
 have w:∀ {o:List Int},ZF g l m v o→ZW g l m v o:=fun{o} ho i i0 i1=>⟨(ho.lo i i0 i1).1,fun ha=>by rw[← (ho.fx i i0 i1 ha).1];exact cQ _⟩
 exact BF (h.len.trans h'.len.symm) fun i i0 i1=>Int.le_antisymm (h.le _ (w h') i i0 (by rw[← h.len];exact i1)) (h'.le _ (w h) i i0 (by rw[← h.len];exact i1))
noncomputable def zR(g:eH)(l:List Pos)(m:List Int)(v:List eO):List Int:=if h:∃ out,ZF g l m v out then Classical.choose h else []
def ZI.ex(hc:jo g l)(hV:∀ k:Int,0≤k→k<l.length→nB (pn g l (eS g l)) v k):∀ (n:Nat) (out:List Int),ZI g l m v out→sP v out l.length≤n→∃ out,ZF g l m v out:=by
 intro n
 induction n with
 | zero=>
  intro out h hs
  refine⟨out,h.done hc hV fun i i0 i1 ha=>?_⟩
  have h1:=CV hc hV h i0 i1 ha
  have h2:=h.pre i i0 i1 ha
  by_cases e:gt out i<mC g l m v out i
  ·have:=(Jp (v:=v) i0 (by rw[h.len];exact i1) e h1.2 l.length).2 i1
   omega
  ·omega
 | succ n ih=>
  intro out h hs
  by_cases hx:∃ i:Int,0≤i∧i<l.length∧Act v i∧gt out i<mC g l m v out i
  ·obtain⟨i,i0,i1,ha,e⟩:=hx
   have h1:=CV hc hV h i0 i1 ha
   have:=(Jp (v:=v) i0 (by rw[h.len];exact i1) e h1.2 l.length).2 i1
   exact ih _ (h.step hc hV i0 i1 ha) (by omega)
  ·refine⟨out,h.done hc hV fun i i0 i1 ha=>?_⟩
   have h2:=h.pre i i0 i1 ha
   have h3:¬ gt out i<mC g l m v out i:=fun e=>hx ⟨i,i0,i1,ha,e⟩
   omega
def TA(hc:jo g l)(hV:∀ k:Int,0≤k→k<l.length→nB (pn g l (eS g l)) v k):ZF g l m v (zR g l m v):=by
 have hx:∃ out,ZF g l m v out:=ZI.ex hc hV _ _ (ZI.start hc hV) (Nat.le_refl _)
 unfold zR
 rw[dif_pos hx]
 exact bM hx
def ag9(h:ZF g l m v out):out=zR g l m v:=by
 have hx:∃ out,ZF g l m v out:=⟨out,h⟩
 unfold zR
 rw[dif_pos hx]
 exact h.uniq (bM hx)
end
end Go.Proofs.YtnaefnajkaohgaaGreatDoor
namespace Go.Proofs.YtnaefnajkaohgaaGreatDoor
open Go Go.AL Classical
set_option maxRecDepth 10000
set_option maxHeartbeats 8000000
section
variable{nx:List (List Int)}
end
attribute [-simp] ry Bg CH JH
end Go.Proofs.YtnaefnajkaohgaaGreatDoor
namespace Go.Proofs.YtnaefnajkaohgaaGreatDoor
open Go Go.AL Classical
structure VB(A:ub)(n:Nat)(P R:List Int)(v:List eO)(lf:List Int):Prop where
 vl:v.length=n
 ll:lf.length=n
 nd:(P++R).Nodup
 qr:∀ k∈P++R,0≤k∧k<n
 qi:∀ k∈P++R,(gt v k).1≠0
 z:∀ k:Int,0≤k→k<n→k ∉ P++R→gt v k=(0,0)
 ov:∀ k:Int,0≤k→k<n→A.ov k=true→k∈P++R∧gt v k=(A.rs k,0)
 mono:(P++R).Pairwise fun a b=>(gt v a).2≤(gt v b).2
 top:∀ i R',R=i::R'→∀ a∈P++R,(gt v a).2≤(gt v i).2+1
 nn:∀ a∈P++R,0≤(gt v a).2∧(gt v a).2≤(P++R).length
 st:∀ k∈P++R,A.ov k=false →
  (∃ m,1≤m∧gt v k=(1,m)∧(∃ c∈gt A.nx k,gt v c=(3,m-1))∧∀ c∈gt A.nx k,(gt v c).1=3→m-1≤(gt v c).2) ∨
  (∃ m,1≤m∧gt v k=(3,m)∧(∀ c∈gt A.nx k,(gt v c).1=1∧(gt v c).2≤m-1)∧∃ c∈gt A.nx k,(gt v c).2=m-1)
section
variable{A:ub}{n:Nat}{P R d:List Int}{v:List eO}{lf:List Int}{i k t:Int}
structure VS(A:ub)(n:Nat)(m:Int)(R:List Int)(v:List eO)(lf:List Int):Prop where
 vl:v.length=n
 ll:lf.length=n
 nd:R.Nodup
 qr:∀ k,k∈R↔(0≤k∧k<m)∧A.ov k=true
 vv:∀ k:Int,0≤k→k<n→gt v k=if k∈R then(A.rs k,0)else(0,0)
 lv:∀ k:Int,0≤k→k<m→gt lf k=(gt A.nx k).length
end
end Go.Proofs.YtnaefnajkaohgaaGreatDoor
namespace Go.Proofs.YtnaefnajkaohgaaGreatDoor
open Go Go.AL Classical
set_option maxRecDepth 10000
set_option maxHeartbeats 8000000
attribute [-simp] Ip
