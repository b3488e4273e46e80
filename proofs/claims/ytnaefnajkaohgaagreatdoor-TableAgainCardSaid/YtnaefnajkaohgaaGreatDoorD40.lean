/- Part 40 of the proof of skewer.skewerlaw15.TableAgain. -/
import Derived.Test.YtnaefnajkaohgaaGreatDoorD39
import Derived.Test.YtnaefnajkaohgaaGreatDoorD15
set_option linter.all false
namespace Go.Proofs.YtnaefnajkaohgaaGreatDoor
open Go Go.AL Classical
set_option maxRecDepth 10000
set_option maxHeartbeats 8000000
def yO(b:Int)(l:List eT):Bool:=l.any fun s=>s.1 == 8&&s.2 == b
def qR(g:eO)(a b:Int):Bool:=(gt g.kinds a).gu.any (yO b)
structure rJ(g:eO)(m:List Int):Prop where
 ok:ko g m
 le:∀ a b:Int,0≤a→a<g.kinds.length→0≤b→b<g.kinds.length→qR g a b=true→gt m b≤gt m a
theorem Ly{α:Type}[Inhabited α](f:α→Bool){l:List α}{i:Int}(i0:0≤i)(hi:i<l.length):(l.take (i+1).toNat).any f=((l.take i.toNat).any f||f (gt l i)):=by
 rw[gx i0 hi,List.any_append];simp
theorem Lu{α:Type}[Inhabited α]{f:α→Bool}{l:List α}{i:Int}(i0:0≤i)(hi:i<l.length)(h:f (gt l i)=true):l.any f=true:=dA.2 ⟨_,eY i0 hi,h⟩
theorem Te{α:Type}[Inhabited α]{l l':List α}{n:Int}(h0:0≤n)(h:n<l.length):gt (l++l') n=gt l n:=by
 unfold gt
 rw[List.getD_eq_getElem?_getD,List.getD_eq_getElem?_getD,ag (by omega)]
theorem MH(g:eO)(hg:fi g)(a b:Int)(ha:0≤a∧a<g.kinds.length):Wf T 62 [dG g,.i a,.i b] [] (Is (.b (qR g a b))):=by
 have hk:=hg.gu _ (eY (l:=g.kinds) ha.1 ha.2)
 refine Yg Da ?_
 simp[Da]
 refine eW.e (0:Int) (fun i=>[(1,.i a),(2,.i b),(3,.ptr 0 0 0),(7,.i i)]) (fun i=>[.row 41 0 g.cells]) (fun i=>0≤i∧i≤(gt g.kinds a).gu.length∧((gt g.kinds a).gu.take i.toNat).any (yO b)=false) (fun i=>(gt g.kinds a).gu.length-i.toNat) ?_ ?_
 ·simp
 rintro i ⟨i0,i1,i2⟩
 by_cases hi:i<(gt g.kinds a).gu.length
 ·have hp:=(hk.2 _ (eY i0 hi)).len
  have hn:=Ly (yO b) i0 hi
  have fw:yO b (gt (gt g.kinds a).gu i)=true→qR g a b=true:=Lu (f:=yO b) i0 hi
  rw[i2,dQ]at hn
  simp[hi]
  generalize hpp:gt (gt g.kinds a).gu i=p at *
  (with_reducible repeat' first|refine Xk ?_<;>try simp|refine Xs ?_ ?_<;>intro h<;>(try intro h')<;>(try simp[h])<;>(try omega)|refine Xg ?_|omega)
  refine eW.e (0:Int) (fun j=>[(1,.i a),(2,.i b),(3,.ptr 0 0 0),(7,.i i),(8,gq p),(9,.i j)]) (fun j=>[.row 41 0 g.cells]) (fun j=>0≤j∧j≤p.length∧(p.take j.toNat).any (fun s=>s.1 == 8&&s.2 == b)=false) (fun j=>p.length-j.toNat) ?_ ?_
  ·simp
  rintro j ⟨j0,j1,j2⟩
  by_cases hj:j<p.length
  ·have Iu:=Ly (fun s:eT=>s.1 == 8&&s.2 == b) j0 hj
   have Uj:=Lu (f:=fun s:eT=>s.1 == 8&&s.2 == b) j0 hj
   rw[j2,dQ]at Iu
   simp[hj]
   (with_reducible repeat' first|refine Xk ?_<;>try simp|refine Xs ?_ ?_<;>intro h<;>(try intro h')<;>(try simp[h])<;>(try omega)|refine Xg ?_|omega)
   ·rw[fw (Uj (by simp[*]))]
   ·refine LJ.e (j+1) ?_
    exact⟨by omega,by omega,by omega,by rw[Iu];simp[*]⟩
   ·refine LJ.e (j+1) ?_
    exact⟨by omega,by omega,by omega,by rw[Iu];simp[*]⟩
  ·rw[jg (by omega)]at j2
   simp[hj]
   (with_reducible repeat' first|refine Xk ?_<;>try simp|refine Xs ?_ ?_<;>intro h<;>(try intro h')<;>(try simp[h])<;>(try omega)|refine Xg ?_|omega)
   refine LJ.e (i+1) ?_
   exact⟨by omega,by omega,by omega,by rw[hn];exact j2⟩
 ·rw[jg (by omega)]at i2
  have:qR g a b=false:=i2
  simp[hi,this]
  exact ha
theorem Hy(g:eO)(hg:fi g)(a:Int)(ha:0≤a∧a<g.kinds.length):Wf T 63 [dG g,.i a] [] (Ey dI fun r=>1≤r.length∧r.length≤g.kinds.length∧a∈r∧∀ c:Int,0≤c→c<g.kinds.length→qR g a c=true→c∈r):=by
 have hk:=hg.kinds
 have mP:∀ w:List Int,w.Nodup→(∀ y∈w,0≤y∧y<g.kinds.length)→w.length≤g.kinds.length:=fun w h1 h2=>uf _ w h1 h2
 refine Yg Db ?_
 simp[Db]
 refine eW.e ((0,0,[a]):Int×Nat×List Int) (fun y=>[(2,.ptr 0 0 0),(5,.eN 1 y.2.1 1 0 y.2.2.length),(6,.i y.1)]) (fun y=>[.row 41 0 g.cells,.row 3 y.2.1 (cl f1 y.2.2)]) (fun y=>0≤y.1∧y.1≤y.2.2.length∧y.2.2.Nodup∧(∀ z∈y.2.2,0≤z∧z<g.kinds.length)∧(1≤y.2.2.length∧gt y.2.2 0=a)∧(∀ c:Int,0≤c→c<g.kinds.length→0<y.1→qR g a c=true→c∈y.2.2)) (fun y=>g.kinds.length-y.1.toNat) ?_ ?_
 ·simp;exact⟨by omega,by omega,rfl⟩
 rintro⟨i,gn,w⟩ ⟨i0,i1,i2,i3,i4,i5⟩
 dsimp only at i0 i1 i2 i3 i4 i5 ⊢
 have hw:=mP w i2 i3
 by_cases hi:i<w.length
 ·simp[hi]
  refine eW.e ((0,gn,w):Int×Nat×List Int) (fun y=>[(2,.ptr 0 0 0),(5,.eN 1 y.2.1 1 0 y.2.2.length),(6,.i i),(7,.i y.1)]) (fun y=>[.row 41 0 g.cells,.row 3 y.2.1 (cl f1 y.2.2)]) (fun y=>0≤y.1∧y.1≤g.kinds.length∧y.2.2.Nodup∧(∀ z∈y.2.2,0≤z∧z<g.kinds.length)∧w.length≤y.2.2.length∧gt y.2.2 0=a∧(∀ c:Int,0≤c→c<g.kinds.length→0<i∨c<y.1→qR g a c=true→c∈y.2.2)) (fun y=>g.kinds.length-y.1.toNat) ?_ ?_
  ·simp;exact⟨i2,i3,i4.2,fun c c0 c1 c2=>i5 c c0 c1 (by omega)⟩
  rintro⟨b,gm,u⟩ ⟨b0,b1,b2,b3,b4,b5,b6⟩
  dsimp only at b0 b1 b2 b3 b4 b5 b6 ⊢
  have hu:=mP u b2 b3
  by_cases hb:b<g.kinds.length
  ·simp[hb]
   refine eW.e ((0,false):Int×Bool) (fun y=>[(2,.ptr 0 0 0),(5,.eN 1 gm 1 0 u.length),(6,.i i),(7,.i b),(8,.b y.2),(9,.i y.1)]) (fun y=>[.row 41 0 g.cells,.row 3 gm (cl f1 u)]) (fun y=>0≤y.1∧y.1≤u.length∧y.2=decide (b∈u.take y.1.toNat)) (fun y=>u.length-y.1.toNat) ?_ ?_
   ·simp
   rintro⟨k,kn⟩ ⟨k0,k1,k2⟩
   dsimp only at k0 k1 k2 ⊢
   by_cases hk:k<u.length
   ·cases kn<;>simp[hk]
    ·(with_reducible repeat' first|refine Xk ?_<;>try simp|refine Xs ?_ ?_<;>intro h<;>(try intro h')<;>(try simp[h])<;>(try omega)|refine Xg ?_|omega)
     refine LJ.e (k+1,decide (gt u k=b)) ?_
     dsimp only
     refine⟨by omega,by omega,by omega,?_⟩
     rw[gx k0 hk]
     simp at k2
     simp[k2,eq_comm]
    ·(with_reducible repeat' first|refine Xk ?_<;>try simp|refine Xs ?_ ?_<;>intro h<;>(try intro h')<;>(try simp[h])<;>(try omega)|refine Xg ?_|omega)
     refine LJ.e (k+1,true) ?_
     dsimp only
     refine⟨by omega,by omega,by omega,?_⟩
     rw[gx k0 hk]
     simp at k2
     simp[k2]
   ·rw[jg (by omega)]at k2
    cases kn<;>simp[hk]
    ·have Ib:b ∉ u:=by simpa using k2
     have xc:=b3 _ (eY (l:=u) i0 (by omega))
     (with_reducible repeat' first|refine Xk ?_<;>try simp|refine Xs ?_ ?_<;>intro h<;>(try intro h')<;>(try simp[h])<;>(try omega)|refine Xg ?_|omega)
     refine Yt (MH g hg _ b xc) ?_
     simp
     (with_reducible repeat' first|refine Xk ?_<;>try simp|refine Xs ?_ ?_<;>intro h<;>(try intro h')<;>(try simp[h])<;>(try omega)|refine Xg ?_|omega)
     ·refine LJ.e (b+1,gm+1,u ++ [b]) ?_
      dsimp only
      refine⟨by omega,by omega,by omega,a7.2 ⟨b2,by simp,fun y hy z hz e=>?_⟩,fun z hz=>?_,by simp;omega,?_,fun c c0 c1 c2 c3=>?_⟩
      ·rw[List.mem_singleton]at hz;subst hz;subst e;exact Ib hy
      ·rcases List.mem_append.1 hz with hz|hz
       ·exact b3 z hz
       ·rw[List.mem_singleton]at hz;omega
      ·rw[← b5];exact Te (by omega) (by omega)
      ·by_cases e:c=b
       ·subst e;simp
       ·exact aP _ (b6 c c0 c1 (by omega) c3)
     ·refine LJ.e (b+1,gm,u) ?_
      dsimp only
      refine⟨by omega,by omega,by omega,b2,b3,b4,b5,fun c c0 c1 c2 c3=>?_⟩
      by_cases e:0<i∨c<b
      ·exact b6 c c0 c1 e c3
      ·have e1:c=b:=by omega
       have e2:i=0:=by omega
       have Ng:qR g (gt u i) b=false:=by assumption
       rw[e2,b5,← e1,c3]at Ng
       cases Ng
    ·(with_reducible repeat' first|refine Xk ?_<;>try simp|refine Xs ?_ ?_<;>intro h<;>(try intro h')<;>(try simp[h])<;>(try omega)|refine Xg ?_|omega)
     refine LJ.e (b+1,gm,u) ?_
     dsimp only
     have Ib:b∈u:=by simpa using k2
     refine⟨by omega,by omega,by omega,b2,b3,b4,b5,fun c c0 c1 c2 c3=>?_⟩
     by_cases e:c=b
     ·subst e;exact Ib
     ·exact b6 c c0 c1 (by omega) c3
  ·simp[hb]
   (with_reducible repeat' first|refine Xk ?_<;>try simp|refine Xs ?_ ?_<;>intro h<;>(try intro h')<;>(try simp[h])<;>(try omega)|refine Xg ?_|omega)
   refine LJ.e (i+1,gm,u) ?_
   dsimp only
   exact⟨by omega,by omega,by omega,b2,b3,⟨by omega,b5⟩,fun c c0 c1 _ c3=>b6 c c0 c1 (by omega) c3⟩
 ·simp[hi]
  exact Ey.i w rfl rfl ⟨i4.1,hw,by rw[← i4.2];exact eY (by omega) (by omega),fun c c0 c1 c3=>i5 c c0 c1 (by omega) c3⟩
theorem SB(g:eO)(hg:fi g)(m:List Int)(hm:m.length=g.kinds.length):Wf T 35 [dG g,.agg [dI m]] [] (Ey D.b fun b=>b=true→rJ g m):=by
 have hk:=hg.kinds
 refine Yg C0 ?_
 simp[C0]
 (with_reducible repeat' first|refine Xk ?_<;>try simp|refine Xs ?_ ?_<;>intro h<;>(try intro h')<;>(try simp[h])<;>(try omega)|refine Xg ?_|omega)
 refine eW.e (0:Int) (fun i=>[(2,.ptr 0 0 0),(3,.ptr 1 0 0),(5,.i i)]) (fun i=>[.row 41 0 g.cells,.row 50 0 [dI m]]) (fun i=>0≤i∧i≤g.kinds.length∧∀ a:Int,0≤a→a<i→(1≤gt m a∧gt m a≤6)∧∀ b:Int,0≤b→b<g.kinds.length→qR g a b=true→gt m b≤gt m a) (fun i=>g.kinds.length-i.toNat) ?_ ?_
 ·simp;omega
 rintro i ⟨i0,i1,i2⟩
 by_cases hi:i<g.kinds.length
 ·simp[hi]
  (with_reducible repeat' first|refine Xk ?_<;>try simp|refine Xs ?_ ?_<;>intro h<;>(try intro h')<;>(try simp[h])<;>(try omega)|refine Xg ?_|omega)
  ·exact Ey.i false rfl rfl (by simp)
  ·exact Ey.i false rfl rfl (by simp)
  ·refine eW.e (0:Int) (fun j=>[(2,.ptr 0 0 0),(3,.ptr 1 0 0),(5,.i i),(6,.i j)]) (fun j=>[.row 41 0 g.cells,.row 50 0 [dI m]]) (fun j=>0≤j∧j≤g.kinds.length∧∀ b:Int,0≤b→b<j→qR g i b=true→gt m b≤gt m i) (fun j=>g.kinds.length-j.toNat) ?_ ?_
   ·simp;omega
   rintro j ⟨j0,j1,j2⟩
   by_cases hj:j<g.kinds.length
   ·simp[hj]
    refine Yt (MH g hg i j ⟨i0,hi⟩) ?_
    simp
    (with_reducible repeat' first|refine Xk ?_<;>try simp|refine Xs ?_ ?_<;>intro h<;>(try intro h')<;>(try simp[h])<;>(try omega)|refine Xg ?_|omega)
    ·exact Ey.i false rfl rfl (by simp)
    ·refine LJ.e (j+1) ?_
     refine⟨by omega,by omega,by omega,fun b b0 b1 b2=>?_⟩
     by_cases e:b=j
     ·subst e;omega
     ·exact j2 b b0 (by omega) b2
    ·refine LJ.e (j+1) ?_
     refine⟨by omega,by omega,by omega,fun b b0 b1 b2=>?_⟩
     by_cases e:b=j
     ·subst e;simp_all
     ·exact j2 b b0 (by omega) b2
   ·simp[hj]
    (with_reducible repeat' first|refine Xk ?_<;>try simp|refine Xs ?_ ?_<;>intro h<;>(try intro h')<;>(try simp[h])<;>(try omega)|refine Xg ?_|omega)
    refine LJ.e (i+1) ?_
    refine⟨by omega,by omega,by omega,fun a a0 a1=>?_⟩
    by_cases e:a=i
    ·subst e;exact⟨by omega,fun b b0 b1 b2=>j2 b b0 (by omega) b2⟩
    ·exact i2 a a0 (by omega)
 ·simp[hi]
  refine Ey.i true rfl rfl fun _=>⟨⟨hm,fun x hx=>?_⟩,fun a b a0 a1 b0 b1 h=>(i2 a a0 (by omega)).2 b b0 b1 h⟩
  obtain⟨n,n0,n1,rfl⟩:=rv.1 hx
  exact(i2 n n0 (by omega)).1
theorem QA{r:List Int}(h0:(0:Int)∈r)(h1:(1:Int)∈r):2≤r.length:=by
 rcases r with _|⟨a,_|⟨b,r⟩⟩
 ·simp at h0
 ·simp at h0 h1;omega
 ·simp
theorem SC(g:eO)(hg:fi g):Wf T 36 [dG g] [] (Ey (fun r:List Int=>.agg [dI r]) fun r=>rJ g r):=by
 have hk:=hg.kinds
 refine Yg C1 ?_
 simp[C1]
 rcases(show g.kinds.length=1∨g.kinds.length=2 by omega)with e|e
 ·refine eW.un ?_
  refine iR.u ?_
  simp[e]
  refine Yv (Hy g hg 0 (by omega)) fun r hr=>?_
  simp
  refine iR.u ?_
  simp[e]
  obtain⟨h1,h2,h3,h4⟩:=hr
  refine Ey.i [(r.length:Int)] rfl rfl ⟨⟨by simp[e],fun x hx=>?_⟩,fun a b a0 a1 b0 b1 h=>?_⟩
  ·simp at hx;omega
  ·have e1:a=0:=by omega
   have e2:b=0:=by omega
   rw[e1,e2];exact bU _
 ·refine eW.un ?_
  refine iR.u ?_
  simp[e]
  refine Yv (Hy g hg 0 (by omega)) fun r hr=>?_
  simp
  refine iR.u ?_
  simp[e]
  refine Yv (Hy g hg 1 (by omega)) fun r2 E3=>?_
  simp
  refine iR.u ?_
  simp[e]
  obtain⟨h1,h2,h3,h4⟩:=hr
  obtain⟨k1,k2,k3,k4⟩:=E3
  refine Ey.i [(r.length:Int),(r2.length:Int)] rfl rfl ⟨⟨by simp[e],fun x hx=>?_⟩,fun a b a0 a1 b0 b1 h=>?_⟩
  ·simp at hx;omega
  ·have g0:gt [(r.length:Int),(r2.length:Int)] 0=r.length:=rfl
   have g1:gt [(r.length:Int),(r2.length:Int)] 1=r2.length:=rfl
   rcases(show a=0∨a=1 by omega)with rfl|rfl<;>rcases(show b=0∨b=1 by omega)with rfl|rfl
   ·exact bU _
   ·have:=QA h3 (h4 1 (by omega) (by omega) h)
    rw[g0,g1];omega
   ·have:=QA (k4 0 (by omega) (by omega) h) k3
    rw[g0,g1];omega
   ·exact bU _
theorem Sv(g:eO)(hg:fi g)(a0 a1 a2 a3 a4 a5:Int)(h:∀ n∈[a0,a1,a2,a3,a4,a5],0≤n∧n<256):Wf T 13 [dG g,dW [a0,a1,a2,a3,a4,a5]] [] (Ey (fun r:List Int=>.agg [dI r]) fun r=>rJ g r):=by
 refine Yg BJ ?_
 simp[BJ,dW]
 have c:=f34 g hg a0 a1 a2 a3 a4 a5 h
 simp only[dW,List.map]at c
 refine Yq (c) fun m hm=>?_
 simp
 refine Yq (SB g hg m hm) fun b hb=>?_
 simp
 (with_reducible repeat' first|refine Xk ?_<;>try simp|refine Xs ?_ ?_<;>intro h<;>(try intro h')<;>(try simp[h])<;>(try omega)|refine Xg ?_|omega)
 ·exact Ey.i m rfl rfl (hb (by assumption))
 ·refine Yq (SC g hg) fun r hr=>?_
  simp
  exact Ey.i r rfl rfl hr
end Go.Proofs.YtnaefnajkaohgaaGreatDoor
namespace Go.Proofs.YtnaefnajkaohgaaGreatDoor
open Go Go.AL Classical
section
variable{g:eO}{m:List Int}
theorem ON{cs:List Int}{c v:Int}(c0:0≤c)(c1:c<cs.length):∀ n:Nat,n≤cs.length→nv m (pt cs c v) n=nv m cs n+if c<n then mA m v-mA m (gt cs c)else 0
 | 0,_=>by simp;omega
 | n+1,h=>by
  have ih:=ON (v:=v) c0 c1 n (by omega)
  rw[nv,nv,ih,lA c0 c1 (by omega)]
  by_cases e:(n:Int)=c
  ·subst e
   rw[if_pos rfl,if_neg (by omega),if_pos (by omega)]
   omega
  ·rw[if_neg e]
   by_cases e2:c<(n:Int)
   ·rw[if_pos e2,if_pos (by omega)];omega
   ·rw[if_neg e2,if_neg (by omega)];omega
theorem WD{cs:List Int}{c v:Int}(c0:0≤c)(c1:c<cs.length):nv m (pt cs c v) (pt cs c v).length=nv m cs cs.length+mA m v-mA m (gt cs c):=by
 rw[gC c0 c1,ON c0 c1 _ (Nat.le_refl _),if_pos c1];omega
theorem Js{a b:List Int}{k v:Int}(k0:0≤k)(k1:k<a.length):∀ n:Nat,n≤a.length→mB m (pt a k v) b n=mB m a b n+if k<n then gt m k*(v-gt a k)else 0
 | 0,_=>by simp;omega
 | n+1,h=>by
  have ih:=Js (b:=b) (v:=v) k0 k1 n (by omega)
  rw[mB,mB,ih,lA k0 k1 (by omega)]
  by_cases e:(n:Int)=k
  ·subst e
   rw[if_pos rfl,if_neg (by omega),if_pos (by omega)]
   simp only[Int.mul_add,Int.mul_sub];omega
  ·rw[if_neg e]
   by_cases e2:k<(n:Int)
   ·rw[if_pos e2,if_pos (by omega)];omega
   ·rw[if_neg e2,if_neg (by omega)];omega
theorem Jr{a b:List Int}:∀ n:Nat,mB m a b n=mB m b a n
 | 0=>rfl
 | n+1=>by rw[mB,mB,Jr n,Int.add_comm (gt a (n:Int))]
theorem xD:mA m 0=0:=by unfold mA ff;simp
theorem FD{c:Int}(h:0≤ff c):mA m c=gt m (ff c):=by unfold mA;rw[if_pos h]
theorem OT{k s:Int}(h0:0≤k)(h1:k<2)(s0:0≤s)(s1:s≤1):ff (iG k s)=k:=by
 unfold ff iG
 rw[if_pos (by omega)];omega
theorem abx{r n:Int}(h0:0≤r)(h1:r<4)(n0:0≤n)(n1:n<2):vS (dropRight r n)≤vS r:=by
 rcases(show r=0∨r=1∨r=2∨r=3 by omega)with rfl|rfl|rfl|rfl<;>rcases(show n=0∨n=1 by omega)with rfl|rfl<;>decide
def pR(m:List Int)(s:eV):Int:=fV m s.p+gt m s.kind
theorem OA{p:Pos}(hm:ko g m)(hp:fF g p){s k v:Int}(k0:0≤k)(k1:k<g.kinds.length):fV m (p.jv s (pt (p.hand s) k v))=fV m p+gt m k*(v-gt (p.hand s) k):=by
 have l0:=hp.h0.len
 have l1:=hp.h1.len
 have lm:=hm.len
 unfold Pos.jv Pos.hand fV
 by_cases e:s=0
 ·simp only[e,if_true]
  rw[Js k0 (by omega) _ (by omega),if_pos (by omega)];omega
 ·simp only[e,if_false]
  rw[Jr,Js k0 (by omega) _ (by omega),if_pos (by omega),Jr];omega
theorem xC{p:Pos}{c v:Int}(c0:0≤c)(c1:c<p.cs.length):fV m { p with cs:=pt p.cs c v }=fV m p+mA m v-mA m (gt p.cs c):=by
 unfold fV
 dsimp only
 rw[WD c0 c1];omega
theorem acS(hg:fi g)(hm:ko g m){s:eV}(hs:ix g s){x:eT}(hx:uJ g x)(hb:x.1=8→gt m x.2≤gt m s.kind){t:eV}(h:t∈gw g s x):pR m t≤pR m s∧(x.1≠8→t.kind=s.kind):=by
 have oe:=hg.gV
 have kz:s.cur<s.p.cs.length:=by rw[hs.p.size];exact hs.cur.2
 have hc:=hs.p.cs _ (eY hs.cur.1 kz)
 unfold gw at h
 dsimp only at h
 split at h
 ·split at h
  ·rw[List.mem_singleton]at h;subst h
   exact⟨bU _,fun _=>rfl⟩
  ·cases h
 split at h
 ·obtain⟨c,h1,rfl⟩:=Jn h
  exact⟨bU _,fun _=>rfl⟩
 iterate 3
  split at h
  ·split at h
   ·rw[List.mem_singleton]at h;subst h;exact⟨bU _,fun _=>rfl⟩
   ·cases h
 split at h
 ·unfold oD at h
  dsimp only at h
  split at h
  ·cases h
  rename_i e
  have e:=dq.1 e
  have gA:=hs.p.side
  obtain⟨m1,m2,m3,m4⟩:=vJ (by omega) e
  have hk:ff (gt s.p.cs s.cur)<g.kinds.length:=ru hc.2 hg.kinds.1
  have hp:fF g { s.p with cs:=pt s.p.cs s.cur 0 }:=hs.p.uv hs.cur.1 hs.cur.2 (by omega)
  have hl:=xC (m:=m) (p:=s.p) (v:=0) hs.cur.1 kz
  have h1:=hm.num _ (eY m1 (by rw[hm.len];exact hk))
  rw[xD,FD m1]at hl
  split at h
  ·rw[List.mem_singleton]at h;subst h
   refine⟨?_,fun _=>rfl⟩
   unfold pR
   (try dsimp only at hl)
   (try dsimp only at hh)
   dsimp only
   omega
  split at h
  ·rw[List.mem_singleton]at h;subst h
   refine⟨?_,fun _=>rfl⟩
   have hh:=OA hm hp (s:=s.p.side) (k:=ff (gt s.p.cs s.cur)) (v:=gt (s.p.hand s.p.side) (ff (gt s.p.cs s.cur))+1) m1 hk
   have e2:({ s.p with cs:=pt s.p.cs s.cur 0 }:Pos).hand s.p.side=s.p.hand s.p.side:=by unfold Pos.hand;split<;>rfl
   rw[e2,show gt (s.p.hand s.p.side) (ff (gt s.p.cs s.cur))+1-gt (s.p.hand s.p.side) (ff (gt s.p.cs s.cur))=1 by omega,Int.mul_one]at hh
   unfold pR
   (try dsimp only at hl)
   (try dsimp only at hh)
   dsimp only
   omega
  ·cases h
 split at h
 ·unfold oV at h
  dsimp only at h
  split at h
  ·cases h
  rename_i e
  simp only[not_or,dY,dq]at e
  rw[List.mem_singleton]at h;subst h
  refine⟨?_,fun _=>rfl⟩
  have ht:=oe.to s.p.side x.2 s.cur
  have t1:jo g s.p.side x.2 s.cur<s.p.cs.length:=by rw[hs.p.size];exact ht.2
  have fY:s.cur≠jo g s.p.side x.2 s.cur:=fun e1=>e.1 (e1▸e.2.2)
  have ib:=xC (m:=m) (p:=s.p) (v:=gt s.p.cs s.cur) e.2.1 t1
  have gS:=xC (m:=m) (p:={ s.p with cs:=pt s.p.cs (jo g s.p.side x.2 s.cur) (gt s.p.cs s.cur) }) (c:=s.cur) (v:=0) hs.cur.1 (by dsimp only;rw[gC e.2.1 t1];exact kz)
  dsimp only at gS
  rw[HN e.2.1 t1 hs.cur.1 fY,xD]at gS
  rw[e.2.2,xD]at ib
  unfold pR
  dsimp only
  omega
 split at h
 ·rename_i e8
  rw[List.mem_singleton]at h;subst h
  have:=hb e8
  refine⟨?_,fun h=>absurd e8 h⟩
  unfold pR
  dsimp only
  omega
 split at h
 ·split at h
  ·rw[List.mem_singleton]at h;subst h;exact⟨bU _,fun _=>rfl⟩
  ·cases h
 ·rw[List.mem_singleton]at h;subst h
  refine⟨?_,fun _=>rfl⟩
  have hr:=PW hg hs.p
  have pb:=hg.fg
  have hxx:=hx.ok
  have:=abx (r:=s.p.fg) (n:=x.2) (by omega) (by omega) (by omega) (by omega)
  unfold pR fV
  dsimp only
  omega
theorem P9(hg:fi g)(hm:ko g m){k L:Int}:∀ {l:List eT} {a:List eV},(∀ x∈l,uJ g x)→(∀ x∈l,x.1=8→gt m x.2≤gt m k)→jY l 8≤1→(∀ s∈a,ix g s∧pR m s≤L∧(0<jY l 8→s.kind=k))→∀ s∈nX g l a,ix g s∧pR m s≤L
 | [],a,_,_,_,h=>fun s hs=>⟨(h s hs).1,(h s hs).2.1⟩
 | x::r,a,h1,h2,h3,h=>by
  rw[nX]
  have tL:jY (x::r) 8=jY r 8+if x.1=8 then 1 else 0:=by
   unfold jY
   rw[bz]
   by_cases e:x.1=8<;>simp[e]
  have h0:0≤jY r 8:=by unfold jY;omega
  refine P9 hg hm (fun y hy=>h1 y (by simp[hy])) (fun y hy=>h2 y (by simp[hy])) (by split at tL<;>omega) fun t ht=>?_
  obtain⟨s,hs,ht⟩:=aZ.1 ht
  obtain⟨s1,s2,s3⟩:=h s hs
  have hx:=h1 x (by simp)
  have hl:=acS hg hm s1 hx (fun e=>by rw[s3 (by rw[tL,if_pos e];omega)];exact h2 x (by simp) e) ht
  refine⟨uz hg s1 hx ht,by omega,fun hc=>?_⟩
  have e:x.1≠8:=fun e=>by rw[if_pos e]at tL;omega
  rw[hl.2 e]
  exact s3 (by rw[tL,if_neg e];omega)
theorem Pu(hg:fi g)(hv:rJ g m){p:Pos}(hp:fF g p){o:fq}(h:o∈mE g p):fV m o.p≤fV m p:=by
 have hm:=hv.ok
 have gA:=hp.side
 obtain⟨c,hc,h⟩:=aZ.1 h
 rw[pS]at hc
 have EG:c<g.size:=by rw[← hp.size];exact hc.2
 unfold me at h
 split at h
 ·rename_i e
  obtain⟨l,hl,h⟩:=aZ.1 h
  obtain⟨s,hs,h⟩:=bS.1 h
  have eX:=x7 hg hp hc.1 EG e
  have hk:=hg.gu _ (eY (l:=g.kinds) eX.kind.1 eX.kind.2)
  have k8:=hk.2 l hl
  have m1:=(vJ hp.side.1 e).1
  have vx:=xC (m:=m) (p:=p) (v:=0) hc.1 hc.2
  rw[xD,FD m1]at vx
  have h0:pR m (iY p c)=fV m p:=by
   unfold pR iY
   dsimp only
   omega
  have hr:=P9 hg hm (k:=ff (gt p.cs c)) (L:=fV m p) k8.steps (fun x hx e8=>by
   have h8:=(k8.steps x hx).ok
   refine hv.le _ _ eX.kind.1 eX.kind.2 (by omega) (by omega) ?_
   exact dA.2 ⟨l,hl,dA.2 ⟨x,hx,by simp[e8]⟩⟩) k8.yP (fun t ht=>by
    rw[List.mem_singleton]at ht;subst ht
    exact⟨eX,by omega,fun _=>rfl⟩) s hs
  unfold ln at h
  split at h
  ·rename_i e0
   cases h
   have ki:=hr.1
   have kz:s.cur<s.p.cs.length:=by rw[ki.p.size];exact ki.cur.2
   have jk:=hg.kinds.2
   have jc:=ki.kind
   have ib:=xC (m:=m) (p:=s.p) (v:=iG s.kind p.side) ki.cur.1 kz
   have zK:=OT (k:=s.kind) (s:=p.side) jc.1 (by omega) gA.1 gA.2
   rw[e0,xD,FD (by rw[zK];exact jc.1),zK]at ib
   have h2:=hr.2
   unfold pR at h2
   have e1:fV m { s.p with cs:=pt s.p.cs s.cur (iG s.kind p.side),side:=1-p.side }=fV m { s.p with cs:=pt s.p.cs s.cur (iG s.kind p.side) }:=rfl
   (try dsimp only at ib)
   (try dsimp only at e1)
   dsimp only
   rw[e1]
   omega
  ·cases h
 ·cases h
theorem R9(hg:fi g)(hm:ko g m){p:Pos}(hp:fF g p){q:Pos}(h:rI g p q):fV m q=fV m p:=by
 obtain⟨k,c,h1,h2,h3,h4,h5,h6,rfl⟩:=h
 have gA:=hp.side
 have jk:=hg.kinds.2
 have hh:=OA hm hp (s:=p.side) (v:=gt (p.hand p.side) k-1) h1 h2
 have e:(p.jv p.side (pt (p.hand p.side) k (gt (p.hand p.side) k-1))).cs=p.cs:=by unfold Pos.jv;split<;>rfl
 have hl:=xC (m:=m) (p:=p.jv p.side (pt (p.hand p.side) k (gt (p.hand p.side) k-1))) (c:=c) (v:=iG k p.side) h3 (by rw[e];exact h4)
 have zK:=OT (k:=k) (s:=p.side) h1 (by omega) gA.1 gA.2
 rw[e,h6,xD,FD (by rw[zK];exact h1),zK]at hl
 have e1:fV m (iz p k c)=fV m { p.jv p.side (pt (p.hand p.side) k (gt (p.hand p.side) k-1))with cs:=pt p.cs c (iG k p.side) }:=rfl
 rw[e1,hl,hh]
 rw[show gt (p.hand p.side) k-1-gt (p.hand p.side) k = -1 by omega,Int.mul_neg,Int.mul_one]
 omega
theorem W0(hg:fi g)(hv:rJ g m){p:Pos}(hp:fF g p){q:Pos}(h:mU g p q):fV m q≤fV m p:=by
 obtain⟨_,h⟩:=h
 split at h
 ·exact Pu hg hv hp h
 ·rcases h with⟨o,h,rfl⟩|h
  ·exact Pu hg hv hp h
  ·exact Int.le_of_eq (R9 hg hv.ok hp h)
end
end Go.Proofs.YtnaefnajkaohgaaGreatDoor
namespace Go.Proofs.YtnaefnajkaohgaaGreatDoor
open Go Go.AL Classical
section
variable{g:eO}{l:List Pos}{nx:List (List Int)}{part:List Int}{bu:Int}
structure mT(L:Nat)(S:Int→Prop)(v:List eT)(b:List Bool)(v':List eT)(b':List Bool):Prop where
 vl:v.length=L
 bl:b.length=L
 yf:v'.length=L
 uK:b'.length=L
 eb:∀ k:Int,0≤k→k<L→S k→gt b k=gt b' k
 ev:∀ k:Int,0≤k→k<L→S k→gt b k=false→gt v k=gt v' k
theorem mT.symm{L:Nat}{S:Int→Prop}{v:List eT}{b:List Bool}{v':List eT}{b':List Bool}(h:mT L S v b v' b'):mT L S v' b' v b:=
 ⟨h.yf,h.uK,h.vl,h.bl,fun k k0 k1 s=>(h.eb k k0 k1 s).symm,fun k k0 k1 s e=>(h.ev k k0 k1 s (by rw[h.eb k k0 k1 s];exact e)).symm⟩
structure s8(l:List Pos)(nx:List (List Int))(part:List Int)(S:Int→Prop):Prop where
 own:∀ i∈part,S i
 next:∀ i∈part,∀ k∈gt nx i,S k
theorem QE{L:Nat}{S:Int→Prop}{v v':List eT}{b b':List Bool}(h:mT L S v b v' b'){x:List Int}(hx:∀ k∈x,(0≤k∧k<L)∧S k):∀ j:Nat,j≤x.length→jr v b x j=jr v' b' x j
 | 0,_=>rfl
 | j+1,hj=>by
  have hm:=hx _ (eY (l:=x) (n:=(j:Int)) (by omega) (by omega))
  have h1:=h.eb _ hm.1.1 hm.1.2 hm.2
  rw[jr,jr,QE h hx j (by omega),← h1]
  by_cases e:gt b (gt x (j:Int))=false
  ·rw[h.ev _ hm.1.1 hm.1.2 hm.2 e]
  ·rw[if_neg (fun c=>e c.1),if_neg (fun c=>e c.1)]
theorem OJ{L:Nat}{S:Int→Prop}{v v':List eT}{b b':List Bool}(h:mT L S v b v' b'){x:List Int}(hx:∀ k∈x,(0≤k∧k<L)∧S k){n:Int}(hl:qv v b x n):qv v' b' x n:=by
 obtain⟨k,hk,h1,h2⟩:=hl
 have hm:=hx k hk
 exact⟨k,hk,by rw[← h.eb k hm.1.1 hm.1.2 hm.2];exact h1,by rw[← h.ev k hm.1.1 hm.1.2 hm.2 h1];exact h2⟩
theorem Mw{L:Nat}{S:Int→Prop}{v v':List eT}{b b':List Bool}(h:mT L S v b v' b'){x:List Int}(hx:∀ k∈x,(0≤k∧k<L)∧S k)(p:Pos)(n:Int):jz g p v b x n=jz g p v' b' x n:=by
 have e:qv v b x n↔qv v' b' x n:=⟨OJ h hx,OJ h.symm hx⟩
 unfold jz
 rw[QE h hx x.length (Nat.le_refl _)]
 by_cases c:qv v b x n
 ·rw[if_pos c,if_pos (e.1 c)]
 ·rw[if_neg c,if_neg (fun d=>c (e.2 d))]
theorem P2(o:ke g l nx part bu){S:Int→Prop}(hS:s8 l nx part S){v v':List eT}{b b':List Bool}(h:mT l.length S v b v' b')(n:Int):mT l.length S (rV g l nx part v b n) (rB g l nx part v b n) (rV g l nx part v' b' n) (rB g l nx part v' b' n):=by
 have hx:∀ i∈part,∀ k∈gt nx i,(0≤k∧k<l.length)∧S k:=fun i hi k hk=>⟨(o.xI i (o.prt i hi).1 (o.prt i hi).2).1 k hk,hS.next i hi k hk⟩
 have he:∀ i∈part,oa g l nx v b n i=oa g l nx v' b' n i:=fun i hi=>by unfold oa;rw[Mw h (hx i hi)]
 have hd:lX g l nx part v b n=lX g l nx part v' b' n:=by
  unfold lX
  refine List.filter_congr fun i hi=>?_
  have hp:=o.prt i hi
  unfold kc
  rw[Mw h (hx i hi),h.eb i hp.1 hp.2 (hS.own i hi)]
 refine⟨xS o h.vl h.bl,xR o h.bl,xS o h.yf h.uK,xR o h.uK,fun k k0 k1 s=>?_,fun k k0 k1 s e=>?_⟩
 ·rw[vb o h.bl k0 k1,vb o h.uK k0 k1,hd,h.eb k k0 k1 s]
 ·rw[wT o h.vl h.bl k0 k1,wT o h.yf h.uK k0 k1,hd]
  rw[vb o h.bl k0 k1,hd]at e
  split
  ·rename_i hm
   exact he k (D1 hm)
  ·rename_i hm
   rw[if_neg hm]at e
   exact h.ev k k0 k1 s e
def Quiet(L:Nat)(S:Int→Prop)(v:List eT)(b:List Bool)(n:Int):Prop:=∀ k:Int,0≤k→k<L→S k→gt b k=false→(gt v k).1≠2→(gt v k).2<n
theorem Quiet.Lr{L:Nat}{S:Int→Prop}{v v':List eT}{b b':List Bool}{n:Int}(q:Quiet L S v b n)(h:mT L S v b v' b'):Quiet L S v' b' n:=fun k k0 k1 s e f=>by
 have hb:=h.eb k k0 k1 s
 have hv:=h.ev k k0 k1 s (by rw[hb];exact e)
 rw[← hv]at f ⊢
 exact q k k0 k1 s (by rw[hb];exact e) f
theorem Quiet.none(o:ke g l nx part bu){S:Int→Prop}(hS:s8 l nx part S){v:List eT}{b:List Bool}{n:Int}(n0:0≤n)(q:Quiet l.length S v b n):lX g l nx part v b (n+1) = []:=by
 refine cL.2 fun i hi=>?_
 have hp:=o.prt i hi
 have hx:=(o.xI i hp.1 hp.2).1
 unfold kc jz
 rw[if_neg (by omega),if_neg]
 ·simp only[ah,decide_eq_true_eq,not_and]
  intro h
  exfalso
  rcases Bp v b (gt nx i) (gt nx i).length (Nat.le_refl _)with e|⟨j,hj,e1,e2,e3⟩
  ·omega
  ·have:=q j (hx j hj).1 (hx j hj).2 (hS.next i hi j hj) e1 (by omega)
   omega
 ·rintro⟨k,hk,e1,e2⟩
  have h1:(gt v k).1=3:=by rw[e2]
  have h2:(gt v k).2=n+1-1:=by rw[e2]
  have:=q k (hx k hk).1 (hx k hk).2 (hS.next i hi k hk) e1 (by omega)
  omega
theorem Quiet.iF(o:ke g l nx part bu){S:Int→Prop}(hS:s8 l nx part S){v:List eT}{b:List Bool}(gP:Int):∀ (f:Nat) (n:Int) (t:Int),0≤n→Quiet l.length S v b n→(iF g l nx part gP f (n+1) v b t).2=(v,b)
 | 0,_,_,_,_=>rfl
 | f+1,n,t,n0,q=>by
  have hd:=q.none o hS n0
  have e1:rV g l nx part v b (n+1)=v:=by unfold rV;rw[hd];rfl
  have e2:rB g l nx part v b (n+1)=b:=by unfold rB;rw[hd];rfl
  rw[Go.Proofs.YtnaefnajkaohgaaGreatDoor.iF,e1,e2]
  split
  ·exact Quiet.iF o hS gP f (n+1) _ (by omega) fun k k0 k1 s e h=>by have:=q k k0 k1 s e h;omega
  ·rfl
theorem Eu(v:List eT)(b:List Bool):∀ (k:Nat) (j:Int),0≤j→j<k→gt b j=false→(gt v j).1≠2→(gt v j).2≤jZ v b k
 | 0,j,j0,j1,_,_=>by omega
 | k+1,j,j0,j1,h1,h2=>by
  rw[jZ]
  by_cases e:j=(k:Int)
  ·subst e
   rw[if_pos ⟨h1,h2⟩];omega
  ·have:=Eu v b k j j0 (by omega) h1 h2
   split<;>omega
theorem PY(o:ke g l nx part bu){S:Int→Prop}(hS:s8 l nx part S)(gP:Int):∀ (f:Nat) (n:Int) (v v':List eT) (b b':List Bool) (t t':Int),0≤n→mT l.length S v b v' b' →
  mT l.length S (iF g l nx part gP f n v b t).2.1 (iF g l nx part gP f n v b t).2.2 (iF g l nx part gP f n v' b' t').2.1 (iF g l nx part gP f n v' b' t').2.2
 | 0,n,v,v',b,b',t,t',_,h=>h
 | f+1,n,v,v',b,b',t,t',n0,h=>by
  have hr:=P2 o hS h n
  rw[iF,iF]
  generalize rV g l nx part v b n=V at *
  generalize rB g l nx part v b n=B at *
  generalize rV g l nx part v' b' n=V' at *
  generalize rB g l nx part v' b' n=B' at *
  by_cases c:n≤jZ V B v.length∧n<4000
  ·by_cases c':n≤jZ V' B' v'.length∧n<4000
   ·rw[if_pos c,if_pos c']
    exact PY o hS gP f (n+1) V V' B B' _ _ (by omega) hr
   ·have q':Quiet l.length S V' B' n:=fun k k0 k1 _ e h2=>by
     have:=Eu V' B' v'.length k k0 (by rw[h.yf];exact k1) e h2
     omega
    rw[if_pos c,if_neg c',(q'.Lr hr.symm).iF o hS gP f n _ n0]
    exact hr
  ·have q:Quiet l.length S V B n∨¬ n<4000:=by
    by_cases c2:n<4000
    ·exact .inl fun k k0 k1 _ e h2=>by
      have:=Eu V B v.length k k0 (by rw[h.vl];exact k1) e h2
      omega
    ·exact .inr c2
   by_cases c':n≤jZ V' B' v'.length∧n<4000
   ·rw[if_neg c,if_pos c',((q.resolve_right (fun h=>h c'.2)).Lr hr).iF o hS gP f n _ n0]
    exact hr
   ·rw[if_neg c,if_neg c']
    exact hr
def rep(n:Nat):List Bool:=List.replicate n false
theorem ui(n:Nat):(rep n).length=n:=by simp[rep]
theorem ML(o:ke g l nx part bu){S:Int→Prop}(hS:s8 l nx part S)(gP:Int){v v':List eT}(hv:v.length=l.length)(jm:v'.length=l.length)(h:∀ k:Int,0≤k→k<l.length→S k→k ∉ part→gt v k=gt v' k) :
  ∀ k:Int,0≤k→k<l.length→S k→gt (jM g l nx part gP v (rep l.length)).2.1 k=gt (jM g l nx part gP v' (rep l.length)).2.1 k:=by
 have hb:=ui l.length
 obtain⟨m1,m2⟩:=Ay o hb
 have h0:mT l.length S v (iX (rep l.length) (fun _=>true) part) v' (iX (rep l.length) (fun _=>true) part):=⟨hv,m1,jm,m1,fun _ _ _ _=>rfl,fun k k0 k1 s e=>by
  rw[m2 k k0 k1]at e
  split at e
  ·cases e
  ·rename_i hk
   exact h k k0 k1 s hk⟩
 have hr:=PY o hS gP 4001 0 v v' _ _ 0 0 (by omega) h0
 obtain⟨_,r3⟩:=F3 o gP 4001 0 v (iX (rep l.length) (fun _=>true) part) 0 hv m1
 obtain⟨_,f2⟩:=Ee o hr.vl hr.bl
 obtain⟨_,Sy⟩:=Ee o hr.yf hr.uK
 intro k k0 k1 s
 unfold jM
 dsimp only
 rw[(f2 k k0 k1).1,(Sy k k0 k1).1,← hr.eb k k0 k1 s]
 by_cases c:k∈part∧gt (iF g l nx part gP 4001 0 v (iX (rep l.length) (fun _=>true) part) 0).2.2 k=true
 ·rw[if_pos c,if_pos c]
 ·rw[if_neg c,if_neg c]
  refine hr.ev k k0 k1 s ?_
  by_cases hk:k∈part
  ·have:=fun e=>c ⟨hk,e⟩
   simpa using this
  ·rw[(r3 k k0 k1 hk).2,m2 k k0 k1,if_neg hk]
   exact Ez k0 (by omega)
end
section
variable{g:eO}{l:List Pos}{m:List Int}
theorem FM(hg:fi g)(hv:rJ g m)(hc:p5 g l){i:Int}(i0:0≤i)(i1:i<l.length):∀ k∈gt (fy g l) i,fV m (gt l k)≤fV m (gt l i):=fun k hk=>by
 rw[(ue hc i0 i1).1]at hk
 obtain⟨q,hq,rfl⟩:=av.1 hk
 have re:=vL.1 hq
 have EZ:=hc.cl _ (eY i0 i1) q re
 rw[(zk EZ).2.2]
 exact W0 hg hv (hc.ok _ (eY i0 i1)) re
theorem acb(hg:fi g)(hv:rJ g m)(hc:p5 g l)(n:Int):s8 l (fy g l) (lY m l n) fun k=>fV m (gt l k)≤n:=
 ⟨fun i hi=>by rw[(sK.1 hi).2];exact bU _,fun i hi k hk=>by
  obtain⟨⟨i0,i1⟩,e⟩:=sK.1 hi
  have:=FM hg hv hc i0 i1 k hk
  omega⟩
end
end Go.Proofs.YtnaefnajkaohgaaGreatDoor
namespace Go.Proofs.YtnaefnajkaohgaaGreatDoor
open Go Go.AL Classical
structure pZ where
 ov:Int→Bool
 rs:Int→Int
 nx:List (List Int)
def mj(A:pZ)(v:List eT)(i:Int):Prop:=
 (A.ov i=true∧gt v i=(A.rs i,0))∨(A.ov i=false∧(
  (∃ n,1≤n∧gt v i=(1,n)∧(∃ k∈gt A.nx i,gt v k=(3,n-1))∧∀ k∈gt A.nx i,(gt v k).1=3→n-1≤(gt v k).2) ∨
  (∃ n,1≤n∧gt v i=(3,n)∧(∀ k∈gt A.nx i,(gt v k).1=1∧(gt v k).2≤n-1)∧∃ k∈gt A.nx i,(gt v k).2=n-1) ∨
  (gt v i=(2,0)∧(∀ k∈gt A.nx i,(gt v k).1≠3)∧¬ (gt A.nx i≠[]∧∀ k∈gt A.nx i,(gt v k).1=1))))
theorem mj.n0{A:pZ}{v:List eT}{i:Int}(h:mj A v i):0≤(gt v i).2:=by
 rcases h with⟨_,e⟩|⟨_,⟨n,h,e,_⟩|⟨n,h,e,_⟩|⟨e,_⟩⟩<;>rw[e]<;>simp<;>omega
theorem mj.congr{A:pZ}{v v':List eT}{i:Int}(h:mj A v i)(hi:gt v' i=gt v i)(hk:∀ k∈gt A.nx i,gt v' k=gt v k):mj A v' i:=by
 rcases h with⟨c1,c2⟩|⟨c1,⟨q,q1,c2,⟨k,gX,c3⟩,c4⟩|⟨q,q1,c2,c3,k,gX,c4⟩|⟨c2,c3,c4⟩⟩
 ·exact .inl ⟨c1,by rw[hi];exact c2⟩
 ·exact .inr ⟨c1,.inl ⟨q,q1,by rw[hi];exact c2,⟨k,gX,by rw[hk k gX];exact c3⟩,fun p hp=>by rw[hk p hp];exact c4 p hp⟩⟩
 ·exact .inr ⟨c1,.inr (.inl ⟨q,q1,by rw[hi];exact c2,fun p hp=>by rw[hk p hp];exact c3 p hp,k,gX,by rw[hk k gX];exact c4⟩)⟩
 ·exact .inr ⟨c1,.inr (.inr ⟨by rw[hi];exact c2,fun p hp=>by rw[hk p hp];exact c3 p hp,fun⟨a1,a2⟩=>c4 ⟨a1,fun p hp=>by rw[← hk p hp];exact a2 p hp⟩⟩)⟩
section
variable{A:pZ}{S:Int→Prop}{v v':List eT}
theorem OH(hS:∀ i,S i→∀ k∈gt A.nx i,S k)(h:∀ i,S i→mj A v i)(h':∀ i,S i→mj A v' i){n:Int}
  (ih:∀ m:Int,0≤m→m<n→∀ i,S i→(gt v i).1≠2→(gt v i).2=m→gt v' i=gt v i) (Jd:∀ m:Int,0≤m→m<n→∀ i,S i→(gt v' i).1≠2→(gt v' i).2=m→gt v i=gt v' i) :
  ∀ i,S i→(gt v i).1≠2→(gt v i).2=n→gt v' i=gt v i:=fun i hi h2 hn=>by
 rcases h i hi with⟨o,e⟩|⟨o,⟨m,h1,e,⟨k,hk,ek⟩,_⟩|⟨m,h1,e,ha,k,hk,ek⟩|⟨e,_⟩⟩
 ·rcases h' i hi with⟨_,e'⟩|⟨o',_⟩
  ·rw[e,e']
  ·rw[o]at o';cases o'
 ·rw[e]at hn
  dsimp only at hn
  subst hn
  have gX:=ih (m-1) (by omega) (by omega) k (hS i hi k hk) (by rw[ek];simp) (by rw[ek])
  rw[ek]at gX
  rcases h' i hi with⟨o',_⟩|⟨_,⟨m',wV,e',_,zS⟩|⟨m',_,_,od,_⟩|⟨_,zT,_⟩⟩
  ·rw[o]at o';cases o'
  ·have:=zS k hk (by rw[gX])
   rw[gX]at this
   dsimp only at this
   by_cases e2:m'=m
   ·rw[e,e',e2]
   ·have:=Jd m' (by omega) (by omega) i hi (by rw[e'];simp) (by rw[e'])
    rw[e,e']at this
    exact absurd (congrArg Prod.snd this).symm e2
  ·have:=(od k hk).1
   rw[gX]at this
   exact absurd this (by simp)
  ·exact absurd (by rw[gX]) (zT k hk)
 ·rw[e]at hn
  dsimp only at hn
  subst hn
  have gy:∀ q∈gt A.nx i,gt v' q=gt v q:=fun q hq=>ih _ (h q (hS i hi q hq)).n0 (by have:=(ha q hq).2;omega) q (hS i hi q hq) (by rw[(ha q hq).1];simp) rfl
  rcases h' i hi with⟨o',_⟩|⟨_,⟨m',_,_,⟨q,hq,eq⟩,_⟩|⟨m',wV,e',od,q,hq,eq⟩|⟨_,_,zT⟩⟩
  ·rw[o]at o';cases o'
  ·have:=(ha q hq).1
   rw[← gy q hq,eq]at this
   exact absurd this (by simp)
  ·have a1:=(od k hk).2
   have a2:=(ha q hq).2
   rw[gy k hk]at a1
   rw[gy q hq]at eq
   rw[e,e',show m'=m by omega]
  ·exact(zT ⟨fun e0=>(by rw[e0]at hk;cases hk),fun q hq=>by rw[gy q hq];exact(ha q hq).1⟩).elim
 ·rw[e]at h2;exact absurd rfl h2
theorem Wz(hS:∀ i,S i→∀ k∈gt A.nx i,S k)(h:∀ i,S i→mj A v i)(h':∀ i,S i→mj A v' i):∀ i,S i→gt v i=gt v' i:=by
 have key:∀ N:Nat,(∀ m:Int,0≤m→m<N→∀ i,S i→(gt v i).1≠2→(gt v i).2=m→gt v' i=gt v i)∧(∀ m:Int,0≤m→m<N→∀ i,S i→(gt v' i).1≠2→(gt v' i).2=m→gt v i=gt v' i):=by
  intro N
  induction N with
  | zero=>exact⟨fun m _ _=>by omega,fun m _ _=>by omega⟩
  | succ N ih=>
   refine⟨fun m m0 m1=>?_,fun m m0 m1=>?_⟩
   ·exact OH hS h h' (fun q q0 q1=>ih.1 q q0 (by omega)) (fun q q0 q1=>ih.2 q q0 (by omega))
   ·exact OH hS h' h (fun q q0 q1=>ih.2 q q0 (by omega)) (fun q q0 q1=>ih.1 q q0 (by omega))
 intro i hi
 have n0:=(h i hi).n0
 have W6:=(h' i hi).n0
 by_cases e:(gt v i).1=2
 ·by_cases e':(gt v' i).1=2
  ·refine ef (by rw[e,e']) ?_
   have z:∀ {w:List eT},mj A w i→(gt w i).1=2→(gt w i).2=0:=fun{w} hw xw=>by
    rcases hw with⟨_,e⟩|⟨_,⟨n,_,e,_⟩|⟨n,_,e,_⟩|⟨e,_⟩⟩
    ·rw[e]
    ·rw[e]at xw;exact absurd xw (by simp)
    ·rw[e]at xw;exact absurd xw (by simp)
    ·rw[e]
   rw[z (h i hi) e,z (h' i hi) e']
  ·exact(key ((gt v' i).2.toNat+1)).2 _ W6 (by omega) i hi e' rfl
 ·exact((key ((gt v i).2.toNat+1)).1 _ n0 (by omega) i hi e rfl).symm
end
noncomputable def mX(g:eO)(l:List Pos)(nx:List (List Int)):pZ:=⟨fun i=>(stat g (gt l i)).2,fun i=>(stat g (gt l i)).1,nx⟩
