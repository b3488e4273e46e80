/- 42 -/
import Derived.Test.YtnaefnajkaohgaaGreatDoorH40
import Derived.Test.YtnaefnajkaohgaaGreatDoorH41
set_option linter.all false
namespace Go.Proofs.YtnaefnajkaohgaaGreatDoor
open Go Go.AL Classical
set_option maxRecDepth 10000
set_option maxHeartbeats 8000000
def Ur{l:List eO}{n:Int}(h:n.toNat<l.length):(cl fS l).drop (n.toNat*2)=fS (gt l n)++cl fS (l.drop (n.toNat+1)):=by
 rw[te,bR h,mY]
 congr 1
 unfold gt;rw[List.getD_eq_getElem?_getD,List.getElem?_eq_getElem h];rfl
def On{l:List eO}{n:Int}(h:n.toNat<l.length)(a:Int):(cl fS l).take (n.toNat*2) ++ .i a::(cl fS l).drop (n.toNat*2+1)=cl fS (pt l n (a,(gt l n).2)):=by
 have e:(cl fS l).drop (n.toNat*2+1) = .i (gt l n).2::cl fS (l.drop (n.toNat+1)):=by
  rw[← cU,Ur h,uC];rfl
 rw[e,tf]
 unfold pt
 rw[← zb,mY,uC]
 rfl
def VM(g:eH)(hg:fe g)(l:List Pos)(hc:jo g l)(h0:0<l.length)(m:List Int)(hm:kD g m)(n:Int)(hn:1≤n∧n≤9223372036854775807):Wf T 42 [dG g,.agg [dI m],e7 l,.i n] [] (Is (.tup [fh (qZ g l m n).2.1,.i (qZ g l m n).1,.i 0])):=by
 have h9:=hc.len
 have K6:=fun p hp=>Kp hg hc (m:=m) hn (p:=p) hp
 have PN:=fun p hp=>J3 (m:=m) (l:=l) (p:=p) hp
 have fM:=OI m l
 generalize hR:qZ g l m n=R
 unfold qZ at hR
 refine Yg yS ?_
 simp[yS]
 refine fg.inl oR rfl rfl (by simp[oR]) rfl ?_
 simp[oR]
 refine Yc (f52 g hg l hc h0) ?_
 simp
 (with_reducible repeat' first|refine Xk ?_<;>try simp|refine Xs ?_ ?_<;>intro h<;>(try intro h')<;>(try simp[h])<;>try omega|refine Xg ?_|omega)
 refine eN.s (by simp;rfl) ?_
 refine eN.e ((0,List.replicate l.length (0,0)):Int×List eO) (fun y=>[(2,e7 l),(3,.i n),(5,.ptr 1 0 0),(11,.ptr 2 0 0),(33,.i l.length),(34,.i y.1)]) (fun y=>[.row 41 0 g.cells,.row 50 0 [dI m],.row 148 0 [.eF 3 0 2 0 l.length,.eF 4 0 1 0 l.length,.i g.size,.sl 1 (g.next.map fI),dI g.gU,.sl 3 (g.kinds.map Kind.cells),.i g.ff,.b g.lg,dN 4 Clause.cells g.clauses,.i g.blocked,.i g.n9,e7 l,.sl 1 ((eS g l).map fN)],.row 58 0 (cl fS y.2),.row 4 0 (cl fB (List.replicate l.length false))]) (fun y=>0≤y.1∧y.1≤l.length∧y.2.length=l.length∧(∀ k:Int,0≤k→k<y.1→gt y.2 k=(2,0))∧(∀ k:Int,y.1≤k→k<l.length→gt y.2 k=(0,0))) (fun y=>(l.length-y.1).toNat) ?_ ?_
 ·dsimp only
  refine⟨by omega,by omega,by simp,fun k k0 k1=>by omega,fun k k0 k1=>zo k0 k1⟩
 rintro⟨i,v⟩ ⟨i0,i1,i2,i3,i4⟩
 dsimp only at i0 i1 i2 i3 i4 ⊢
 by_cases hi:i<l.length
 ·have gK:=gN (v:=((2,(gt v i).2):eO)) i0 (by omega:i<v.length)
  have YR:=i4 i (by omega) hi
  simp[hi]
  (with_reducible repeat' first|refine Xk ?_<;>try simp|refine Xs ?_ ?_<;>intro h<;>(try intro h')<;>(try simp[h])<;>try omega|refine Xg ?_|omega)
  refine LJ.i (i+1,pt v i (2,(gt v i).2)) (by first|rfl|simp[On (by omega:i.toNat<v.length)]) (by first|rfl|simp[On (by omega:i.toNat<v.length)]) rfl rfl ?_
  dsimp only
  refine⟨by omega,by omega,by omega,by rw[gK];exact i2,fun k k0 k1=>?_,fun k k0 k1=>?_⟩
  ·by_cases e:k=i
   ·subst e;rw[xv i0 (by omega),YR]
   ·rw[Hv i0 (by omega) (by omega) e];exact i3 k k0 (by omega)
  ·rw[Hv i0];exact i4 k (by omega) k1
 ·simp[hi]
  refine Yc (f77 hg hm hc.ok h9 h0) ?_
  simp
  have hv:v=List.replicate l.length (2,0):=Hu (by simp[i2]) fun j j0 j1=>by rw[i3 j j0 (by omega),zo j0]
  subst hv
  generalize mP m l=cut at *
  refine eN.s (by simp;rfl) ?_
  refine eN.e ((0,List.replicate l.length (2,0),List.replicate l.length false,0):Int×List eO×List Bool×Int) (fun y=>[(3,.i n),(11,.ptr 2 0 0),(14,.i y.2.2.2),(48,.sl 1 (cut.map fI)),(49,.i cut.length),(50,.i y.1)]) (fun y=>[.row 41 0 g.cells,.row 50 0 [dI m],.row 148 0 (kK true g l (eS g l)),.row 58 0 (cl fS y.2.1),.row 4 0 (cl fB y.2.2.1)]) (fun y=>0≤y.1∧y.1≤cut.length∧y.2.1.length=l.length∧y.2.2.1.length=l.length∧0≤y.2.2.2∧y.2.2.2≤y.1*20000000∧tM g l (eS g l) n (cut.drop y.1.toNat) y.2.1 y.2.2.1 y.2.2.2=R) (fun y=>(cut.length-y.1).toNat) ?_ ?_
  ·exact⟨by simp,by simp,by simp,by simp,by simp,by simp,hR⟩
  rintro⟨i,v,b,t⟩ ⟨i0,i1,i2,i3,i4,i5,i6⟩
  dsimp only at i0 i1 i2 i3 i4 i5 i6 ⊢
  by_cases hi:i<cut.length
  ·have kz:=eQ i0 hi
   have ho:=K6 _ kz
   obtain⟨c1,c2,c3,c4⟩:=PN _ kz
   have Xr:=Pc (g:=g) (l:=l) (nx:=eS g l) (bu:=n) ho.pl v b
   have vU:=(zk ho n i2 i3).1
   rw[lQ i0 hi,tM]at i6
   simp[hi]
   (with_reducible repeat' first|refine Xk ?_<;>try simp|refine Xs ?_ ?_<;>intro h<;>(try intro h')<;>(try simp[h])<;>try omega|refine Xg ?_|omega)
   refine fg.lK rfl rfl (f78 true [] ho m v b i2 i3) ?_
   rintro d H' ⟨rfl,rfl⟩
   generalize kG g l (eS g l) (gt cut i) n v b=r at *
   simp[H5]
   (with_reducible repeat' first|refine Xk ?_<;>try simp|refine Xs ?_ ?_<;>intro h<;>(try intro h')<;>(try simp[h])<;>try omega|refine Xg ?_|omega)
   refine LJ.e (i+1,r.2.1,r.2.2,t+r.1) ?_
   dsimp only
   refine⟨by omega,by omega,by omega,vU.1,vU.2,by omega,by omega,?_⟩
   rw[show(i+1).toNat=i.toNat+1 by omega]
   exact i6
  ·have:i=cut.length:=by omega
   subst this
   rw[aR (by simp),tM]at i6
   subst i6
   simp[kK,i2]
def VE(v:List eO)(h9:v.length≤4000):Wf T 24 [fh v,fh v] [] (Is (.b true)):=by
 refine Yg yP ?_
 simp[yP]
 refine eN.e (0:Int) (fun y=>[(0,fh v),(1,fh v),(5,.i y)]) (fun y=>[]) (fun y=>0≤y∧y≤v.length) (fun y=>(v.length-y).toNat) ?_ ?_
 ·simp
 rintro i ⟨i0,i1⟩
 dsimp only at i0 i1 ⊢
 by_cases hi:i<v.length
 ·simp[hi]
  (with_reducible repeat' first|refine Xk ?_<;>try simp|refine Xs ?_ ?_<;>intro h<;>(try intro h')<;>(try simp[h])<;>try omega|refine Xg ?_|omega)
  refine LJ.e (i+1) ?_
  omega
 ·simp[hi]
def Vx(g:eH)(hg:fe g)(l:List Pos)(hc:jo g l)(h0:0<l.length)(m:List Int)(hm:kD g m)(n:Int)(hn:1≤n∧n≤9223372036854775807):Wf T 18 [dG g,.agg [dI m],e7 l,.i n] [] (Is (.agg [fh (qZ g l m n).2.1,.i (qZ g l m n).1,.i 0])):=by
 refine Yg yM ?_
 simp[yM]
 refine Yc (VM g hg l hc h0 m hm n hn) ?_
 simp
end Go.Proofs.YtnaefnajkaohgaaGreatDoor
namespace Go.Proofs.YtnaefnajkaohgaaGreatDoor
open Go Go.AL Classical
set_option maxRecDepth 10000
set_option maxHeartbeats 8000000
def pQ(r n:Int):Int:=bits .and .i64 (tV .i64 r n) 1
def qF(r n:Int):bits .and .i64 (tV .i64 r n) 1=pQ r n:=rfl
def TY:∀ i:Fin 4,pQ (i.val:Int) 0+pQ (i.val:Int) 1+pQ (i.val:Int) 2+pQ (i.val:Int) 3=u7 (i.val:Int):=by decide
def Gw:∀ (i:Fin 4) (n:Fin 4),0≤pQ (i.val:Int) (n.val:Int)∧pQ (i.val:Int) (n.val:Int)≤1:=by decide
section
variable{g:eH}{m:List Int}{p:Pos}{l:List Pos}
def f28(hg:fe g)(hm:kD g m)(hp:fO g p):Wf T 28 [.agg [dI m],dP p] [] (Is (.i (gM m p))):=by
 have hk:=hg.kinds
 have gH:=hp.size
 have zA:=hg.iw.size
 have lm:=hm.len
 have l0:=hp.h0.len
 have l1:=hp.h1.len
 refine Yg Fu ?_
 simp[Fu]
 refine eN.e (0:Int) (fun y=>[(2,.ptr 0 0 0),(3,.ptr 1 0 0),(5,.i (qW m p.cs y.toNat)),(6,.i y)]) (fun y=>[.row 50 0 [dI m],.row 44 0 p.cells]) (fun y=>0≤y∧y≤p.cs.length) (fun y=>(p.cs.length-y).toNat) ?_ ?_
 ·simp
 rintro i ⟨i0,i1⟩
 dsimp only at i0 i1 ⊢
 by_cases hi:i<p.cs.length
 ·have hs:=Rr (m:=m) (cs:=p.cs) i0
  have ft:=zZ hg hm hp i.toNat (by omega)
  have kz:=eQ i0 hi
  have im:=hp.cs _ kz
  have HG:=L6 hg hm hp kz
  have Qe:=L9 hk.2 im
  simp[hi]
  by_cases h0:gt p.cs i=0
  ·have hz:tK m (gt p.cs i)=0:=by rw[h0];unfold tK fm;simp
   simp[h0]
   (with_reducible repeat' first|refine Xk ?_<;>try simp|refine Xs ?_ ?_<;>intro h<;>(try intro h')<;>(try simp[h])<;>try omega|refine Xg ?_|omega)
   refine LJ.i (i+1) (by first|rfl|simp[hs,hz]) (by first|rfl|simp[hs,hz]) rfl rfl ?_
   omega
  ·have ky:0≤fm (gt p.cs i):=by unfold fm;rw[if_pos (by omega)];omega
   have hz:tK m (gt p.cs i)=gt m (fm (gt p.cs i)):=by unfold tK;rw[if_pos ky]
   have al8:=Qe ky
   rw[hz]at hs HG
   simp[h0]
   (with_reducible repeat' first|refine Xk ?_<;>try simp|refine Xs ?_ ?_<;>intro h<;>(try intro h')<;>(try simp[h])<;>try omega|refine Xg ?_|omega)
   refine Yt (f51 _) ?_
   simp
   (with_reducible repeat' first|refine Xk ?_<;>try simp|refine Xs ?_ ?_<;>intro h<;>(try intro h')<;>(try simp[h])<;>try omega|refine Xg ?_|omega)
   refine LJ.i (i+1) (by first|rfl|simp[hs]) (by first|rfl|simp[hs]) rfl rfl ?_
   omega
 have kT:i=p.cs.length:=by omega
 subst kT
 simp
 have hA:=zZ hg hm hp p.cs.length (Nat.le_refl _)
 unfold gM
 generalize qW m p.cs p.cs.length=A at *
 refine eN.e (0:Int) (fun y=>[(2,.ptr 0 0 0),(3,.ptr 1 0 0),(5,.i (A+qX m p.h0 p.h1 y.toNat)),(7,.i y)]) (fun y=>[.row 50 0 [dI m],.row 44 0 p.cells]) (fun y=>0≤y∧y≤m.length) (fun y=>(m.length-y).toNat) ?_ ?_
 ·simp
 rintro i ⟨i0,i1⟩
 dsimp only at i0 i1 ⊢
 by_cases hi:i<m.length
 ·have hs:=Rs (m:=m) (a:=p.h0) (b:=p.h1) i0
  have ft:=z1 hm hp i.toNat (by omega)
  have ht:=L7 hm hp i0 hi
  simp[hi]
  (with_reducible repeat' first|refine Xk ?_<;>try simp|refine Xs ?_ ?_<;>intro h<;>(try intro h')<;>(try simp[h])<;>try omega|refine Xg ?_|omega)
  refine LJ.i (i+1) (by first|rfl|simp[hs,cp]) (by first|rfl|simp[hs,cp]) rfl rfl ?_
  omega
 have kT:i=m.length:=by omega
 subst kT
 simp
 have hH:=z1 hm hp m.length (Nat.le_refl _)
 generalize qX m p.h0 p.h1 m.length=B at *
 obtain⟨r,hr⟩:=Mp hp.ff.1 (show p.ff<4 by have:=SC hg hp;omega)
 have QD:=TY r
 have b0:=Gw r 0
 have b1:=Gw r 1
 have b2:=Gw r 2
 have b3:=Gw r 3
 rw[← hr]at QD b0 b1 b2 b3
 generalize p.ff=R at *
 rw[← QD]
 change 0≤pQ R 0∧pQ R 0≤1 at b0
 change 0≤pQ R 1∧pQ R 1≤1 at b1
 change 0≤pQ R 2∧pQ R 2≤1 at b2
 change 0≤pQ R 3∧pQ R 3≤1 at b3
 refine eN.un ?_
 refine iP.u ?_
 simp[qF]
 (with_reducible repeat' first|refine Xk ?_<;>try simp[qF]|refine Xs ?_ ?_<;>intro h<;>(try intro h')<;>(try simp[h,qF])<;>try omega|refine Xg ?_|omega)
 refine iP.u ?_
 simp[qF]
 (with_reducible repeat' first|refine Xk ?_<;>try simp[qF]|refine Xs ?_ ?_<;>intro h<;>(try intro h')<;>(try simp[h,qF])<;>try omega|refine Xg ?_|omega)
 refine iP.u ?_
 simp[qF]
 (with_reducible repeat' first|refine Xk ?_<;>try simp[qF]|refine Xs ?_ ?_<;>intro h<;>(try intro h')<;>(try simp[h,qF])<;>try omega|refine Xg ?_|omega)
 refine iP.u ?_
 simp[qF]
 (with_reducible repeat' first|refine Xk ?_<;>try simp[qF]|refine Xs ?_ ?_<;>intro h<;>(try intro h')<;>(try simp[h,qF])<;>try omega|refine Xg ?_|omega)
 refine iP.u ?_
 simp[qF]
 omega
def f23(hg:fe g)(hm:kD g m)(hl:∀ p∈l,fO g p)(h9:l.length≤4000):Wf T 23 [.agg [dI m],e7 l] [] (Is (.sl 1 ((mP m l).map fI))):=by
 have rI:∀ j:Int,0≤j→j<l.length→0≤gM m (gt l j):=fun j j0 j1=>(LX hg hm (hl _ (eQ j0 j1))).1
 have hL:=Rv m l
 refine Yz AR (gL 60 [2] AR.body) ?_
 simp[AR,gL,jg,lD,lH,lS,ku]
 refine eN.e ((-1,0,[]):Int×Nat×List (List Int)) (fun y=>[(1,e7 l),(2,.ptr 0 0 0),(5,.eF 1 y.2.1 1 0 y.2.2.length),(6,.i y.1)]) (fun y=>[.row 50 0 [dI m],.row 33 y.2.1 (cl fI y.2.2)]) (fun y => -1≤y.1∧y.2.2=(sH m l y.1).map (sr m l)) (fun y=>((mM m l).length-(sH m l y.1).length)) ?_ ?_
 ·simp[aaq rI]
 rintro⟨last,gn,out⟩ ⟨i0,i1⟩
 dsimp only at i0 i1 ⊢
 have fq:=Rt m l last
 have zJ:out.length=(sH m l last).length:=by rw[i1,List.length_map]
 simp
 refine eN.e (0:Int) (fun y=>[(1,e7 l),(2,.ptr 0 0 0),(5,.eF 1 gn 1 0 out.length),(6,.i last),(7,.i (ot m l last y.toNat)),(8,.eF 2 0 1 0 0),(9,.i y)]) (fun y=>[.row 50 0 [dI m],.row 33 gn (cl fI out),.row 3 0 []]) (fun y=>0≤y∧y≤l.length) (fun y=>(l.length-y).toNat) ?_ ?_
 ·simp
 rintro i ⟨j0,j1⟩
 dsimp only at j0 j1 ⊢
 by_cases hi:i<l.length
 ·have hs:=aaO (m:=m) (l:=l) (last:=last) j0
  have hp:=hl _ (eQ j0 hi)
  have ft:=LX hg hm hp
  simp[hi]
  (with_reducible repeat' first|refine Xk ?_<;>try simp|refine Xs ?_ ?_<;>intro h<;>(try intro h')<;>(try simp[h])<;>try omega|refine Xg ?_|omega)
  refine Yt (f28 hg hm hp) ?_
  simp
  generalize gM m (gt l i)=L at *
  generalize ot m l last i.toNat=x at *
  (with_reducible repeat' first|refine Xk ?_<;>try simp|refine Xs ?_ ?_<;>intro h<;>(try intro h')<;>(try simp[h])<;>try omega|refine Xg ?_|omega)
  ·refine LJ.i (i+1) (by first|rfl|simp[hs,show last<L∧(x<0∨L<x)by omega]) (by first|rfl|simp[hs,show last<L∧(x<0∨L<x)by omega]) rfl rfl ?_
   omega
  ·refine LJ.i (i+1) (by first|rfl|simp[hs,show last<L∧(x<0∨L<x)by omega]) (by first|rfl|simp[hs,show last<L∧(x<0∨L<x)by omega]) rfl rfl ?_
   omega
  ·refine LJ.i (i+1) (by first|rfl|simp[hs,show ¬ (last<L∧(x<0∨L<x))by omega]) (by first|rfl|simp[hs,show ¬ (last<L∧(x<0∨L<x))by omega]) rfl rfl ?_
   omega
  ·refine LJ.i (i+1) (by first|rfl|simp[hs,show ¬ (last<L∧(x<0∨L<x))by omega]) (by first|rfl|simp[hs,show ¬ (last<L∧(x<0∨L<x))by omega]) rfl rfl ?_
   omega
 ·have kT:i=l.length:=by omega
  subst kT
  simp
  have rL:=RN rI last l.length (Nat.le_refl _)
  generalize ot m l last l.length=x at *
  rcases rL with⟨rfl,h1⟩|⟨⟨h0,h1⟩,h2,h3⟩
  ·have e:out=mP m l:=by rw[i1,aao h1];rfl
   simp[e]
  ·have hn:=aap h1 h2 h3
   have hx:¬ x<0:=by omega
   simp[hx]
   refine eN.e ((0,0,[]):Int×Nat×List Int) (fun y=>[(1,e7 l),(2,.ptr 0 0 0),(5,.eF 1 gn 1 0 out.length),(7,.i x),(8,.eF 2 y.2.1 1 0 y.2.2.length),(11,.i y.1)]) (fun y=>[.row 50 0 [dI m],.row 33 gn (cl fI out),.row 3 y.2.1 (cl f1 y.2.2)]) (fun y=>0≤y.1∧y.1≤l.length∧y.2.2=ti m l x y.1.toNat) (fun y=>(l.length-y.1).toNat) ?_ ?_
   ·simp[ti,upto]
   rintro⟨i,gm,u⟩ ⟨k0,k1,k2⟩
   dsimp only at k0 k1 k2 ⊢
   have QL:u.length≤i.toNat:=by
    rw[k2]
    exact wv _ _ ((M9 _).nd.filter _) fun y hy=>(CO.1 hy).1
   by_cases hi:i<l.length
   ·have hp:=hl _ (eQ k0 hi)
    have hs:=Kj (m:=m) (l:=l) (n:=x) k0
    simp[hi]
    (with_reducible repeat' first|refine Xk ?_<;>try simp|refine Xs ?_ ?_<;>intro h<;>(try intro h')<;>(try simp[h])<;>try omega|refine Xg ?_|omega)
    refine Yt (f28 hg hm hp) ?_
    simp
    (with_reducible repeat' first|refine Xk ?_<;>try simp|refine Xs ?_ ?_<;>intro h<;>(try intro h')<;>(try simp[h])<;>try omega|refine Xg ?_|omega)
    ·refine LJ.e (i+1,gm+1,u ++ [i]) ?_
     dsimp only
     exact eY (by rw[hs,k2,if_pos (by assumption)])
    ·refine LJ.e (i+1,gm,u) ?_
     dsimp only
     exact eY (by rw[hs,k2,if_neg (by assumption),aw])
   ·have kT:i=l.length:=by omega
    subst kT
    simp
    (with_reducible repeat' first|refine Xk ?_<;>try simp|refine Xs ?_ ?_<;>intro h<;>(try intro h')<;>(try simp[h])<;>try omega|refine Xg ?_|omega)
    refine LJ.e (x,gn+1,out ++ [u]) ?_
    dsimp only
    refine⟨?_,by omega,?_⟩
    ·have:=Rt m l x
     rw[hn]at this ⊢
     simp at this ⊢
     omega
    ·rw[hn,List.map_append,i1,k2];rfl
