/- Part 44 of the proof of skewer.skewerlaw15.TableAgain. -/
import Derived.Test.YtnaefnajkaohgaaGreatDoorD42
import Derived.Test.YtnaefnajkaohgaaGreatDoorD39
import Derived.Test.YtnaefnajkaohgaaGreatDoorD43
set_option linter.all false
namespace Go.Proofs.YtnaefnajkaohgaaGreatDoor
open Go Go.AL Classical
set_option maxRecDepth 10000
set_option maxHeartbeats 8000000
theorem G7{l:List eT}{n:Int}(h:n.toNat<l.length):(cl fS l).drop (n.toNat*2)=fS (gt l n)++cl fS (l.drop (n.toNat+1)):=by
 rw[rY,bP h,mH]
 congr 1
 unfold gt;rw[List.getD_eq_getElem?_getD,List.getElem?_eq_getElem h];rfl
theorem Rw{l:List eT}{n:Int}(h:n.toNat<l.length)(a:Int):(cl fS l).take (n.toNat*2) ++ .i a::(cl fS l).drop (n.toNat*2+1)=cl fS (pt l n (a,(gt l n).2)):=by
 have e:(cl fS l).drop (n.toNat*2+1) = .i (gt l n).2::cl fS (l.drop (n.toNat+1)):=by
  rw[← dg,G7 h,tw];rfl
 rw[e,rZ]
 unfold pt
 rw[← yX,mH,tw]
 rfl
theorem MF(v:List eT)(h9:v.length≤4000):Wf T 24 [gq v,gq v] [] (Is (.b true)):=by
 refine Yg CB ?_
 simp[CB]
 refine eW.e (0:Int) (fun y=>[(0,gq v),(1,gq v),(5,.i y)]) (fun y=>[]) (fun y=>0≤y∧y≤v.length) (fun y=>(v.length-y).toNat) ?_ ?_
 ·simp
 rintro i ⟨i0,i1⟩
 dsimp only at i0 i1 ⊢
 by_cases hi:i<v.length
 ·simp[hi]
  (with_reducible repeat' first|refine Xk ?_<;>try simp|refine Xs ?_ ?_<;>intro h<;>(try intro h')<;>(try simp[h])<;>(try omega)|refine Xg ?_|omega)
  refine LJ.e (i+1) ?_
  omega
 ·simp[hi]
end Go.Proofs.YtnaefnajkaohgaaGreatDoor
namespace Go.Proofs.YtnaefnajkaohgaaGreatDoor
open Go Go.AL Classical
set_option maxRecDepth 10000
set_option maxHeartbeats 8000000
def n9(r n:Int):Int:=bits .and .i64 (uw .i64 r n) 1
theorem o4(r n:Int):bits .and .i64 (uw .i64 r n) 1=n9 r n:=rfl
theorem Q8:∀ i:Fin 4,n9 (i.val:Int) 0+n9 (i.val:Int) 1+n9 (i.val:Int) 2+n9 (i.val:Int) 3=vS (i.val:Int):=by decide
theorem DB:∀ (i:Fin 4) (n:Fin 4),0≤n9 (i.val:Int) (n.val:Int)∧n9 (i.val:Int) (n.val:Int)≤1:=by decide
section
variable{g:eO}{m:List Int}{p:Pos}{l:List Pos}
theorem f28(hg:fi g)(hm:ko g m)(hp:fF g p):Wf T 28 [.agg [dI m],dP p] [] (Is (.i (fV m p))):=by
 have hk:=hg.kinds
 have gj:=hp.size
 have oh:=hg.gV.size
 have lm:=hm.len
 have l0:=hp.h0.len
 have l1:=hp.h1.len
 refine Yg CT ?_
 simp[CT]
 refine eW.e (0:Int) (fun y=>[(2,.ptr 0 0 0),(3,.ptr 1 0 0),(5,.i (nv m p.cs y.toNat)),(6,.i y)]) (fun y=>[.row 50 0 [dI m],.row 44 0 p.cells]) (fun y=>0≤y∧y≤p.cs.length) (fun y=>(p.cs.length-y).toNat) ?_ ?_
 ·simp
 rintro i ⟨i0,i1⟩
 dsimp only at i0 i1 ⊢
 by_cases hi:i<p.cs.length
 ·have hs:=WE (m:=m) (cs:=p.cs) i0
  have fw:=FC hg hm hp i.toNat (by omega)
  have lK:=eY i0 hi
  have gQ:=hp.cs _ lK
  have TT:=OP hg hm hp lK
  have Uz:=OU hk.2 gQ
  simp[hi]
  by_cases h0:gt p.cs i=0
  ·have hz:mA m (gt p.cs i)=0:=by rw[h0];unfold mA ff;simp
   simp[h0]
   (with_reducible repeat' first|refine Xk ?_<;>try simp|refine Xs ?_ ?_<;>intro h<;>(try intro h')<;>(try simp[h])<;>(try omega)|refine Xg ?_|omega)
   refine LJ.i (i+1) (by first|rfl|simp[hs,hz]) (by first|rfl|simp[hs,hz]) rfl rfl ?_
   omega
  ·have jc:0≤ff (gt p.cs i):=by unfold ff;rw[if_pos (by omega)];omega
   have hz:mA m (gt p.cs i)=gt m (ff (gt p.cs i)):=by unfold mA;rw[if_pos jc]
   have aif:=Uz jc
   rw[hz]at hs TT
   simp[h0]
   (with_reducible repeat' first|refine Xk ?_<;>try simp|refine Xs ?_ ?_<;>intro h<;>(try intro h')<;>(try simp[h])<;>(try omega)|refine Xg ?_|omega)
   refine Yt (f51 _) ?_
   simp
   (with_reducible repeat' first|refine Xk ?_<;>try simp|refine Xs ?_ ?_<;>intro h<;>(try intro h')<;>(try simp[h])<;>(try omega)|refine Xg ?_|omega)
   refine LJ.i (i+1) (by first|rfl|simp[hs]) (by first|rfl|simp[hs]) rfl rfl ?_
   omega
 have vq:i=p.cs.length:=by omega
 subst vq
 simp
 have hA:=FC hg hm hp p.cs.length (Nat.le_refl _)
 unfold fV
 generalize nv m p.cs p.cs.length=A at *
 refine eW.e (0:Int) (fun y=>[(2,.ptr 0 0 0),(3,.ptr 1 0 0),(5,.i (A+mB m p.h0 p.h1 y.toNat)),(7,.i y)]) (fun y=>[.row 50 0 [dI m],.row 44 0 p.cells]) (fun y=>0≤y∧y≤m.length) (fun y=>(m.length-y).toNat) ?_ ?_
 ·simp
 rintro i ⟨i0,i1⟩
 dsimp only at i0 i1 ⊢
 by_cases hi:i<m.length
 ·have hs:=WG (m:=m) (a:=p.h0) (b:=p.h1) i0
  have fw:=FE hm hp i.toNat (by omega)
  have ht:=OQ hm hp i0 hi
  simp[hi]
  (with_reducible repeat' first|refine Xk ?_<;>try simp|refine Xs ?_ ?_<;>intro h<;>(try intro h')<;>(try simp[h])<;>(try omega)|refine Xg ?_|omega)
  refine LJ.i (i+1) (by first|rfl|simp[hs,cT]) (by first|rfl|simp[hs,cT]) rfl rfl ?_
  omega
 have vq:i=m.length:=by omega
 subst vq
 simp
 have hH:=FE hm hp m.length (Nat.le_refl _)
 generalize mB m p.h0 p.h1 m.length=B at *
 obtain⟨r,hr⟩:=JK hp.fg.1 (show p.fg<4 by have:=PW hg hp;omega)
 have N0:=Q8 r
 have b0:=DB r 0
 have b1:=DB r 1
 have b2:=DB r 2
 have b3:=DB r 3
 rw[← hr]at N0 b0 b1 b2 b3
 generalize p.fg=R at *
 rw[← N0]
 change 0≤n9 R 0∧n9 R 0≤1 at b0
 change 0≤n9 R 1∧n9 R 1≤1 at b1
 change 0≤n9 R 2∧n9 R 2≤1 at b2
 change 0≤n9 R 3∧n9 R 3≤1 at b3
 refine eW.un ?_
 refine iR.u ?_
 simp[o4]
 (with_reducible repeat' first|refine Xk ?_<;>try simp[o4]|refine Xs ?_ ?_<;>intro h<;>(try intro h')<;>(try simp[h,o4])<;>(try omega)|refine Xg ?_|omega)
 refine iR.u ?_
 simp[o4]
 (with_reducible repeat' first|refine Xk ?_<;>try simp[o4]|refine Xs ?_ ?_<;>intro h<;>(try intro h')<;>(try simp[h,o4])<;>(try omega)|refine Xg ?_|omega)
 refine iR.u ?_
 simp[o4]
 (with_reducible repeat' first|refine Xk ?_<;>try simp[o4]|refine Xs ?_ ?_<;>intro h<;>(try intro h')<;>(try simp[h,o4])<;>(try omega)|refine Xg ?_|omega)
 refine iR.u ?_
 simp[o4]
 (with_reducible repeat' first|refine Xk ?_<;>try simp[o4]|refine Xs ?_ ?_<;>intro h<;>(try intro h')<;>(try simp[h,o4])<;>(try omega)|refine Xg ?_|omega)
 refine iR.u ?_
 simp[o4]
 omega
theorem f23(hg:fi g)(hm:ko g m)(hl:∀ p∈l,fF g p)(h9:l.length≤4000):Wf T 23 [.agg [dI m],fW l] [] (Is (.sl 1 ((mY m l).map fI))):=by
 have nf:∀ j:Int,0≤j→j<l.length→0≤fV m (gt l j):=fun j j0 j1=>(OB hg hm (hl _ (eY j0 j1))).1
 have hL:=WK m l
 refine Yz yu (gH 60 [2] yu.body) ?_
 simp[yu,gH,iJ,kU,kX,lr,jN]
 refine eW.e ((-1,0,[]):Int×Nat×List (List Int)) (fun y=>[(1,fW l),(2,.ptr 0 0 0),(5,.eN 1 y.2.1 1 0 y.2.2.length),(6,.i y.1)]) (fun y=>[.row 50 0 [dI m],.row 33 y.2.1 (cl fI y.2.2)]) (fun y => -1≤y.1∧y.2.2=(qw m l y.1).map (lY m l)) (fun y=>((ph m l).length-(qw m l y.1).length)) ?_ ?_
 ·simp[WJ nf]
 rintro⟨last,gn,out⟩ ⟨i0,i1⟩
 dsimp only at i0 i1 ⊢
 have fj:=OR m l last
 have hol:out.length=(qw m l last).length:=by rw[i1,List.length_map]
 simp
 refine eW.e (0:Int) (fun y=>[(1,fW l),(2,.ptr 0 0 0),(5,.eN 1 gn 1 0 out.length),(6,.i last),(7,.i (mC m l last y.toNat)),(8,.eN 2 0 1 0 0),(9,.i y)]) (fun y=>[.row 50 0 [dI m],.row 33 gn (cl fI out),.row 3 0 []]) (fun y=>0≤y∧y≤l.length) (fun y=>(l.length-y).toNat) ?_ ?_
 ·simp
 rintro i ⟨j0,j1⟩
 dsimp only at j0 j1 ⊢
 by_cases hi:i<l.length
 ·have hs:=Xa (m:=m) (l:=l) (last:=last) j0
  have hp:=hl _ (eY j0 hi)
  have fw:=OB hg hm hp
  simp[hi]
  (with_reducible repeat' first|refine Xk ?_<;>try simp|refine Xs ?_ ?_<;>intro h<;>(try intro h')<;>(try simp[h])<;>(try omega)|refine Xg ?_|omega)
  refine Yt (f28 hg hm hp) ?_
  simp
  generalize fV m (gt l i)=L at *
  generalize mC m l last i.toNat=x at *
  (with_reducible repeat' first|refine Xk ?_<;>try simp|refine Xs ?_ ?_<;>intro h<;>(try intro h')<;>(try simp[h])<;>(try omega)|refine Xg ?_|omega)
  ·refine LJ.i (i+1) (by first|rfl|simp[hs,show last<L∧(x<0∨L<x)by omega]) (by first|rfl|simp[hs,show last<L∧(x<0∨L<x)by omega]) rfl rfl ?_
   omega
  ·refine LJ.i (i+1) (by first|rfl|simp[hs,show last<L∧(x<0∨L<x)by omega]) (by first|rfl|simp[hs,show last<L∧(x<0∨L<x)by omega]) rfl rfl ?_
   omega
  ·refine LJ.i (i+1) (by first|rfl|simp[hs,show ¬ (last<L∧(x<0∨L<x))by omega]) (by first|rfl|simp[hs,show ¬ (last<L∧(x<0∨L<x))by omega]) rfl rfl ?_
   omega
  ·refine LJ.i (i+1) (by first|rfl|simp[hs,show ¬ (last<L∧(x<0∨L<x))by omega]) (by first|rfl|simp[hs,show ¬ (last<L∧(x<0∨L<x))by omega]) rfl rfl ?_
   omega
 ·have vq:i=l.length:=by omega
  subst vq
  simp
  have kP:=O' nf last l.length (Nat.le_refl _)
  generalize mC m l last l.length=x at *
  rcases kP with⟨rfl,h1⟩|⟨⟨h0,h1⟩,h2,h3⟩
  ·have e:out=mY m l:=by rw[i1,WH h1];rfl
   simp[e]
  ·have hn:=WI h1 h2 h3
   have hx:¬ x<0:=by omega
   simp[hx]
   refine eW.e ((0,0,[]):Int×Nat×List Int) (fun y=>[(1,fW l),(2,.ptr 0 0 0),(5,.eN 1 gn 1 0 out.length),(7,.i x),(8,.eN 2 y.2.1 1 0 y.2.2.length),(11,.i y.1)]) (fun y=>[.row 50 0 [dI m],.row 33 gn (cl fI out),.row 3 y.2.1 (cl f1 y.2.2)]) (fun y=>0≤y.1∧y.1≤l.length∧y.2.2=r9 m l x y.1.toNat) (fun y=>(l.length-y.1).toNat) ?_ ?_
   ·simp[r9,upto]
   rintro⟨i,gm,u⟩ ⟨k0,k1,k2⟩
   dsimp only at k0 k1 k2 ⊢
   have N7:u.length≤i.toNat:=by
    rw[k2]
    exact uf _ _ ((QC _).nd.filter _) fun y hy=>(O2.1 hy).1
   by_cases hi:i<l.length
   ·have hp:=hl _ (eY k0 hi)
    have hs:=SR (m:=m) (l:=l) (n:=x) k0
    simp[hi]
    (with_reducible repeat' first|refine Xk ?_<;>try simp|refine Xs ?_ ?_<;>intro h<;>(try intro h')<;>(try simp[h])<;>(try omega)|refine Xg ?_|omega)
    refine Yt (f28 hg hm hp) ?_
    simp
    (with_reducible repeat' first|refine Xk ?_<;>try simp|refine Xs ?_ ?_<;>intro h<;>(try intro h')<;>(try simp[h])<;>(try omega)|refine Xg ?_|omega)
    ·refine LJ.e (i+1,gm+1,u ++ [i]) ?_
     dsimp only
     exact⟨by omega,by omega,by omega,by rw[hs,k2,if_pos (by assumption)]⟩
    ·refine LJ.e (i+1,gm,u) ?_
     dsimp only
     exact⟨by omega,by omega,by omega,by rw[hs,k2,if_neg (by assumption),aw]⟩
   ·have vq:i=l.length:=by omega
    subst vq
    simp
    (with_reducible repeat' first|refine Xk ?_<;>try simp|refine Xs ?_ ?_<;>intro h<;>(try intro h')<;>(try simp[h])<;>(try omega)|refine Xg ?_|omega)
    refine LJ.e (x,gn+1,out ++ [u]) ?_
    dsimp only
    refine⟨?_,by omega,?_⟩
    ·have:=OR m l x
     rw[hn]at this ⊢
     simp at this ⊢
     omega
    ·rw[hn,List.map_append,i1,k2];rfl
