/- Part 44 of TableHurry. -/
import Derived.Test.YtnaefnajkaohgaaGreatDoorG40
import Derived.Test.YtnaefnajkaohgaaGreatDoorG42
import Derived.Test.YtnaefnajkaohgaaGreatDoorG43
import Derived.Test.YtnaefnajkaohgaaGreatDoorG33
set_option linter.all false
namespace Go.Proofs.YtnaefnajkaohgaaGreatDoor
open Go Go.AL Classical
set_option maxRecDepth 10000
set_option maxHeartbeats 8000000
def mY(r n:Int):Int:=bits .and .i64 (qI .i64 r n) 1
theorem nX(r n:Int):bits .and .i64 (qI .i64 r n) 1=mY r n:=rfl
theorem OH:∀ i:Fin 4,mY (i.val:Int) 0+mY (i.val:Int) 1+mY (i.val:Int) 2+mY (i.val:Int) 3=wB (i.val:Int):=by decide
theorem Cp:∀ (i:Fin 4) (n:Fin 4),0≤mY (i.val:Int) (n.val:Int)∧mY (i.val:Int) (n.val:Int)≤1:=by decide
section
variable{g:ey}{m:List Int}{p:Pos}{l:List Pos}
theorem f28(hg:eW g)(hm:ka g m)(hp:fo g p):Wf T 28 [.agg [dI m],dP p] [] (Is (.i (ow m p))):=by
 have hk:=hg.kinds
 have fO:=hp.size
 have vP:=hg.gH.size
 have lm:=hm.len
 have l0:=hp.h0.len
 have l1:=hp.h1.len
 refine Yg BA ?_
 simp[BA]
 refine eF.e (0:Int) (fun y=>[(2,.ptr 0 0 0),(3,.ptr 1 0 0),(5,.i (oy m p.cs y.toNat)),(6,.i y)]) (fun y=>[.row 50 0 [dI m],.row 44 0 p.cells]) (fun y=>0≤y∧y≤p.cs.length) (fun y=>(p.cs.length-y).toNat) ?_ ?_
 ·simp
 rintro i ⟨i0,i1⟩
 dsimp only at i0 i1 ⊢
 by_cases hi:i<p.cs.length
 ·have hs:=MI (m:=m) (cs:=p.cs) i0
  have ff:=yU hg hm hp i.toNat (by omega)
  have lR:=eH i0 hi
  have gA:=hp.cs _ lR
  have Dj:=Hs hg hm hp lR
  have Ls:=Hv hk.2 gA
  simp[hi]
  by_cases h0:gt p.cs i=0
  ·have hz:qC m (gt p.cs i)=0:=by rw[h0];unfold qC eS;simp
   simp[h0]
   (with_reducible repeat' first|refine Xk ?_<;>try simp|refine Xs ?_ ?_<;>intro h<;>(try intro h')<;>(try simp[h])<;>(try omega)|refine Xg ?_|omega)
   refine LJ.i (i+1) (by first|rfl|simp[hs,hz]) (by first|rfl|simp[hs,hz]) rfl rfl ?_
   omega
  ·have jG:0≤eS (gt p.cs i):=by unfold eS;rw[if_pos (by omega)];omega
   have hz:qC m (gt p.cs i)=gt m (eS (gt p.cs i)):=by unfold qC;rw[if_pos jG]
   have afB:=Ls jG
   rw[hz]at hs Dj
   simp[h0]
   (with_reducible repeat' first|refine Xk ?_<;>try simp|refine Xs ?_ ?_<;>intro h<;>(try intro h')<;>(try simp[h])<;>(try omega)|refine Xg ?_|omega)
   refine Yt (f51 _) ?_
   simp
   (with_reducible repeat' first|refine Xk ?_<;>try simp|refine Xs ?_ ?_<;>intro h<;>(try intro h')<;>(try simp[h])<;>(try omega)|refine Xg ?_|omega)
   refine LJ.i (i+1) (by first|rfl|simp[hs]) (by first|rfl|simp[hs]) rfl rfl ?_
   omega
 have rm:i=p.cs.length:=by omega
 subst rm
 simp
 have hA:=yU hg hm hp p.cs.length (Nat.le_refl _)
 unfold ow
 generalize oy m p.cs p.cs.length=A at *
 refine eF.e (0:Int) (fun y=>[(2,.ptr 0 0 0),(3,.ptr 1 0 0),(5,.i (A+oz m p.h0 p.h1 y.toNat)),(7,.i y)]) (fun y=>[.row 50 0 [dI m],.row 44 0 p.cells]) (fun y=>0≤y∧y≤m.length) (fun y=>(m.length-y).toNat) ?_ ?_
 ·simp
 rintro i ⟨i0,i1⟩
 dsimp only at i0 i1 ⊢
 by_cases hi:i<m.length
 ·have hs:=MJ (m:=m) (a:=p.h0) (b:=p.h1) i0
  have ff:=yV hm hp i.toNat (by omega)
  have ht:=Ht hm hp i0 hi
  simp[hi]
  (with_reducible repeat' first|refine Xk ?_<;>try simp|refine Xs ?_ ?_<;>intro h<;>(try intro h')<;>(try simp[h])<;>(try omega)|refine Xg ?_|omega)
  refine LJ.i (i+1) (by first|rfl|simp[hs,bZ]) (by first|rfl|simp[hs,bZ]) rfl rfl ?_
  omega
 have rm:i=m.length:=by omega
 subst rm
 simp
 have hH:=yV hm hp m.length (Nat.le_refl _)
 generalize oz m p.h0 p.h1 m.length=B at *
 obtain⟨r,hr⟩:=HK hp.eR.1 (show p.eR<4 by have:=NG hg hp;omega)
 have L4:=OH r
 have b0:=Cp r 0
 have b1:=Cp r 1
 have b2:=Cp r 2
 have b3:=Cp r 3
 rw[← hr]at L4 b0 b1 b2 b3
 generalize p.eR=R at *
 rw[← L4]
 change 0≤mY R 0∧mY R 0≤1 at b0
 change 0≤mY R 1∧mY R 1≤1 at b1
 change 0≤mY R 2∧mY R 2≤1 at b2
 change 0≤mY R 3∧mY R 3≤1 at b3
 refine eF.un ?_
 refine gS.u ?_
 simp[nX]
 (with_reducible repeat' first|refine Xk ?_<;>try simp[nX]|refine Xs ?_ ?_<;>intro h<;>(try intro h')<;>(try simp[h,nX])<;>(try omega)|refine Xg ?_|omega)
 refine gS.u ?_
 simp[nX]
 (with_reducible repeat' first|refine Xk ?_<;>try simp[nX]|refine Xs ?_ ?_<;>intro h<;>(try intro h')<;>(try simp[h,nX])<;>(try omega)|refine Xg ?_|omega)
 refine gS.u ?_
 simp[nX]
 (with_reducible repeat' first|refine Xk ?_<;>try simp[nX]|refine Xs ?_ ?_<;>intro h<;>(try intro h')<;>(try simp[h,nX])<;>(try omega)|refine Xg ?_|omega)
 refine gS.u ?_
 simp[nX]
 (with_reducible repeat' first|refine Xk ?_<;>try simp[nX]|refine Xs ?_ ?_<;>intro h<;>(try intro h')<;>(try simp[h,nX])<;>(try omega)|refine Xg ?_|omega)
 refine gS.u ?_
 simp[nX]
 omega
end
end Go.Proofs.YtnaefnajkaohgaaGreatDoor
namespace Go.Proofs.YtnaefnajkaohgaaGreatDoor
open Go Go.AL Classical
set_option maxRecDepth 10000
set_option maxHeartbeats 16000000
theorem eU.s{T:fH}{f:FuncId}{args:List D}{dst:Option Nat}{s s':St}{K:St→Prop}(hs:s=s')(h:eU T f args dst s' K .mk):eU T f args dst s K .mk:=by subst hs;exact h
end Go.Proofs.YtnaefnajkaohgaaGreatDoor
namespace Go.Proofs.YtnaefnajkaohgaaGreatDoor
open Go Go.AL Classical
set_option maxRecDepth 10000
set_option maxHeartbeats 16000000
attribute [-simp] DT
theorem D0{s:Int}(h:0≤s∧s<9223372036854775808):IntKind.i64.wrap (qI .u64 (IntKind.u64.wrap s) 1)=s / 2:=by
 have h1:IntKind.u64.wrap s=s:=by
  unfold IntKind.wrap
  simp only[show IntKind.u64.signed=false from rfl,show IntKind.u64.bits=64 from rfl]
  simp
  omega
 have h2:qI .u64 s 1=s / 2:=Int.fdiv_eq_ediv_of_nonneg s (by decide)
 rw[h1,h2]
 exact mU ⟨by omega,by omega⟩
section
variable{X0 X1 X2 X4 X5 X6 X7 X8:Ob}{v:List eI}{N:Nat}{L0:List Int}
theorem f158(hv:∀ k:Int,0≤k→k<v.length→0≤(gt v k).2∧(gt v k).2≤4000)(h9:N≤4000)(ql:L0.length=N)(tU:∀ x∈L0,0≤x∧x<v.length):∀ (w:Nat) (L:List Int) (_:iU L0 L) (a m b:Int) (_:0≤a∧a<m∧m<b∧b≤N) (_:(b-a).toNat≤w),
  Wf T 158 [.eu 9 0 1 0 N,.i a,.i m,.i b,.fn (.func 72) [] [.ptr 3 0 0]] [X0,X1,X2,.row 52 0 [ft v],X4,X5,X6,X7,X8,.row 3 0 (cl f1 L)] (fun d H'=>d = .tup []∧∃ L',iU L0 L'∧H' = [X0,X1,X2,.row 52 0 [ft v],X4,X5,X6,X7,X8,.row 3 0 (cl f1 L')]):=by
 intro w
 induction w with
 | zero=>intro L _ a m b h h2;omega
 | succ w ih=>
 intro L hS a m b h hw
 have hN:=hS.1.trans ql
 have hL:=hS.zA tU
 refine Yg AQ ?_
 simp[AQ]
 by_cases h1:m-a=1
 ·simp[h1]
  (with_reducible repeat' first|refine Xk ?_<;>try simp|refine Xs ?_ ?_<;>intro h<;>(try intro h')<;>(try simp[h])<;>(try omega)|refine Xg ?_|omega)
  refine eF.e ((m,b):Int×Int) (fun y=>[(0,.eu 9 0 1 0 N),(1,.i a),(4,.fn (.func 72) [] [.ptr 3 0 0]),(10,.i y.1),(11,.i y.2)]) (fun y=>[X0,X1,X2,.row 52 0 [ft v],X4,X5,X6,X7,X8,.row 3 0 (cl f1 L)]) (fun y=>m≤y.1∧y.1≤y.2∧y.2≤b) (fun y=>(y.2-y.1).toNat) ?_ ?_
  ·exact⟨by dsimp only;omega,by dsimp only;omega,by dsimp only;omega⟩
  rintro⟨i,j⟩ ⟨i0,i1,i2⟩
  dsimp only at i0 i1 i2 ⊢
  by_cases mL:i<j
  ·have uq:=D0 (s:=i+j) (by omega)
   have hc:i≤(i+j) / 2∧(i+j) / 2<j:=by omega
   simp[mL,uq]
   generalize (i+j) / 2=c at *
   have r1:=hL (gt L c) (eH (by omega) (by omega))
   have r2:=hL (gt L a) (eH (by omega) (by omega))
   (with_reducible repeat' first|refine Xk ?_<;>try simp|refine Xs ?_ ?_<;>intro h<;>(try intro h')<;>(try simp[h])<;>(try omega)|refine Xg ?_|omega)
   refine gq.r rfl rfl (f72 v hv (gt L c) (gt L a) r1 r2) (by simp) (by simp[flat]) (by simp) ?_
   simp
   (with_reducible repeat' first|refine Xk ?_<;>try simp|refine Xs ?_ ?_<;>intro h<;>(try intro h')<;>(try simp[h])<;>(try omega)|refine Xg ?_|omega)
   ·refine LJ.e (c+1,j) ?_
    exact⟨by dsimp only;omega,by dsimp only;omega,by dsimp only;omega,by dsimp only;omega⟩
   ·refine LJ.e (i,c) ?_
    exact⟨by dsimp only;omega,by dsimp only;omega,by dsimp only;omega,by dsimp only;omega⟩
  ·simp[mL]
   refine eF.s (by simp;rfl) ?_
   refine eF.e ((a,L):Int×List Int) (fun y=>[(0,.eu 9 0 1 0 N),(10,.i i),(13,.i y.1)]) (fun y=>[X0,X1,X2,.row 52 0 [ft v],X4,X5,X6,X7,X8,.row 3 0 (cl f1 y.2)]) (fun y=>a≤y.1∧iU L0 y.2) (fun y=>(i-y.1).toNat) ?_ ?_
   ·exact⟨by dsimp only;omega,hS⟩
   rintro⟨k,M⟩ ⟨k0,hM⟩
   dsimp only at k0 hM ⊢
   have hl:=hM.1
   by_cases hk:k<i-1
   ·have uw:(pt M k (gt M (k+1))).length=M.length:=ga (by omega) (by omega)
    have hs:=iU.swap (L:=M) (i:=k) (j:=k+1) (by omega) (by omega) (by omega) (by omega)
    simp[hk]
    (with_reducible repeat' first|refine Xk ?_<;>try simp|refine Xs ?_ ?_<;>intro h<;>(try intro h')<;>(try simp[h])<;>(try omega)|refine Xg ?_|omega)
    refine LJ.e (k+1,pt (pt M k (gt M (k+1))) (k+1) (gt M k)) ?_
    exact⟨by dsimp only;omega,by dsimp only;omega,hM.trans hs⟩
   ·simp[hk]
    (with_reducible repeat' first|refine Xk ?_<;>try simp|refine Xs ?_ ?_<;>intro h<;>(try intro h')<;>(try simp[h])<;>(try omega)|refine Xg ?_|omega)
    exact⟨M,hM,rfl⟩
 by_cases h2:b-m=1
 ·simp[h1,h2]
  (with_reducible repeat' first|refine Xk ?_<;>try simp|refine Xs ?_ ?_<;>intro h<;>(try intro h')<;>(try simp[h])<;>(try omega)|refine Xg ?_|omega)
  refine eF.e ((a,m):Int×Int) (fun y=>[(0,.eu 9 0 1 0 N),(2,.i m),(4,.fn (.func 72) [] [.ptr 3 0 0]),(14,.i y.1),(15,.i y.2)]) (fun y=>[X0,X1,X2,.row 52 0 [ft v],X4,X5,X6,X7,X8,.row 3 0 (cl f1 L)]) (fun y=>a≤y.1∧y.1≤y.2∧y.2≤m) (fun y=>(y.2-y.1).toNat) ?_ ?_
  ·exact⟨by dsimp only;omega,by dsimp only;omega,by dsimp only;omega⟩
  rintro⟨i,j⟩ ⟨i0,i1,i2⟩
  dsimp only at i0 i1 i2 ⊢
  by_cases mL:i<j
  ·have uq:=D0 (s:=i+j) (by omega)
   have hc:i≤(i+j) / 2∧(i+j) / 2<j:=by omega
   simp[mL,uq]
   generalize (i+j) / 2=c at *
   have r1:=hL (gt L m) (eH (by omega) (by omega))
   have r2:=hL (gt L c) (eH (by omega) (by omega))
   (with_reducible repeat' first|refine Xk ?_<;>try simp|refine Xs ?_ ?_<;>intro h<;>(try intro h')<;>(try simp[h])<;>(try omega)|refine Xg ?_|omega)
   refine gq.r rfl rfl (f72 v hv (gt L m) (gt L c) r1 r2) (by simp) (by simp[flat]) (by simp) ?_
   simp
   (with_reducible repeat' first|refine Xk ?_<;>try simp|refine Xs ?_ ?_<;>intro h<;>(try intro h')<;>(try simp[h])<;>(try omega)|refine Xg ?_|omega)
   ·refine LJ.e (i,c) ?_
    exact⟨by dsimp only;omega,by dsimp only;omega,by dsimp only;omega,by dsimp only;omega⟩
   ·refine LJ.e (c+1,j) ?_
    exact⟨by dsimp only;omega,by dsimp only;omega,by dsimp only;omega,by dsimp only;omega⟩
  ·simp[mL]
   refine eF.s (by simp;rfl) ?_
   refine eF.e ((m,L):Int×List Int) (fun y=>[(0,.eu 9 0 1 0 N),(14,.i i),(17,.i y.1)]) (fun y=>[X0,X1,X2,.row 52 0 [ft v],X4,X5,X6,X7,X8,.row 3 0 (cl f1 y.2)]) (fun y=>i≤y.1∧y.1≤m∧iU L0 y.2) (fun y=>(y.1-i).toNat) ?_ ?_
   ·exact⟨by dsimp only;omega,by dsimp only;omega,hS⟩
   rintro⟨k,M⟩ ⟨k0,k1,hM⟩
   dsimp only at k0 k1 hM ⊢
   have hl:=hM.1
   by_cases hk:i<k
   ·obtain⟨q,rfl⟩:∃ q,k=q+1:=⟨k-1,by omega⟩
    have uw:(pt M (q+1) (gt M q)).length=M.length:=ga (by omega) (by omega)
    have hs:=iU.swap (L:=M) (i:=q+1) (j:=q) (by omega) (by omega) (by omega) (by omega)
    simp[hk]
    (with_reducible repeat' first|refine Xk ?_<;>try simp|refine Xs ?_ ?_<;>intro h<;>(try intro h')<;>(try simp[h])<;>(try omega)|refine Xg ?_|omega)
    refine LJ.e (q,pt (pt M (q+1) (gt M q)) q (gt M (q+1))) ?_
    exact⟨by dsimp only;omega,by dsimp only;omega,by dsimp only;omega,hM.trans hs⟩
   ·simp[hk]
    (with_reducible repeat' first|refine Xk ?_<;>try simp|refine Xs ?_ ?_<;>intro h<;>(try intro h')<;>(try simp[h])<;>(try omega)|refine Xg ?_|omega)
    exact⟨M,hM,rfl⟩
 have uq:=D0 (s:=a+b) (by omega)
 have hmd:a<(a+b) / 2∧(a+b) / 2<b:=by omega
 simp[h1,h2,uq]
 (with_reducible repeat' first|refine Xk ?_<;>try simp[uq]|refine Xs ?_ ?_<;>intro h<;>(try intro h')<;>(try simp[h,uq])<;>(try omega)|refine Xg ?_|omega)
 case' neg.refine_2=>refine eF.e ((a,m):Int×Int) (fun y=>[(0,.eu 9 0 1 0 N),(1,.i a),(2,.i m),(3,.i b),(4,.fn (.func 72) [] [.ptr 3 0 0]),(18,.i ((a+b) / 2)),(19,.i ((a+b) / 2+m)),(20,.i y.1),(21,.i y.2),(22,.i ((a+b) / 2+m-1))]) (fun y=>[X0,X1,X2,.row 52 0 [ft v],X4,X5,X6,X7,X8,.row 3 0 (cl f1 L)]) (fun y=>a≤y.1∧y.1≤y.2∧y.2≤(a+b) / 2∧(a+b) / 2+m-y.1≤b) (fun y=>(y.2-y.1).toNat) ?_ ?_
 case' neg.refine_1=>refine eF.e (((a+b) / 2+m-b,(a+b) / 2):Int×Int) (fun y=>[(0,.eu 9 0 1 0 N),(1,.i a),(2,.i m),(3,.i b),(4,.fn (.func 72) [] [.ptr 3 0 0]),(18,.i ((a+b) / 2)),(19,.i ((a+b) / 2+m)),(20,.i y.1),(21,.i y.2),(22,.i ((a+b) / 2+m-1))]) (fun y=>[X0,X1,X2,.row 52 0 [ft v],X4,X5,X6,X7,X8,.row 3 0 (cl f1 L)]) (fun y=>a≤y.1∧y.1≤y.2∧y.2≤(a+b) / 2∧(a+b) / 2+m-y.1≤b) (fun y=>(y.2-y.1).toNat) ?_ ?_
 all_goals first|exact⟨by dsimp only;omega,by dsimp only;omega,by dsimp only;omega,by dsimp only;omega⟩|skip
 all_goals
  rintro⟨s,r⟩ ⟨s0,s1,s2,s3⟩
  dsimp only at s0 s1 s2 s3 ⊢
  by_cases LX:s<r
  ·have RR:=D0 (s:=s+r) (by omega)
   have hc:s≤(s+r) / 2∧(s+r) / 2<r:=by omega
   simp[LX,RR]
   generalize (s+r) / 2=c at *
   generalize (a+b) / 2=md at *
   have r1:=hL (gt L (md+m-1-c)) (eH (by omega) (by omega))
   have r2:=hL (gt L c) (eH (by omega) (by omega))
   (with_reducible repeat' first|refine Xk ?_<;>try simp|refine Xs ?_ ?_<;>intro h<;>(try intro h')<;>(try simp[h])<;>(try omega)|refine Xg ?_|omega)
   refine gq.r rfl rfl (f72 v hv (gt L (md+m-1-c)) (gt L c) r1 r2) (by simp) (by simp[flat]) (by simp) ?_
   simp
   (with_reducible repeat' first|refine Xk ?_<;>try simp|refine Xs ?_ ?_<;>intro h<;>(try intro h')<;>(try simp[h])<;>(try omega)|refine Xg ?_|omega)
   ·refine LJ.e (s,c) ?_
    exact⟨by dsimp only;omega,by dsimp only;omega,by dsimp only;omega,by dsimp only;omega,by dsimp only;omega⟩
   ·refine LJ.e (c+1,r) ?_
    exact⟨by dsimp only;omega,by dsimp only;omega,by dsimp only;omega,by dsimp only;omega,by dsimp only;omega⟩
  ·generalize (a+b) / 2=md at *
   simp[LX]
   (with_reducible repeat' first|refine Xk ?_<;>try simp|refine Xs ?_ ?_<;>intro h<;>(try intro h')<;>(try simp[h])<;>(try omega)|refine Xg ?_|omega)
   repeat' first
    | exact⟨L,hS,rfl⟩
    | ((try refine eU.s (by simp;rfl) ?_);refine eU.kC rfl rfl (f196 L hN h9 s m (md+m-s) (by omega)) ?_;rintro _ H' ⟨rfl,M,hM,rfl⟩;replace hS:=hS.trans hM;replace hN:=hS.1.trans ql;clear hM hL;revert hS hN;generalize M=L;intro hS hN;simp;(with_reducible repeat' first|refine Xk ?_<;>try simp|refine Xs ?_ ?_<;>intro h<;>(try intro h')<;>(try simp[h])<;>(try omega)|refine Xg ?_|omega))
    | ((try refine eU.s (by simp;rfl) ?_);refine eU.kC rfl rfl (ih L hS a s md (by omega) (by omega)) ?_;rintro _ H' ⟨rfl,M,hS,rfl⟩;clear hN;(try clear hL);revert hS;generalize M=L;intro hS;have hN:=hS.1.trans ql;simp;(with_reducible repeat' first|refine Xk ?_<;>try simp|refine Xs ?_ ?_<;>intro h<;>(try intro h')<;>(try simp[h])<;>(try omega)|refine Xg ?_|omega))
    | ((try refine eU.s (by simp;rfl) ?_);refine eU.kC rfl rfl (ih L hS md (md+m-s) b (by omega) (by omega)) ?_;rintro _ H' ⟨rfl,M,hS,rfl⟩;clear hN;(try clear hL);revert hS;generalize M=L;intro hS;have hN:=hS.1.trans ql;simp;(with_reducible repeat' first|refine Xk ?_<;>try simp|refine Xs ?_ ?_<;>intro h<;>(try intro h')<;>(try simp[h])<;>(try omega)|refine Xg ?_|omega))
end
end Go.Proofs.YtnaefnajkaohgaaGreatDoor
namespace Go.Proofs.YtnaefnajkaohgaaGreatDoor
open Go Go.AL Classical
set_option maxRecDepth 10000
set_option maxHeartbeats 16000000
attribute [-simp] DT
section
variable{X0 X1 X2 X4 X5 X6 X7 X8:Ob}{v:List eI}{N:Nat}{L0:List Int}
theorem f113(hv:∀ k:Int,0≤k→k<v.length→0≤(gt v k).2∧(gt v k).2≤4000)(h9:N≤4000)(ql:L0.length=N)(tU:∀ x∈L0,0≤x∧x<v.length):Wf T 113 [.eu 9 0 1 0 N,.i N,.fn (.func 72) [] [.ptr 3 0 0]] [X0,X1,X2,.row 52 0 [ft v],X4,X5,X6,X7,X8,.row 3 0 (cl f1 L0)] (fun d H'=>d = .tup []∧∃ L',iU L0 L'∧H' = [X0,X1,X2,.row 52 0 [ft v],X4,X5,X6,X7,X8,.row 3 0 (cl f1 L')]):=by
 refine Yg Aj ?_
 simp[Aj]
 (with_reducible repeat' first|refine Xk ?_<;>try simp|refine Xs ?_ ?_<;>intro h<;>(try intro h')<;>(try simp[h])<;>(try omega)|refine Xg ?_|omega)
 refine eF.e ((0,L0):Int×List Int) (fun y=>[(0,.eu 9 0 1 0 N),(1,.i N),(2,.fn (.func 72) [] [.ptr 3 0 0]),(6,.i 20),(7,.i y.1),(8,.i (y.1+20))]) (fun y=>[X0,X1,X2,.row 52 0 [ft v],X4,X5,X6,X7,X8,.row 3 0 (cl f1 y.2)]) (fun y=>0≤y.1∧y.1≤4000∧iU L0 y.2) (fun y=>(N-y.1).toNat) ?_ ?_
 ·exact⟨by simp,by simp,iU.refl _⟩
 rintro⟨a,L⟩ ⟨a0,a1,hS⟩
 dsimp only at a0 a1 hS ⊢
 have hN:=hS.1.trans ql
 have hL:=hS.zA tU
 by_cases hb:a+20≤N
 ·simp[hb]
  (with_reducible repeat' first|refine Xk ?_<;>try simp|refine Xs ?_ ?_<;>intro h<;>(try intro h')<;>(try simp[h])<;>(try omega)|refine Xg ?_|omega)
  refine eU.kC rfl rfl (f157 hv h9 L hN hL a (a+20) (by omega)) ?_
  rintro _ H' ⟨rfl,M,hM,rfl⟩
  simp
  (with_reducible repeat' first|refine Xk ?_<;>try simp|refine Xs ?_ ?_<;>intro h<;>(try intro h')<;>(try simp[h])<;>(try omega)|refine Xg ?_|omega)
  refine LJ.e (a+20,M) ?_
  exact⟨by dsimp only;omega,by dsimp only;omega,by dsimp only;omega,hS.trans hM⟩
 simp[hb]
 refine eU.s (by simp;rfl) ?_
 refine eU.kC rfl rfl (f157 hv h9 L hN hL a N (by omega)) ?_
 rintro _ H' ⟨rfl,M,hM,rfl⟩
 replace hS:=hS.trans hM
 clear hM hN hL
 simp
 refine eF.e ((20,M):Int×List Int) (fun y=>[(0,.eu 9 0 1 0 N),(1,.i N),(2,.fn (.func 72) [] [.ptr 3 0 0]),(6,.i y.1)]) (fun y=>[X0,X1,X2,.row 52 0 [ft v],X4,X5,X6,X7,X8,.row 3 0 (cl f1 y.2)]) (fun y=>20≤y.1∧y.1≤8000∧iU L0 y.2) (fun y=>(N-y.1).toNat) ?_ ?_
 ·exact⟨by simp,by simp,hS⟩
 clear hS a0 a1 hb
 rintro⟨bs,L⟩ ⟨b0,b1,hS⟩
 dsimp only at b0 b1 hS ⊢
 by_cases hb:bs<N
 ·simp[hb]
  (with_reducible repeat' first|refine Xk ?_<;>try simp|refine Xs ?_ ?_<;>intro h<;>(try intro h')<;>(try simp[h])<;>(try omega)|refine Xg ?_|omega)
  refine eF.e ((0,L):Int×List Int) (fun y=>[(0,.eu 9 0 1 0 N),(1,.i N),(2,.fn (.func 72) [] [.ptr 3 0 0]),(6,.i bs),(7,.i y.1),(8,.i (y.1+2*bs))]) (fun y=>[X0,X1,X2,.row 52 0 [ft v],X4,X5,X6,X7,X8,.row 3 0 (cl f1 y.2)]) (fun y=>0≤y.1∧y.1≤N∧iU L0 y.2) (fun y=>(N-y.1).toNat) ?_ ?_
  ·exact⟨by simp,by dsimp only;omega,hS⟩
  clear hS
  rintro⟨a,L⟩ ⟨a0,a1,hS⟩
  dsimp only at a0 a1 hS ⊢
  by_cases ha:a+2*bs≤N
  ·simp[ha]
   (with_reducible repeat' first|refine Xk ?_<;>try simp|refine Xs ?_ ?_<;>intro h<;>(try intro h')<;>(try simp[h])<;>(try omega)|refine Xg ?_|omega)
   refine eU.kC rfl rfl (f158 hv h9 ql tU _ L hS a (a+bs) (a+2*bs) (by omega) (Nat.le_refl _)) ?_
   rintro _ H' ⟨rfl,M,hM,rfl⟩
   simp
   (with_reducible repeat' first|refine Xk ?_<;>try simp|refine Xs ?_ ?_<;>intro h<;>(try intro h')<;>(try simp[h])<;>(try omega)|refine Xg ?_|omega)
   refine LJ.e (a+2*bs,M) ?_
   exact⟨by dsimp only;omega,by dsimp only;omega,by dsimp only;omega,hM⟩
  ·simp[ha]
   (with_reducible repeat' first|refine Xk ?_<;>try simp|refine Xs ?_ ?_<;>intro h<;>(try intro h')<;>(try simp[h])<;>(try omega)|refine Xg ?_|omega)
   ·refine eU.s (by simp;rfl) ?_
    refine eU.kC rfl rfl (f158 hv h9 ql tU _ L hS a (a+bs) N (by omega) (Nat.le_refl _)) ?_
    rintro _ H' ⟨rfl,M,hM,rfl⟩
    simp
    (with_reducible repeat' first|refine Xk ?_<;>try simp|refine Xs ?_ ?_<;>intro h<;>(try intro h')<;>(try simp[h])<;>(try omega)|refine Xg ?_|omega)
    refine LJ.e (bs*2,M) ?_
    exact⟨by dsimp only;omega,by dsimp only;omega,by dsimp only;omega,hM⟩
   ·refine LJ.e (bs*2,L) ?_
    exact⟨by dsimp only;omega,by dsimp only;omega,by dsimp only;omega,hS⟩
 ·simp[hb]
  exact⟨L,hS,rfl⟩
theorem f71(hv:∀ k:Int,0≤k→k<v.length→0≤(gt v k).2∧(gt v k).2≤4000)(h9:N≤4000)(ql:L0.length=N)(tU:∀ x∈L0,0≤x∧x<v.length):Wf T 71 [.eu 9 0 1 0 N,.fn (.func 72) [] [.ptr 3 0 0]] [X0,X1,X2,.row 52 0 [ft v],X4,X5,X6,X7,X8,.row 3 0 (cl f1 L0)] (fun d H'=>d = .tup []∧∃ L',iU L0 L'∧H' = [X0,X1,X2,.row 52 0 [ft v],X4,X5,X6,X7,X8,.row 3 0 (cl f1 L')]):=by
 refine Yg BZ ?_
 simp[BZ]
 refine eU.kC rfl rfl (f113 hv h9 ql tU) ?_
 rintro _ H' ⟨rfl,M,hM,rfl⟩
 simp
 exact⟨M,hM,rfl⟩
end
end Go.Proofs.YtnaefnajkaohgaaGreatDoor
namespace Go.Proofs.YtnaefnajkaohgaaGreatDoor
open Go Go.AL Classical
set_option maxRecDepth 10000
set_option maxHeartbeats 8000000
theorem D7{v:List eI}{o b:Int}{r:Int→Int}{x:List Int}(hr:∀ k∈x,0≤r k∧r k≤b)(hb:0≤b):∀ n:Nat,n≤x.length→-1≤im v o r x n∧im v o r x n≤b
 | 0,_=>⟨by simp[im],by rw[im];omega⟩
 | n+1,h=>by
  have ih:=D7 (v:=v) (o:=o) hr hb n (by omega)
  have:=hr _ (eH (l:=x) (n:=(n:Int)) (by omega) (by omega))
  rw[im]
  split
  ·omega
  ·split<;>omega
theorem HM{v:List eI}{o:Int}{r:Int→Int}{x:List Int}{i:Int}(i0:0≤i):im v o r x (i+1).toNat=if o=3 then max (im v o r x i.toNat) (r (gt x i))else if (gt v (gt x i)).1=3∧(im v o r x i.toNat<0∨r (gt x i)<im v o r x i.toNat)then r (gt x i)else im v o r x i.toNat:=by
 have h:(i+1).toNat=i.toNat+1:=by omega
 have h2:((i.toNat:Nat):Int)=i:=by omega
 rw[h,im,h2]
@[local simp] theorem Ul(v:List eI)(o:Int)(r:Int→Int)(x:List Int):im v o r x 0 = -1:=rfl
theorem f74(g:ey)(hg:eW g)(m:List Int)(hm:ka g m)(p q:Pos)(hp:fo g p)(hq:fo g q):Wf T 74 [.agg [dI m],dP p,dP q] [] (Is (.b (decide (ow m q<ow m p)))):=by
 refine Yg B2 ?_
 simp[B2]
 refine Yt (f114 hg hm hq) ?_
 simp
 refine Yt (f114 hg hm hp) ?_
 simp
section
variable{g:ey}{m:List Int}{l:List Pos}{out:List Int}
theorem f73(hg:eW g)(hm:ka g m)(hl:∀ p∈l,fo g p)(ho:out.length=l.length)(i q:Int)(hi:0≤i∧i<l.length)(hq:0≤q∧q<l.length):Wf T 73 [.i i,.i q,.eG [dI m],.eG [fh l],.eG [dI out]] [] (Is (.i (jw m l out i q))):=by
 refine Yg B1 ?_
 simp[B1]
 (with_reducible repeat' first|refine Xk ?_<;>try simp|refine Xs ?_ ?_<;>intro h<;>(try intro h')<;>(try simp[h])<;>(try omega)|refine Xg ?_|omega)
 refine Yt (f74 g hg m hm (gt l i) (gt l q) (hl _ (eH hi.1 hi.2)) (hl _ (eH hq.1 hq.2))) ?_
 simp
 unfold jw
 (with_reducible repeat' first|refine Xk ?_<;>try simp|refine Xs ?_ ?_<;>intro h<;>(try intro h')<;>(try simp[h])<;>(try omega)|refine Xg ?_|omega)
theorem f76(hg:eW g)(hm:ka g m)(hl:∀ p∈l,fo g p)(ho:out.length=l.length)(i q:Int)(hi:0≤i∧i<l.length)(hq:0≤q∧q<l.length):Wf T 76 [.i q,.eG [.fn (.func 73) [] [.eG [dI m],.eG [fh l],.eG [dI out]]],.eG [.i i]] [] (Is (.i (jw m l out i q))):=by
 refine Yg B4 ?_
 simp[B4]
 refine Yc (f73 hg hm hl ho i q hi hq) ?_
 simp
theorem f75(hg:eW g)(hm:ka g m)(hl:∀ p∈l,fo g p)(ho:out.length=l.length)(hlen:l.length≤4000)(h4:∀ k:Int,0≤k→k<l.length→0≤gt out k∧gt out k≤4000)(v:List eI)(hv:v.length=l.length)(x:List Int)(hx:∀ k∈x,0≤k∧k<l.length)(qv:x.length≤4000000000)(i:Int)(hi:0≤i∧i<l.length) :
  Wf T 75 [dI x,ft v,.i i,.fn (.func 76) [] [.eG [.fn (.func 73) [] [.eG [dI m],.eG [fh l],.eG [dI out]]],.eG [.i i]]] [] (Is (.i (o6 v (gt v i).1 (jw m l out i) x))):=by
 have hr:∀ k∈x,0≤jw m l out i k∧jw m l out i k≤4000:=fun k hk=>by
  have:=h4 k (hx k hk).1 (hx k hk).2
  unfold jw;split<;>omega
 refine Yg B3 ?_
 simp[B3]
 refine eF.e (0:Int) (fun y=>[(1,ft v),(2,.i i),(3,.fn (.func 76) [] [.eG [.fn (.func 73) [] [.eG [dI m],.eG [fh l],.eG [dI out]]],.eG [.i i]]),(9,.i (im v (gt v i).1 (jw m l out i) x y.toNat)),(13,dI x),(14,.i x.length),(15,.i y)]) (fun y=>[]) (fun y=>0≤y∧y≤x.length) (fun y=>(x.length-y).toNat) ?_ ?_
 ·simp
 rintro j ⟨j0,j1⟩
 dsimp only at j0 j1 ⊢
 have ff:=D7 (v:=v) (o:=(gt v i).1) hr (by omega) j.toNat (by omega)
 by_cases hj:j<x.length
 ·have hk:=hx _ (eH j0 hj)
  have hs:=HM (v:=v) (o:=(gt v i).1) (r:=jw m l out i) (x:=x) j0
  simp[hj]
  (with_reducible repeat' first|refine Xk ?_<;>try simp|refine Xs ?_ ?_<;>intro h<;>(try intro h')<;>(try simp[h])<;>(try omega)|refine Xg ?_|omega)
  refine Yc (f76 hg hm hl ho i (gt x j) hi hk) ?_
  simp
  (with_reducible repeat' first|refine Xk ?_<;>try simp|refine Xs ?_ ?_<;>intro h<;>(try intro h')<;>(try simp[h])<;>(try omega)|refine Xg ?_|omega)
  ·rw[h,if_pos rfl]at hs
   refine LJ.i (j+1) (by first|rfl|simp[hs,h]) (by first|rfl|simp[hs,h]) rfl rfl ?_
   omega
  all_goals
   refine LJ.i (j+1) (by first|rfl|simp[hs, *]) (by first|rfl|simp[hs, *]) rfl rfl ?_
   omega
 ·have ui:j=x.length:=by omega
  subst ui
  simp at ff
  simp
  (with_reducible repeat' first|refine Xk ?_<;>try simp|refine Xs ?_ ?_<;>intro h<;>(try intro h')<;>(try simp[h])<;>(try omega)|refine Xg ?_|omega)
  simp[o6]
