/- Part 44 of the proof of skewer.skewerlaw15.TableZero. -/
import Derived.Test.YtnaefnajkaohgaaGreatDoorF42
import Derived.Test.YtnaefnajkaohgaaGreatDoorF40
import Derived.Test.YtnaefnajkaohgaaGreatDoorF43
import Derived.Test.YtnaefnajkaohgaaGreatDoorF33
set_option linter.all false
namespace Go.Proofs.YtnaefnajkaohgaaGreatDoor
open Go Go.AL Classical
set_option maxRecDepth 10000
set_option maxHeartbeats 16000000
theorem eS.s{T:fE}{f:FuncId}{args:List D}{dst:Option Nat}{s s':St}{K:St→Prop}(hs:s=s')(h:eS T f args dst s' K .mk):eS T f args dst s K .mk:=by subst hs;exact h
end Go.Proofs.YtnaefnajkaohgaaGreatDoor
namespace Go.Proofs.YtnaefnajkaohgaaGreatDoor
open Go Go.AL Classical
set_option maxRecDepth 10000
set_option maxHeartbeats 16000000
attribute [-simp] DJ
theorem DQ{s:Int}(h:0≤s∧s<9223372036854775808):IntKind.i64.wrap (sV .u64 (IntKind.u64.wrap s) 1)=s / 2:=by
 have h1:IntKind.u64.wrap s=s:=by
  unfold IntKind.wrap
  simp only[show IntKind.u64.signed=false from rfl,show IntKind.u64.bits=64 from rfl]
  simp
  omega
 have h2:sV .u64 s 1=s / 2:=Int.fdiv_eq_ediv_of_nonneg s (by decide)
 rw[h1,h2]
 exact mQ ⟨by omega,by omega⟩
section
variable{X0 X1 X2 X4 X5 X6 X7 X8:Ob}{v:List eG}{N:Nat}{L0:List Int}
theorem f158(hv:∀ k:Int,0≤k→k<v.length→0≤(gt v k).2∧(gt v k).2≤4000)(h9:N≤4000)(qc:L0.length=N)(tH:∀ x∈L0,0≤x∧x<v.length):∀ (w:Nat) (L:List Int) (_:iR L0 L) (a m b:Int) (_:0≤a∧a<m∧m<b∧b≤N) (_:(b-a).toNat≤w),
  Wf T 158 [.et 9 0 1 0 N,.i a,.i m,.i b,.fn (.func 72) [] [.ptr 3 0 0]] [X0,X1,X2,.row 52 0 [fq v],X4,X5,X6,X7,X8,.row 3 0 (cl f1 L)] (fun d H'=>d = .tup []∧∃ L',iR L0 L'∧H' = [X0,X1,X2,.row 52 0 [fq v],X4,X5,X6,X7,X8,.row 3 0 (cl f1 L')]):=by
 intro w
 induction w with
 | zero=>intro L _ a m b h h2;omega
 | succ w ih=>
 intro L hS a m b h hw
 have hN:=hS.1.trans qc
 have hL:=hS.zo tH
 refine Yg AG ?_
 simp[AG]
 by_cases h1:m-a=1
 ·simp[h1]
  (with_reducible repeat' first|refine Xk ?_<;>try simp|refine Xs ?_ ?_<;>intro h<;>(try intro h')<;>(try simp[h])<;>(try omega)|refine Xg ?_|omega)
  refine eE.e ((m,b):Int×Int) (fun y=>[(0,.et 9 0 1 0 N),(1,.i a),(4,.fn (.func 72) [] [.ptr 3 0 0]),(10,.i y.1),(11,.i y.2)]) (fun y=>[X0,X1,X2,.row 52 0 [fq v],X4,X5,X6,X7,X8,.row 3 0 (cl f1 L)]) (fun y=>m≤y.1∧y.1≤y.2∧y.2≤b) (fun y=>(y.2-y.1).toNat) ?_ ?_
  ·exact⟨by dsimp only;omega,by dsimp only;omega,by dsimp only;omega⟩
  rintro⟨i,j⟩ ⟨i0,i1,i2⟩
  dsimp only at i0 i1 i2 ⊢
  by_cases mG:i<j
  ·have tX:=DQ (s:=i+j) (by omega)
   have hc:i≤(i+j) / 2∧(i+j) / 2<j:=by omega
   simp[mG,tX]
   generalize (i+j) / 2=c at *
   have r1:=hL (gt L c) (eI (by omega) (by omega))
   have r2:=hL (gt L a) (eI (by omega) (by omega))
   (with_reducible repeat' first|refine Xk ?_<;>try simp|refine Xs ?_ ?_<;>intro h<;>(try intro h')<;>(try simp[h])<;>(try omega)|refine Xg ?_|omega)
   refine gi.r rfl rfl (f72 v hv (gt L c) (gt L a) r1 r2) (by simp) (by simp[flat]) (by simp) ?_
   simp
   (with_reducible repeat' first|refine Xk ?_<;>try simp|refine Xs ?_ ?_<;>intro h<;>(try intro h')<;>(try simp[h])<;>(try omega)|refine Xg ?_|omega)
   ·refine LJ.e (c+1,j) ?_
    exact⟨by dsimp only;omega,by dsimp only;omega,by dsimp only;omega,by dsimp only;omega⟩
   ·refine LJ.e (i,c) ?_
    exact⟨by dsimp only;omega,by dsimp only;omega,by dsimp only;omega,by dsimp only;omega⟩
  ·simp[mG]
   refine eE.s (by simp;rfl) ?_
   refine eE.e ((a,L):Int×List Int) (fun y=>[(0,.et 9 0 1 0 N),(10,.i i),(13,.i y.1)]) (fun y=>[X0,X1,X2,.row 52 0 [fq v],X4,X5,X6,X7,X8,.row 3 0 (cl f1 y.2)]) (fun y=>a≤y.1∧iR L0 y.2) (fun y=>(i-y.1).toNat) ?_ ?_
   ·exact⟨by dsimp only;omega,hS⟩
   rintro⟨k,M⟩ ⟨k0,hM⟩
   dsimp only at k0 hM ⊢
   have hl:=hM.1
   by_cases hk:k<i-1
   ·have uc:(pt M k (gt M (k+1))).length=M.length:=fX (by omega) (by omega)
    have hs:=iR.swap (L:=M) (i:=k) (j:=k+1) (by omega) (by omega) (by omega) (by omega)
    simp[hk]
    (with_reducible repeat' first|refine Xk ?_<;>try simp|refine Xs ?_ ?_<;>intro h<;>(try intro h')<;>(try simp[h])<;>(try omega)|refine Xg ?_|omega)
    refine LJ.e (k+1,pt (pt M k (gt M (k+1))) (k+1) (gt M k)) ?_
    exact⟨by dsimp only;omega,by dsimp only;omega,hM.trans hs⟩
   ·simp[hk]
    (with_reducible repeat' first|refine Xk ?_<;>try simp|refine Xs ?_ ?_<;>intro h<;>(try intro h')<;>(try simp[h])<;>(try omega)|refine Xg ?_|omega)
    exact⟨M,hM,rfl⟩
 by_cases h2:b-m=1
 ·simp[h1,h2]
  (with_reducible repeat' first|refine Xk ?_<;>try simp|refine Xs ?_ ?_<;>intro h<;>(try intro h')<;>(try simp[h])<;>(try omega)|refine Xg ?_|omega)
  refine eE.e ((a,m):Int×Int) (fun y=>[(0,.et 9 0 1 0 N),(2,.i m),(4,.fn (.func 72) [] [.ptr 3 0 0]),(14,.i y.1),(15,.i y.2)]) (fun y=>[X0,X1,X2,.row 52 0 [fq v],X4,X5,X6,X7,X8,.row 3 0 (cl f1 L)]) (fun y=>a≤y.1∧y.1≤y.2∧y.2≤m) (fun y=>(y.2-y.1).toNat) ?_ ?_
  ·exact⟨by dsimp only;omega,by dsimp only;omega,by dsimp only;omega⟩
  rintro⟨i,j⟩ ⟨i0,i1,i2⟩
  dsimp only at i0 i1 i2 ⊢
  by_cases mG:i<j
  ·have tX:=DQ (s:=i+j) (by omega)
   have hc:i≤(i+j) / 2∧(i+j) / 2<j:=by omega
   simp[mG,tX]
   generalize (i+j) / 2=c at *
   have r1:=hL (gt L m) (eI (by omega) (by omega))
   have r2:=hL (gt L c) (eI (by omega) (by omega))
   (with_reducible repeat' first|refine Xk ?_<;>try simp|refine Xs ?_ ?_<;>intro h<;>(try intro h')<;>(try simp[h])<;>(try omega)|refine Xg ?_|omega)
   refine gi.r rfl rfl (f72 v hv (gt L m) (gt L c) r1 r2) (by simp) (by simp[flat]) (by simp) ?_
   simp
   (with_reducible repeat' first|refine Xk ?_<;>try simp|refine Xs ?_ ?_<;>intro h<;>(try intro h')<;>(try simp[h])<;>(try omega)|refine Xg ?_|omega)
   ·refine LJ.e (i,c) ?_
    exact⟨by dsimp only;omega,by dsimp only;omega,by dsimp only;omega,by dsimp only;omega⟩
   ·refine LJ.e (c+1,j) ?_
    exact⟨by dsimp only;omega,by dsimp only;omega,by dsimp only;omega,by dsimp only;omega⟩
  ·simp[mG]
   refine eE.s (by simp;rfl) ?_
   refine eE.e ((m,L):Int×List Int) (fun y=>[(0,.et 9 0 1 0 N),(14,.i i),(17,.i y.1)]) (fun y=>[X0,X1,X2,.row 52 0 [fq v],X4,X5,X6,X7,X8,.row 3 0 (cl f1 y.2)]) (fun y=>i≤y.1∧y.1≤m∧iR L0 y.2) (fun y=>(y.1-i).toNat) ?_ ?_
   ·exact⟨by dsimp only;omega,by dsimp only;omega,hS⟩
   rintro⟨k,M⟩ ⟨k0,k1,hM⟩
   dsimp only at k0 k1 hM ⊢
   have hl:=hM.1
   by_cases hk:i<k
   ·obtain⟨q,rfl⟩:∃ q,k=q+1:=⟨k-1,by omega⟩
    have uc:(pt M (q+1) (gt M q)).length=M.length:=fX (by omega) (by omega)
    have hs:=iR.swap (L:=M) (i:=q+1) (j:=q) (by omega) (by omega) (by omega) (by omega)
    simp[hk]
    (with_reducible repeat' first|refine Xk ?_<;>try simp|refine Xs ?_ ?_<;>intro h<;>(try intro h')<;>(try simp[h])<;>(try omega)|refine Xg ?_|omega)
    refine LJ.e (q,pt (pt M (q+1) (gt M q)) q (gt M (q+1))) ?_
    exact⟨by dsimp only;omega,by dsimp only;omega,by dsimp only;omega,hM.trans hs⟩
   ·simp[hk]
    (with_reducible repeat' first|refine Xk ?_<;>try simp|refine Xs ?_ ?_<;>intro h<;>(try intro h')<;>(try simp[h])<;>(try omega)|refine Xg ?_|omega)
    exact⟨M,hM,rfl⟩
 have tX:=DQ (s:=a+b) (by omega)
 have hmd:a<(a+b) / 2∧(a+b) / 2<b:=by omega
 simp[h1,h2,tX]
 (with_reducible repeat' first|refine Xk ?_<;>try simp[tX]|refine Xs ?_ ?_<;>intro h<;>(try intro h')<;>(try simp[h,tX])<;>(try omega)|refine Xg ?_|omega)
 case' neg.refine_2=>refine eE.e ((a,m):Int×Int) (fun y=>[(0,.et 9 0 1 0 N),(1,.i a),(2,.i m),(3,.i b),(4,.fn (.func 72) [] [.ptr 3 0 0]),(18,.i ((a+b) / 2)),(19,.i ((a+b) / 2+m)),(20,.i y.1),(21,.i y.2),(22,.i ((a+b) / 2+m-1))]) (fun y=>[X0,X1,X2,.row 52 0 [fq v],X4,X5,X6,X7,X8,.row 3 0 (cl f1 L)]) (fun y=>a≤y.1∧y.1≤y.2∧y.2≤(a+b) / 2∧(a+b) / 2+m-y.1≤b) (fun y=>(y.2-y.1).toNat) ?_ ?_
 case' neg.refine_1=>refine eE.e (((a+b) / 2+m-b,(a+b) / 2):Int×Int) (fun y=>[(0,.et 9 0 1 0 N),(1,.i a),(2,.i m),(3,.i b),(4,.fn (.func 72) [] [.ptr 3 0 0]),(18,.i ((a+b) / 2)),(19,.i ((a+b) / 2+m)),(20,.i y.1),(21,.i y.2),(22,.i ((a+b) / 2+m-1))]) (fun y=>[X0,X1,X2,.row 52 0 [fq v],X4,X5,X6,X7,X8,.row 3 0 (cl f1 L)]) (fun y=>a≤y.1∧y.1≤y.2∧y.2≤(a+b) / 2∧(a+b) / 2+m-y.1≤b) (fun y=>(y.2-y.1).toNat) ?_ ?_
 all_goals first|exact⟨by dsimp only;omega,by dsimp only;omega,by dsimp only;omega,by dsimp only;omega⟩|skip
 all_goals
  rintro⟨s,r⟩ ⟨s0,s1,s2,s3⟩
  dsimp only at s0 s1 s2 s3 ⊢
  by_cases Lz:s<r
  ·have Rw:=DQ (s:=s+r) (by omega)
   have hc:s≤(s+r) / 2∧(s+r) / 2<r:=by omega
   simp[Lz,Rw]
   generalize (s+r) / 2=c at *
   generalize (a+b) / 2=md at *
   have r1:=hL (gt L (md+m-1-c)) (eI (by omega) (by omega))
   have r2:=hL (gt L c) (eI (by omega) (by omega))
   (with_reducible repeat' first|refine Xk ?_<;>try simp|refine Xs ?_ ?_<;>intro h<;>(try intro h')<;>(try simp[h])<;>(try omega)|refine Xg ?_|omega)
   refine gi.r rfl rfl (f72 v hv (gt L (md+m-1-c)) (gt L c) r1 r2) (by simp) (by simp[flat]) (by simp) ?_
   simp
   (with_reducible repeat' first|refine Xk ?_<;>try simp|refine Xs ?_ ?_<;>intro h<;>(try intro h')<;>(try simp[h])<;>(try omega)|refine Xg ?_|omega)
   ·refine LJ.e (s,c) ?_
    exact⟨by dsimp only;omega,by dsimp only;omega,by dsimp only;omega,by dsimp only;omega,by dsimp only;omega⟩
   ·refine LJ.e (c+1,r) ?_
    exact⟨by dsimp only;omega,by dsimp only;omega,by dsimp only;omega,by dsimp only;omega,by dsimp only;omega⟩
  ·generalize (a+b) / 2=md at *
   simp[Lz]
   (with_reducible repeat' first|refine Xk ?_<;>try simp|refine Xs ?_ ?_<;>intro h<;>(try intro h')<;>(try simp[h])<;>(try omega)|refine Xg ?_|omega)
   repeat' first
    | exact⟨L,hS,rfl⟩
    | ((try refine eS.s (by simp;rfl) ?_);refine eS.km rfl rfl (f196 L hN h9 s m (md+m-s) (by omega)) ?_;rintro _ H' ⟨rfl,M,hM,rfl⟩;replace hS:=hS.trans hM;replace hN:=hS.1.trans qc;clear hM hL;revert hS hN;generalize M=L;intro hS hN;simp;(with_reducible repeat' first|refine Xk ?_<;>try simp|refine Xs ?_ ?_<;>intro h<;>(try intro h')<;>(try simp[h])<;>(try omega)|refine Xg ?_|omega))
    | ((try refine eS.s (by simp;rfl) ?_);refine eS.km rfl rfl (ih L hS a s md (by omega) (by omega)) ?_;rintro _ H' ⟨rfl,M,hS,rfl⟩;clear hN;(try clear hL);revert hS;generalize M=L;intro hS;have hN:=hS.1.trans qc;simp;(with_reducible repeat' first|refine Xk ?_<;>try simp|refine Xs ?_ ?_<;>intro h<;>(try intro h')<;>(try simp[h])<;>(try omega)|refine Xg ?_|omega))
    | ((try refine eS.s (by simp;rfl) ?_);refine eS.km rfl rfl (ih L hS md (md+m-s) b (by omega) (by omega)) ?_;rintro _ H' ⟨rfl,M,hS,rfl⟩;clear hN;(try clear hL);revert hS;generalize M=L;intro hS;have hN:=hS.1.trans qc;simp;(with_reducible repeat' first|refine Xk ?_<;>try simp|refine Xs ?_ ?_<;>intro h<;>(try intro h')<;>(try simp[h])<;>(try omega)|refine Xg ?_|omega))
end
end Go.Proofs.YtnaefnajkaohgaaGreatDoor
namespace Go.Proofs.YtnaefnajkaohgaaGreatDoor
open Go Go.AL Classical
set_option maxRecDepth 10000
set_option maxHeartbeats 16000000
attribute [-simp] DJ
section
variable{X0 X1 X2 X4 X5 X6 X7 X8:Ob}{v:List eG}{N:Nat}{L0:List Int}
theorem f113(hv:∀ k:Int,0≤k→k<v.length→0≤(gt v k).2∧(gt v k).2≤4000)(h9:N≤4000)(qc:L0.length=N)(tH:∀ x∈L0,0≤x∧x<v.length):Wf T 113 [.et 9 0 1 0 N,.i N,.fn (.func 72) [] [.ptr 3 0 0]] [X0,X1,X2,.row 52 0 [fq v],X4,X5,X6,X7,X8,.row 3 0 (cl f1 L0)] (fun d H'=>d = .tup []∧∃ L',iR L0 L'∧H' = [X0,X1,X2,.row 52 0 [fq v],X4,X5,X6,X7,X8,.row 3 0 (cl f1 L')]):=by
 refine Yg Aa ?_
 simp[Aa]
 (with_reducible repeat' first|refine Xk ?_<;>try simp|refine Xs ?_ ?_<;>intro h<;>(try intro h')<;>(try simp[h])<;>(try omega)|refine Xg ?_|omega)
 refine eE.e ((0,L0):Int×List Int) (fun y=>[(0,.et 9 0 1 0 N),(1,.i N),(2,.fn (.func 72) [] [.ptr 3 0 0]),(6,.i 20),(7,.i y.1),(8,.i (y.1+20))]) (fun y=>[X0,X1,X2,.row 52 0 [fq v],X4,X5,X6,X7,X8,.row 3 0 (cl f1 y.2)]) (fun y=>0≤y.1∧y.1≤4000∧iR L0 y.2) (fun y=>(N-y.1).toNat) ?_ ?_
 ·exact⟨by simp,by simp,iR.refl _⟩
 rintro⟨a,L⟩ ⟨a0,a1,hS⟩
 dsimp only at a0 a1 hS ⊢
 have hN:=hS.1.trans qc
 have hL:=hS.zo tH
 by_cases hb:a+20≤N
 ·simp[hb]
  (with_reducible repeat' first|refine Xk ?_<;>try simp|refine Xs ?_ ?_<;>intro h<;>(try intro h')<;>(try simp[h])<;>(try omega)|refine Xg ?_|omega)
  refine eS.km rfl rfl (f157 hv h9 L hN hL a (a+20) (by omega)) ?_
  rintro _ H' ⟨rfl,M,hM,rfl⟩
  simp
  (with_reducible repeat' first|refine Xk ?_<;>try simp|refine Xs ?_ ?_<;>intro h<;>(try intro h')<;>(try simp[h])<;>(try omega)|refine Xg ?_|omega)
  refine LJ.e (a+20,M) ?_
  exact⟨by dsimp only;omega,by dsimp only;omega,by dsimp only;omega,hS.trans hM⟩
 simp[hb]
 refine eS.s (by simp;rfl) ?_
 refine eS.km rfl rfl (f157 hv h9 L hN hL a N (by omega)) ?_
 rintro _ H' ⟨rfl,M,hM,rfl⟩
 replace hS:=hS.trans hM
 clear hM hN hL
 simp
 refine eE.e ((20,M):Int×List Int) (fun y=>[(0,.et 9 0 1 0 N),(1,.i N),(2,.fn (.func 72) [] [.ptr 3 0 0]),(6,.i y.1)]) (fun y=>[X0,X1,X2,.row 52 0 [fq v],X4,X5,X6,X7,X8,.row 3 0 (cl f1 y.2)]) (fun y=>20≤y.1∧y.1≤8000∧iR L0 y.2) (fun y=>(N-y.1).toNat) ?_ ?_
 ·exact⟨by simp,by simp,hS⟩
 clear hS a0 a1 hb
 rintro⟨bs,L⟩ ⟨b0,b1,hS⟩
 dsimp only at b0 b1 hS ⊢
 by_cases hb:bs<N
 ·simp[hb]
  (with_reducible repeat' first|refine Xk ?_<;>try simp|refine Xs ?_ ?_<;>intro h<;>(try intro h')<;>(try simp[h])<;>(try omega)|refine Xg ?_|omega)
  refine eE.e ((0,L):Int×List Int) (fun y=>[(0,.et 9 0 1 0 N),(1,.i N),(2,.fn (.func 72) [] [.ptr 3 0 0]),(6,.i bs),(7,.i y.1),(8,.i (y.1+2*bs))]) (fun y=>[X0,X1,X2,.row 52 0 [fq v],X4,X5,X6,X7,X8,.row 3 0 (cl f1 y.2)]) (fun y=>0≤y.1∧y.1≤N∧iR L0 y.2) (fun y=>(N-y.1).toNat) ?_ ?_
  ·exact⟨by simp,by dsimp only;omega,hS⟩
  clear hS
  rintro⟨a,L⟩ ⟨a0,a1,hS⟩
  dsimp only at a0 a1 hS ⊢
  by_cases ha:a+2*bs≤N
  ·simp[ha]
   (with_reducible repeat' first|refine Xk ?_<;>try simp|refine Xs ?_ ?_<;>intro h<;>(try intro h')<;>(try simp[h])<;>(try omega)|refine Xg ?_|omega)
   refine eS.km rfl rfl (f158 hv h9 qc tH _ L hS a (a+bs) (a+2*bs) (by omega) (Nat.le_refl _)) ?_
   rintro _ H' ⟨rfl,M,hM,rfl⟩
   simp
   (with_reducible repeat' first|refine Xk ?_<;>try simp|refine Xs ?_ ?_<;>intro h<;>(try intro h')<;>(try simp[h])<;>(try omega)|refine Xg ?_|omega)
   refine LJ.e (a+2*bs,M) ?_
   exact⟨by dsimp only;omega,by dsimp only;omega,by dsimp only;omega,hM⟩
  ·simp[ha]
   (with_reducible repeat' first|refine Xk ?_<;>try simp|refine Xs ?_ ?_<;>intro h<;>(try intro h')<;>(try simp[h])<;>(try omega)|refine Xg ?_|omega)
   ·refine eS.s (by simp;rfl) ?_
    refine eS.km rfl rfl (f158 hv h9 qc tH _ L hS a (a+bs) N (by omega) (Nat.le_refl _)) ?_
    rintro _ H' ⟨rfl,M,hM,rfl⟩
    simp
    (with_reducible repeat' first|refine Xk ?_<;>try simp|refine Xs ?_ ?_<;>intro h<;>(try intro h')<;>(try simp[h])<;>(try omega)|refine Xg ?_|omega)
    refine LJ.e (bs*2,M) ?_
    exact⟨by dsimp only;omega,by dsimp only;omega,by dsimp only;omega,hM⟩
   ·refine LJ.e (bs*2,L) ?_
    exact⟨by dsimp only;omega,by dsimp only;omega,by dsimp only;omega,hS⟩
 ·simp[hb]
  exact⟨L,hS,rfl⟩
theorem f71(hv:∀ k:Int,0≤k→k<v.length→0≤(gt v k).2∧(gt v k).2≤4000)(h9:N≤4000)(qc:L0.length=N)(tH:∀ x∈L0,0≤x∧x<v.length):Wf T 71 [.et 9 0 1 0 N,.fn (.func 72) [] [.ptr 3 0 0]] [X0,X1,X2,.row 52 0 [fq v],X4,X5,X6,X7,X8,.row 3 0 (cl f1 L0)] (fun d H'=>d = .tup []∧∃ L',iR L0 L'∧H' = [X0,X1,X2,.row 52 0 [fq v],X4,X5,X6,X7,X8,.row 3 0 (cl f1 L')]):=by
 refine Yg BP ?_
 simp[BP]
 refine eS.km rfl rfl (f113 hv h9 qc tH) ?_
 rintro _ H' ⟨rfl,M,hM,rfl⟩
 simp
 exact⟨M,hM,rfl⟩
end
end Go.Proofs.YtnaefnajkaohgaaGreatDoor
namespace Go.Proofs.YtnaefnajkaohgaaGreatDoor
open Go Go.AL Classical
set_option maxRecDepth 10000
set_option maxHeartbeats 8000000
theorem MC{v:List eG}{o b:Int}{r:Int→Int}{x:List Int}(hr:∀ k∈x,0≤r k∧r k≤b)(hb:0≤b):∀ n:Nat,n≤x.length→-1≤iG v o r x n∧iG v o r x n≤b
 | 0,_=>⟨by simp[iG],by rw[iG];omega⟩
 | n+1,h=>by
  have ih:=MC (v:=v) (o:=o) hr hb n (by omega)
  have:=hr _ (eI (l:=x) (n:=(n:Int)) (by omega) (by omega))
  rw[iG]
  split
  ·omega
  ·split<;>omega
theorem T2{v:List eG}{o:Int}{r:Int→Int}{x:List Int}{i:Int}(i0:0≤i):iG v o r x (i+1).toNat=if o=3 then max (iG v o r x i.toNat) (r (gt x i))else if (gt v (gt x i)).1=3∧(iG v o r x i.toNat<0∨r (gt x i)<iG v o r x i.toNat)then r (gt x i)else iG v o r x i.toNat:=by
 have h:(i+1).toNat=i.toNat+1:=by omega
 have h2:((i.toNat:Nat):Int)=i:=by omega
 rw[h,iG,h2]
@[local simp] theorem agO(v:List eG)(o:Int)(r:Int→Int)(x:List Int):iG v o r x 0 = -1:=rfl
theorem f74(g:ew)(hg:eU g)(m:List Int)(hm:kf g m)(p q:Pos)(hp:fj g p)(hq:fj g q):Wf T 74 [.agg [dI m],dP p,dP q] [] (Is (.b (decide (py m q<py m p)))):=by
 refine Yg BS ?_
 simp[BS]
 refine Yt (f114 hg hm hq) ?_
 simp
 refine Yt (f114 hg hm hp) ?_
 simp
section
variable{g:ew}{m:List Int}{l:List Pos}{out:List Int}
theorem f73(hg:eU g)(hm:kf g m)(hl:∀ p∈l,fj g p)(ho:out.length=l.length)(i q:Int)(hi:0≤i∧i<l.length)(hq:0≤q∧q<l.length):Wf T 73 [.i i,.i q,.eF [dI m],.eF [fe l],.eF [dI out]] [] (Is (.i (l8 m l out i q))):=by
 refine Yg BR ?_
 simp[BR]
 (with_reducible repeat' first|refine Xk ?_<;>try simp|refine Xs ?_ ?_<;>intro h<;>(try intro h')<;>(try simp[h])<;>(try omega)|refine Xg ?_|omega)
 refine Yt (f74 g hg m hm (gt l i) (gt l q) (hl _ (eI hi.1 hi.2)) (hl _ (eI hq.1 hq.2))) ?_
 simp
 unfold l8
 (with_reducible repeat' first|refine Xk ?_<;>try simp|refine Xs ?_ ?_<;>intro h<;>(try intro h')<;>(try simp[h])<;>(try omega)|refine Xg ?_|omega)
theorem f76(hg:eU g)(hm:kf g m)(hl:∀ p∈l,fj g p)(ho:out.length=l.length)(i q:Int)(hi:0≤i∧i<l.length)(hq:0≤q∧q<l.length):Wf T 76 [.i q,.eF [.fn (.func 73) [] [.eF [dI m],.eF [fe l],.eF [dI out]]],.eF [.i i]] [] (Is (.i (l8 m l out i q))):=by
 refine Yg BU ?_
 simp[BU]
 refine Yc (f73 hg hm hl ho i q hi hq) ?_
 simp
theorem f75(hg:eU g)(hm:kf g m)(hl:∀ p∈l,fj g p)(ho:out.length=l.length)(hlen:l.length≤4000)(h4:∀ k:Int,0≤k→k<l.length→0≤gt out k∧gt out k≤4000)(v:List eG)(hv:v.length=l.length)(x:List Int)(hx:∀ k∈x,0≤k∧k<l.length)(ql:x.length≤4000000000)(i:Int)(hi:0≤i∧i<l.length) :
  Wf T 75 [dI x,fq v,.i i,.fn (.func 76) [] [.eF [.fn (.func 73) [] [.eF [dI m],.eF [fe l],.eF [dI out]]],.eF [.i i]]] [] (Is (.i (rr v (gt v i).1 (l8 m l out i) x))):=by
 have hr:∀ k∈x,0≤l8 m l out i k∧l8 m l out i k≤4000:=fun k hk=>by
  have:=h4 k (hx k hk).1 (hx k hk).2
  unfold l8;split<;>omega
 refine Yg BT ?_
 simp[BT]
 refine eE.e (0:Int) (fun y=>[(1,fq v),(2,.i i),(3,.fn (.func 76) [] [.eF [.fn (.func 73) [] [.eF [dI m],.eF [fe l],.eF [dI out]]],.eF [.i i]]),(9,.i (iG v (gt v i).1 (l8 m l out i) x y.toNat)),(13,dI x),(14,.i x.length),(15,.i y)]) (fun y=>[]) (fun y=>0≤y∧y≤x.length) (fun y=>(x.length-y).toNat) ?_ ?_
 ·simp
 rintro j ⟨j0,j1⟩
 dsimp only at j0 j1 ⊢
 have fg:=MC (v:=v) (o:=(gt v i).1) hr (by omega) j.toNat (by omega)
 by_cases hj:j<x.length
 ·have hk:=hx _ (eI j0 hj)
  have hs:=T2 (v:=v) (o:=(gt v i).1) (r:=l8 m l out i) (x:=x) j0
  simp[hj]
  (with_reducible repeat' first|refine Xk ?_<;>try simp|refine Xs ?_ ?_<;>intro h<;>(try intro h')<;>(try simp[h])<;>(try omega)|refine Xg ?_|omega)
  refine Yc (f76 hg hm hl ho i (gt x j) hi hk) ?_
  simp
  (with_reducible repeat' first|refine Xk ?_<;>try simp|refine Xs ?_ ?_<;>intro h<;>(try intro h')<;>(try simp[h])<;>(try omega)|refine Xg ?_|omega)
  ·rw[h,if_pos rfl]at hs
   refine LJ.i (j+1) (by first|rfl|simp[hs,h]) (by first|rfl|simp[hs,h]) rfl rfl ?_
   omega
  all_goals
   refine LJ.i (j+1) (by first|rfl|simp[hs, *]) (by first|rfl|simp[hs, *]) rfl rfl ?_
   omega
 ·have x7:j=x.length:=by omega
  subst x7
  simp at fg
  simp
  (with_reducible repeat' first|refine Xk ?_<;>try simp|refine Xs ?_ ?_<;>intro h<;>(try intro h')<;>(try simp[h])<;>(try omega)|refine Xg ?_|omega)
  simp[rr]
end
end Go.Proofs.YtnaefnajkaohgaaGreatDoor
namespace Go.Proofs.YtnaefnajkaohgaaGreatDoor
open Go Go.AL Classical
set_option maxRecDepth 10000
set_option maxHeartbeats 16000000
theorem PL(g:ew)(hg:eU g)(l:List Pos)(hc:ku g l)(h0:0<l.length)(m:List Int)(hm:w7 g m)(v:List eG)(gq:v.length=l.length)(hV:∀ k:Int,0≤k→k<l.length→lC (ny g l (eO g l)) v k):Wf T 40 [dG g,.agg [dI m],fe l,fq v] [] (Is (.tup [dI (zR g l m v),.i 0])):=by
 have hlen:=hc.len
 have Rx:=hm.ok
 have Lg:(eO g l).length=l.length:=by simp[eO]
 have fg:=fun i i0 i1=>(l6 hc (i:=i) i0 i1).2
 have gw:∀ k:Int,0≤k→k<l.length→(gt (eO g l) k).length≤4000000000:=fun k k0 k1=>by
  rw[(l6 hc k0 k1).1,List.length_map]
  have:=uv hg (hc.ok _ (eI k0 k1));omega
 have hb:∀ k:Int,0≤k→k<l.length→0≤(gt v k).2∧(gt v k).2≤4000:=fun k k0 k1=>by have:=TB (A:=ny g l (eO g l)) fg hV k0 k1;omega
 have nY:∀ k:Int,0≤k→k<v.length→0≤(gt v k).2∧(gt v k).2≤4000:=fun k k0 k1=>hb k k0 (by omega)
 refine Yg BA ?_
 simp[BA]
 refine eS.inl wY rfl rfl (by simp[wY]) rfl ?_
 simp[wY]
 refine Yc (f52 g hg l hc h0) ?_
 simp
 (with_reducible repeat' first|refine Xk ?_<;>try simp|refine Xs ?_ ?_<;>intro h<;>(try intro h')<;>(try simp[h])<;>(try omega)|refine Xg ?_|omega)
 refine eE.e ((0,List.replicate l.length 0):Int×List Int) (fun y=>[(5,.ptr 1 0 0),(6,.ptr 2 0 0),(7,.ptr 3 0 0),(10,.ptr 4 0 0),(12,.ptr 8 0 0),(13,.et 9 0 1 0 l.length),(42,.i l.length),(43,.i y.1)]) (fun y=>[.row 41 0 g.cells,.row 50 0 [dI m],.row 45 0 [fe l],.row 52 0 [fq v],.row 148 0 [.et 5 0 2 0 l.length,.et 6 0 1 0 l.length,.i g.size,.sl 1 (g.next.map fI),dI g.gy,.sl 3 (g.kinds.map Kind.cells),.i g.eQ,.b g.kT,dN 4 Clause.cells g.clauses,.i g.blocked,.i g.p6,fe l,.sl 1 ((eO g l).map fN)],.row 58 0 (cl fS (List.replicate l.length (0,0))),.row 4 0 (cl fB (List.replicate l.length false)),.row 3 0 (cl f1 (List.replicate l.length 0)),.row 33 0 [.et 7 0 1 0 l.length],.row 3 0 (cl f1 y.2)]) (fun y=>0≤y.1∧y.1≤l.length∧y.2.length=l.length∧∀ k:Int,0≤k→k<y.1→gt y.2 k=k) (fun y=>(l.length-y.1).toNat) ?_ ?_
 ·exact⟨by simp,by simp,by simp,fun k k0 k1=>by dsimp only at k1;omega⟩
 rintro⟨i,od⟩ ⟨i0,i1,i2,i3⟩
 dsimp only at i0 i1 i2 i3 ⊢
 by_cases hi:i<l.length
 ·have gI:=fX (v:=i) i0 (by omega:i<od.length)
  simp[hi]
  (with_reducible repeat' first|refine Xk ?_<;>try simp|refine Xs ?_ ?_<;>intro h<;>(try intro h')<;>(try simp[h])<;>(try omega)|refine Xg ?_|omega)
  refine LJ.e (i+1,pt od i i) ?_
  refine⟨by dsimp only;omega,by dsimp only;omega,by dsimp only;omega,by dsimp only;omega,fun k k0 k1=>?_⟩
  dsimp only at k1 ⊢
  rw[nU i0 (by omega) k0]
  split
  ·rename_i e;exact e.symm
  ·exact i3 k k0 (by omega)
 have x6:i=l.length:=by omega
 subst x6
 have Gr:∀ x∈od,0≤x∧x<v.length:=fun x hx=>by
  obtain⟨k,k0,k1,e⟩:=oj.1 hx
  rw[i3 k k0 (by omega)]at e
  omega
 have iq:∀ k:Int,0≤k→k<l.length→k∈od:=fun k k0 k1=>oj.2 ⟨k,k0,by omega,i3 k k0 k1⟩
 simp
 (try refine eS.s (by simp;rfl) ?_)
 refine eS.km rfl rfl (f71 nY (by omega) i2 Gr) ?_
 rintro _ H' ⟨rfl,ni,hs,rfl⟩
 have RG:=hs.zo Gr
 have QG:∀ k:Int,0≤k→k<l.length→k∈ni:=fun k k0 k1=>(hs.2 k).2 (iq k k0 k1)
 have Ll:ni.length=l.length:=hs.1.trans i2
 clear Gr iq i3 hs i2 i0 i1 hi
 simp
 (with_reducible repeat' first|refine Xk ?_<;>try simp|refine Xs ?_ ?_<;>intro h<;>(try intro h')<;>(try simp[h])<;>(try omega)|refine Xg ?_|omega)
 (try refine eE.s (by simp;rfl) ?_)
 refine eE.e ((true,List.replicate l.length 0):Bool×List Int) (fun y=>[(7,.ptr 3 0 0),(10,.ptr 4 0 0),(12,.ptr 8 0 0),(13,.et 9 0 1 0 l.length),(15,.ptr 10 0 0),(16,.b y.1)]) (fun y=>[.row 41 0 g.cells,.row 50 0 [dI m],.row 45 0 [fe l],.row 52 0 [fq v],.row 148 0 [.et 5 0 2 0 l.length,.et 6 0 1 0 l.length,.i g.size,.sl 1 (g.next.map fI),dI g.gy,.sl 3 (g.kinds.map Kind.cells),.i g.eQ,.b g.kT,dN 4 Clause.cells g.clauses,.i g.blocked,.i g.p6,fe l,.sl 1 ((eO g l).map fN)],.row 58 0 (cl fS (List.replicate l.length (0,0))),.row 4 0 (cl fB (List.replicate l.length false)),.row 3 0 (cl f1 y.2),.row 33 0 [.et 7 0 1 0 l.length],.row 3 0 (cl f1 ni),.row 138 0 [.fn (.func 73) [] [.ptr 1 0 0,.ptr 2 0 0,.ptr 8 0 0]]]) (fun y=>ZI g l m v y.2∧(y.1=false→∀ i:Int,0≤i→i<l.length→Act v i→kH g l m v y.2 i=gt y.2 i)) (fun y=>2*pK v y.2 l.length+(if y.1 then 1 else 0)) ?_ ?_
 ·exact⟨ZI.start hc hV,fun h=>by cases h⟩
 rintro⟨ch,out⟩ ⟨hZ,hE⟩
 dsimp only at hZ hE ⊢
 cases ch
 ·have hF:=hZ.done hc hV (hE rfl)
  have pr:=hZ.len
  have e:=aak hF
  simp
  (with_reducible repeat' first|refine Xk ?_<;>try simp|refine Xs ?_ ?_<;>intro h<;>(try intro h')<;>(try simp[h])<;>(try omega)|refine Xg ?_|omega)
  simp[pr]
  rw[← e]
 ·simp
  refine eE.e ((0,false,out):Int×Bool×List Int) (fun y=>[(7,.ptr 3 0 0),(10,.ptr 4 0 0),(12,.ptr 8 0 0),(13,.et 9 0 1 0 l.length),(15,.ptr 10 0 0),(16,.b y.2.1),(56,.et 9 0 1 0 l.length),(57,.i l.length),(58,.i y.1)]) (fun y=>[.row 41 0 g.cells,.row 50 0 [dI m],.row 45 0 [fe l],.row 52 0 [fq v],.row 148 0 [.et 5 0 2 0 l.length,.et 6 0 1 0 l.length,.i g.size,.sl 1 (g.next.map fI),dI g.gy,.sl 3 (g.kinds.map Kind.cells),.i g.eQ,.b g.kT,dN 4 Clause.cells g.clauses,.i g.blocked,.i g.p6,fe l,.sl 1 ((eO g l).map fN)],.row 58 0 (cl fS (List.replicate l.length (0,0))),.row 4 0 (cl fB (List.replicate l.length false)),.row 3 0 (cl f1 y.2.2),.row 33 0 [.et 7 0 1 0 l.length],.row 3 0 (cl f1 ni),.row 138 0 [.fn (.func 73) [] [.ptr 1 0 0,.ptr 2 0 0,.ptr 8 0 0]]]) (fun y=>0≤y.1∧y.1≤l.length∧ZI g l m v y.2.2∧(y.2.1=false→y.2.2=out∧∀ j:Int,0≤j→j<y.1→Act v (gt ni j)→kH g l m v out (gt ni j)=gt out (gt ni j))∧(y.2.1=true→pK v y.2.2 l.length<pK v out l.length)) (fun y=>(l.length-y.1).toNat) ?_ ?_
  ·exact⟨by simp,by simp,hZ,fun _=>⟨rfl,fun j j0 j1=>by dsimp only at j1;omega⟩,fun h=>by cases h⟩
  rintro⟨k,b,w⟩ ⟨k0,k1,hW,hn,hy⟩
  dsimp only at k0 k1 hW hn hy ⊢
  have uh:=hW.len
  by_cases hk:k<l.length
  ·obtain⟨x0,x1⟩:=RG _ (eI k0 (by omega:k<ni.length))
   have Ox:=f75 hg Rx hc.ok uh hlen (fun q q0 q1=>by have:=hW.lo q q0 q1;have:=hb q q0 q1;omega) v gq (gt (eO g l) (gt ni k)) (fg _ x0 (by omega)) (gw _ x0 (by omega)) (gt ni k) ⟨x0,by omega⟩
   have Dg:¬ Act v (gt ni k)→b=false→w=out∧∀ j:Int,0≤j→j<k+1→Act v (gt ni j)→kH g l m v out (gt ni j)=gt out (gt ni j):=fun h1 h2=>⟨(hn h2).1,fun j j0 j1 ha=>by
    by_cases e:j=k
    ·exact absurd (e▸ha) h1
    ·exact(hn h2).2 j j0 (by omega) ha⟩
   generalize hx:gt ni k=x at *
   simp[hk,hx]
   (with_reducible repeat' first|refine Xk ?_<;>try simp|refine Xs ?_ ?_<;>intro h<;>(try intro h')<;>(try simp[h])<;>(try omega)|refine Xg ?_|omega)
   ·refine LJ.e (k+1,b,w) ?_
    exact⟨by dsimp only;omega,by dsimp only;omega,by dsimp only;omega,hW,Dg (fun ha=>ha.1 ‹_›),hy⟩
   ·refine LJ.e (k+1,b,w) ?_
    exact⟨by dsimp only;omega,by dsimp only;omega,by dsimp only;omega,hW,Dg (fun ha=>ha.2 ‹_›),hy⟩
   have ha:Act v x:=⟨‹_›,‹_›⟩
   have oS:=hW.step hc hV x0 (by omega) ha
   have oJ:=yX hc hV hW x0 (by omega) ha
   have Dj:=hW.pre x x0 (by omega) ha
   simp[vq]
   refine gi.r rfl rfl Ox (by simp;exact⟨by rw[← Es (N1 hV x0 (by omega) ha),Zz],by rw[qU uh.symm];rfl⟩) (by simp[flat]) (by simp) ?_
   simp
   (with_reducible repeat' first|refine Xk ?_<;>try simp|refine Xs ?_ ?_<;>intro h<;>(try intro h')<;>(try simp[h])<;>(try omega)|refine Xg ?_|omega)
   ·refine LJ.e (k+1,b,w) ?_
    refine⟨by dsimp only;omega,by dsimp only;omega,by dsimp only;omega,hW,fun h2=>⟨(hn h2).1,fun j j0 j1 hj=>?_⟩,hy⟩
    by_cases e:j=k
    ·rw[e,hx,← (hn h2).1];assumption
    ·exact(hn h2).2 j j0 (by dsimp only at j1;omega) hj
   ·refine LJ.e (k+1,true,pt w x (kH g l m v w x)) ?_
    have fF:gt w x<kH g l m v w x:=by
     have:kH g l m v w x≠gt w x := ‹_›
     omega
    have hs:=ED (v:=v) x0 (by rw[uh];omega) fF oJ.2 l.length
    refine⟨by dsimp only;omega,by dsimp only;omega,by dsimp only;omega,oS,(fun h2=>by cases h2),fun _=>?_⟩
    dsimp only
    by_cases e:b=true
    ·have:=hy e;have:=hs.2 (by omega);omega
    ·have:=(hn (by simpa using e)).1;subst this;exact hs.2 (by omega)
  ·simp[hk]
   have Ri:k=l.length:=by omega
   subst Ri
   cases b
   ·obtain⟨rfl,h2⟩:=hn rfl
    refine LJ.e (false,w) ?_
    refine⟨by dsimp only;simp,hW,fun _ i i0 i1 ha=>?_⟩
    obtain⟨j,j0,j1,e⟩:=oj.1 (QG i i0 i1)
    have:=h2 j j0 (by omega) (by rw[e];exact ha)
    rwa [e]at this
   ·have:=hy rfl
    refine LJ.e (true,w) ?_
    exact⟨by dsimp only;simp;omega,hW,fun h2=>by cases h2⟩
set_option maxRecDepth 10000
set_option maxHeartbeats 16000000
theorem PE(g:ew)(hg:eU g)(l:List Pos)(hc:ku g l)(h0:0<l.length)(m:List Int)(hm:w7 g m)(v:List eG)(gq:v.length=l.length)(hV:∀ k:Int,0≤k→k<l.length→lC (ny g l (eO g l)) v k):Wf T 15 [dG g,.agg [dI m],fe l,fq v] [] (Is (.agg [dI (zR g l m v),.i 0])):=by
 refine Yg AA ?_
 simp[AA]
 refine Yc (PL g hg l hc h0 m hm v gq hV) ?_
 simp
theorem f6(x:my)(hx:zU x)(a0 a1 a2 a3 a4 a5:Int)(ha:∀ n∈[a0,a1,a2,a3,a4,a5],0≤n∧n<256):Wf T 6 [.agg x.cells,dW [a0,a1,a2,a3,a4,a5]] [] (Is (.b true)):=by
 have ql:x.cells.length=31:=by simp[my.cells,Raw.cells,hx.len]
 have Si:eT x.cells=true:=by have:=JN x;simpa using this
 have Ow:=f12 x hx
 generalize x.cells=xs at *
 have vT:xs.take 31=xs:=aG (by omega)
 refine Yg F6 ?_
 simp[F6,dW,ql,vT]
 refine Yc (f11) ?_
 simp
 (with_reducible repeat' first|refine Xk ?_<;>try simp[ql,vT]|refine Xs ?_ ?_<;>intro h<;>(try intro h')<;>(try simp[h,ql,vT])<;>(try omega)|refine Xg ?_|omega)
 simp[ql,vT]
 refine eS.q rfl rfl Ow (by simp[Si]) (fun y=>by obtain⟨g,p,b,l⟩:=y;cases b<;>simp[eT]) ?_
 rintro⟨g,p,b,l⟩ ⟨hg,hp,ff⟩
 cases b
 ·simp
 dsimp only at hg hp ff
 have xU:=ff rfl
 have hc:=xU.c2
 have h0:=xU.len.1
 have h80:=xU.len.2
 have Jx:=PC g hg a0 a1 a2 a3 a4 a5 ha
 simp only[dW,List.map]at Jx
 simp
 refine Yq (PD g hg l hc h0) fun v hv=>?_
 obtain⟨v,f⟩:=v
 obtain⟨gq,hV⟩:=hv
 dsimp only at gq hV
 simp
 (with_reducible repeat' first|refine Xk ?_<;>try simp|refine Xs ?_ ?_<;>intro h<;>(try intro h')<;>(try simp[h])<;>(try omega)|refine Xg ?_|omega)
 refine Yv (Jx) fun m hm=>?_
 simp
 (with_reducible repeat' first|refine Xk ?_<;>try simp|refine Xs ?_ ?_<;>intro h<;>(try intro h')<;>(try simp[h])<;>(try omega)|refine Xg ?_|omega)
 refine Yt (PE g hg l hc h0 m hm v gq hV) ?_
 simp
 have hz:=aal (m:=m) hc hV
 generalize zR g l m v=z at *
 have pr:z.length=v.length:=hz.len.trans gq.symm
 (with_reducible repeat' first|refine Xk ?_<;>try simp[pr]|refine Xs ?_ ?_<;>intro h<;>(try intro h')<;>(try simp[h,pr])<;>(try omega)|refine Xg ?_|omega)
 ·refine eE.e (0:Int) (fun y=>[(5,.b true),(7,fq v),(8,.ptr 3 0 0),(9,.i y)]) (fun y=>[.row 32 0 xs,.row 25 0 [.val (.int .u8 a0),.val (.int .u8 a1),.val (.int .u8 a2),.val (.int .u8 a3),.val (.int .u8 a4),.val (.int .u8 a5)],.row 47 0 (g.cells++(p.cells ++ [fe l,.b true])),.row 60 0 [dI z,.i 0]]) (fun y=>0≤y∧y≤v.length) (fun y=>(v.length-y).toNat) ?_ ?_
  ·simp
  rintro i ⟨i0,i1⟩
  dsimp only at i0 i1 ⊢
  by_cases hi:i<v.length
  ·have j':=hz.lo i i0 (by omega)
   have Dg:=hz.na i i0 (by omega)
   have Q6:=hz.fx i i0 (by omega)
   have h1:((gt v i).1=2∨(gt v i).2=0)→gt z i=0:=fun h=>Dg fun ha=>h.elim ha.1 ha.2
   have h2:(gt v i).1≠2→(gt v i).2≠0→1≤gt z i:=fun a b=>(Q6 ⟨a,b⟩).2
   have h3:(gt v i).1=2→(gt v i).2=0:=fun e=>by
    rcases hV i i0 (by omega)with⟨_,e2⟩|⟨_,⟨n,n1,e2,_⟩|⟨n,n1,e2,_⟩|⟨e2,_⟩⟩
    ·rw[e2]
    ·rw[e2]at e;exact absurd e (by simp)
    ·rw[e2]at e;exact absurd e (by simp)
    ·rw[e2]
   simp[hi]
   (with_reducible repeat' first|refine Xk ?_<;>try simp|refine Xs ?_ ?_<;>intro h<;>(try intro h')<;>(try simp[h])<;>(try omega)|refine Xg ?_|omega)
   all_goals
    refine LJ.e (i+1) ?_
    omega
  ·simp[hi]
   (with_reducible repeat' first|refine Xk ?_<;>try simp|refine Xs ?_ ?_<;>intro h<;>(try intro h')<;>(try simp[h])<;>(try omega)|refine Xg ?_|omega)
