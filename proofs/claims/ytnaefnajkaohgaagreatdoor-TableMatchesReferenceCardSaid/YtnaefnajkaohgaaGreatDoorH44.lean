/- 44 -/
import Derived.Test.YtnaefnajkaohgaaGreatDoorH43
set_option linter.all false
namespace Go.Proofs.YtnaefnajkaohgaaGreatDoor
open Go Go.AL Classical
set_option maxRecDepth 10000
set_option maxHeartbeats 16000000
theorem fg.s{T:gy}{f:FuncId}{args:List D}{dst:Option Nat}{s s':St}{K:St→Prop}(hs:s=s')(h:fg T f args dst s' K .mk):fg T f args dst s K .mk:=by subst hs;exact h
def f82(l:List eO)(h:0<l.length)(h2:l.length<2 ^ 40):Wf T 82 [fh l] [] (fun d H=>d = .eF 0 1 2 0 l.length∧H = [.row 58 1 (cl fS l)]):=by
 refine Yg Ga ?_
 simp[Ga]
 refine oA.i (a:=.b false) (by cases l with|nil=>exact absurd h (by simp)|cons a r=>rfl) ?_
 simp
 (with_reducible repeat' first|refine Xk ?_<;>try simp|refine Xs ?_ ?_<;>intro h<;>(try intro h')<;>(try simp[h])<;>try omega|refine Xg ?_|omega)
def VN(g:eH)(hg:fe g)(l:List Pos)(hc:jo g l)(h0:0<l.length)(v:List eO)(hv:v.length=l.length)(part:List Int)(hp:rm l.length part)(n:Int)(o:mG g l (eS g l) part n) :
  Wf T 45 [dG g,e7 l,fh v,dI part,.i n] [] (Is (.tup [fh (kG g l (eS g l) part n v (rep l.length)).2.1,.i (kG g l (eS g l) part n v (rep l.length)).1,.i 0])):=by
 have h9:=hc.len
 have hn:=o.bu
 have gK:=o.pl
 refine Yg yT ?_
 simp[yT]
 refine fg.inl oR rfl rfl (by simp[oR]) rfl ?_
 simp[oR]
 refine Yc (f52 g hg l hc h0) ?_
 simp
 (with_reducible repeat' first|refine Xk ?_<;>try simp|refine Xs ?_ ?_<;>intro h<;>(try intro h')<;>(try simp[h])<;>try omega|refine Xg ?_|omega)
 refine eN.s (by simp;rfl) ?_
 refine eN.e (0:Int) (fun y=>[(1,e7 l),(2,fh v),(3,dI part),(4,.i n),(13,.ptr 1 0 0),(15,.i (mU part y)),(34,dI part),(35,.i part.length),(36,.i y)]) (fun y=>[.row 41 0 g.cells,.row 148 0 [.eF 2 0 2 0 l.length,.eF 3 0 1 0 l.length,.i g.size,.sl 1 (g.next.map fI),dI g.gU,.sl 3 (g.kinds.map Kind.cells),.i g.ff,.b g.lg,dN 4 Clause.cells g.clauses,.i g.blocked,.i g.n9,e7 l,.sl 1 ((eS g l).map fN)],.row 58 0 (cl fS (List.replicate l.length (0,0))),.row 4 0 (cl fB (List.replicate l.length false))]) (fun y=>0≤y∧y≤part.length) (fun y=>(part.length-y).toNat) ?_ ?_
 ·simp
 rintro y ⟨y0,y1⟩
 by_cases hy:y<part.length
 ·have hpy:=hp y y0 hy
  simp[hy]
  (with_reducible repeat' first|refine Xk ?_<;>try simp|refine Xs ?_ ?_<;>intro h<;>(try intro h')<;>(try simp[h])<;>try omega|refine Xg ?_|omega)
  refine LJ.i (y+1) (by first|rfl|simp[Ag y0]) (by first|rfl|simp[Ag y0]) rfl rfl ?_
  omega
 ·simp[hy]
  (with_reducible repeat' first|refine Xk ?_<;>try simp|refine Xs ?_ ?_<;>intro h<;>(try intro h')<;>(try simp[h])<;>try omega|refine Xg ?_|omega)
  refine Yn (f82 v (by omega) (by omega)) ?_
  simp
  refine fg.s (by simp[hv];rfl) ?_
  refine fg.lK rfl rfl (f78 false (List.replicate l.length (0,0)) o [] v (rep l.length) hv (Dd _)) ?_
  rintro d H' ⟨rfl,rfl⟩
  have vU:=(zk o n hv (Dd _)).1.1
  generalize kG g l (eS g l) part n v (rep l.length)=r at *
  simp[H5,kK,vU]
def VA(g:eH)(hg:fe g)(l:List Pos)(hc:jo g l)(h0:0<l.length)(v:List eO)(hv:v.length=l.length)(part:List Int)(hp:rm l.length part)(n:Int)(o:mG g l (eS g l) part n) :
  Wf T 20 [dG g,e7 l,fh v,dI part,.i n] [] (Is (.agg [fh (kG g l (eS g l) part n v (rep l.length)).2.1,.i (kG g l (eS g l) part n v (rep l.length)).1,.i 0])):=by
 refine Yg yN ?_
 simp[yN]
 refine Yc (VN g hg l hc h0 v hv part hp n o) ?_
 simp
def UW{m:List Int}{l:List Pos}{p:List Int}(hp:p∈mP m l):rm l.length p:=fun k k0 k1=>by
 obtain⟨n,hn,rfl⟩:=ao.1 hp
 have h1:=(Iy.1 (eQ k0 k1)).1
 refine⟨?_,h1.2⟩
 by_cases e:k=0
 ·subst e;rw[yi];omega
 ·unfold mU
  rw[if_neg e]
  have hs:=Pe m l n
  have:=(aV.1 hs) (k-1).toNat k.toNat (by omega) (by omega) (by omega)
  rwa [← mw (by omega) (by omega),← mw k0 k1]at this
end Go.Proofs.YtnaefnajkaohgaaGreatDoor
namespace Go.Proofs.YtnaefnajkaohgaaGreatDoor
open Go Go.AL Classical
set_option maxRecDepth 10000
set_option maxHeartbeats 16000000
attribute [-simp] Ip
def IB{s:Int}(h:0≤s∧s<9223372036854775808):IntKind.i64.wrap (tV .u64 (IntKind.u64.wrap s) 1)=s / 2:=by
 have h1:IntKind.u64.wrap s=s:=by
  unfold IntKind.wrap
  simp only[show IntKind.u64.signed=false from rfl,show IntKind.u64.bits=64 from rfl]
  simp
  omega
 have h2:tV .u64 s 1=s / 2:=Int.fdiv_eq_ediv_of_nonneg s (by decide)
 rw[h1,h2]
 exact pf oO
section
variable{X0 X1 X2 X4 X5 X6 X7 X8:Ob}{v:List eO}{N:Nat}{L0:List Int}
def f158(hv:∀ k:Int,0≤k→k<v.length→0≤(gt v k).2∧(gt v k).2≤4000)(h9:N≤4000)(tm:L0.length=N)(xw:∀ x∈L0,0≤x∧x<v.length):∀ (w:Nat) (L:List Int) (_:jY L0 L) (a m b:Int) (_:0≤a∧a<m∧m<b∧b≤N) (_:(b-a).toNat≤w),
  Wf T 158 [.eF 9 0 1 0 N,.i a,.i m,.i b,.fn (.func 72) [] [.ptr 3 0 0]] [X0,X1,X2,.row 52 0 [fh v],X4,X5,X6,X7,X8,.row 3 0 (cl f1 L)] (fun d H'=>d = .tup []∧∃ L',jY L0 L'∧H' = [X0,X1,X2,.row 52 0 [fh v],X4,X5,X6,X7,X8,.row 3 0 (cl f1 L')]):=by
 intro w
 induction w with
 | zero=>intro L _ a m b h h2;omega
 | succ w ih=>
 intro L hS a m b h hw
 have hN:=hS.1.trans tm
 have hL:=hS.Df xw
 refine Yg Eu ?_
 simp[Eu]
 by_cases h1:m-a=1
 ·simp[h1]
  (with_reducible repeat' first|refine Xk ?_<;>try simp|refine Xs ?_ ?_<;>intro h<;>(try intro h')<;>(try simp[h])<;>try omega|refine Xg ?_|omega)
  refine eN.e ((m,b):Int×Int) (fun y=>[(0,.eF 9 0 1 0 N),(1,.i a),(4,.fn (.func 72) [] [.ptr 3 0 0]),(10,.i y.1),(11,.i y.2)]) (fun y=>[X0,X1,X2,.row 52 0 [fh v],X4,X5,X6,X7,X8,.row 3 0 (cl f1 L)]) (fun y=>m≤y.1∧y.1≤y.2∧y.2≤b) (fun y=>(y.2-y.1).toNat) ?_ ?_
  ·exact l4
  rintro⟨i,j⟩ ⟨i0,i1,i2⟩
  dsimp only at i0 i1 i2 ⊢
  by_cases oZ:i<j
  ·have xN:=IB (s:=i+j) (by omega)
   have hc:i≤(i+j) / 2∧(i+j) / 2<j:=by omega
   simp[oZ,xN]
   generalize (i+j) / 2=c at *
   have r1:=hL (gt L c) (eQ (by omega) (by omega))
   have r2:=hL (gt L a) (eQ (by omega) (by omega))
   (with_reducible repeat' first|refine Xk ?_<;>try simp|refine Xs ?_ ?_<;>intro h<;>(try intro h')<;>(try simp[h])<;>try omega|refine Xg ?_|omega)
   refine gQ.r rfl rfl (f72 v hv (gt L c) (gt L a) r1 r2) (by simp) (by simp[flat]) (by simp) ?_
   simp
   (with_reducible repeat' first|refine Xk ?_<;>try simp|refine Xs ?_ ?_<;>intro h<;>(try intro h')<;>(try simp[h])<;>try omega|refine Xg ?_|omega)
   ·refine LJ.e (c+1,j) ?_
    exact CY
   ·refine LJ.e (i,c) ?_
    exact CY
  ·simp[oZ]
   refine eN.s (by simp;rfl) ?_
   refine eN.e ((a,L):Int×List Int) (fun y=>[(0,.eF 9 0 1 0 N),(10,.i i),(13,.i y.1)]) (fun y=>[X0,X1,X2,.row 52 0 [fh v],X4,X5,X6,X7,X8,.row 3 0 (cl f1 y.2)]) (fun y=>a≤y.1∧jY L0 y.2) (fun y=>(i-y.1).toNat) ?_ ?_
   ·exact nj hS
   rintro⟨k,M⟩ ⟨k0,hM⟩
   dsimp only at k0 hM ⊢
   have hl:=hM.1
   by_cases hk:k<i-1
   ·have uP:(pt M k (gt M (k+1))).length=M.length:=gN (by omega) (by omega)
    have hs:=jY.swap (L:=M) (i:=k) (j:=k+1) (by omega) (by omega) (by omega) (by omega)
    simp[hk]
    (with_reducible repeat' first|refine Xk ?_<;>try simp|refine Xs ?_ ?_<;>intro h<;>(try intro h')<;>(try simp[h])<;>try omega|refine Xg ?_|omega)
    refine LJ.e (k+1,pt (pt M k (gt M (k+1))) (k+1) (gt M k)) ?_
    exact nk (hM.trans hs)
   ·simp[hk]
    (with_reducible repeat' first|refine Xk ?_<;>try simp|refine Xs ?_ ?_<;>intro h<;>(try intro h')<;>(try simp[h])<;>try omega|refine Xg ?_|omega)
    exact⟨M,hM,rfl⟩
 by_cases h2:b-m=1
 ·simp[h1,h2]
  (with_reducible repeat' first|refine Xk ?_<;>try simp|refine Xs ?_ ?_<;>intro h<;>(try intro h')<;>(try simp[h])<;>try omega|refine Xg ?_|omega)
  refine eN.e ((a,m):Int×Int) (fun y=>[(0,.eF 9 0 1 0 N),(2,.i m),(4,.fn (.func 72) [] [.ptr 3 0 0]),(14,.i y.1),(15,.i y.2)]) (fun y=>[X0,X1,X2,.row 52 0 [fh v],X4,X5,X6,X7,X8,.row 3 0 (cl f1 L)]) (fun y=>a≤y.1∧y.1≤y.2∧y.2≤m) (fun y=>(y.2-y.1).toNat) ?_ ?_
  ·exact l4
  rintro⟨i,j⟩ ⟨i0,i1,i2⟩
  dsimp only at i0 i1 i2 ⊢
  by_cases oZ:i<j
  ·have xN:=IB (s:=i+j) (by omega)
   have hc:i≤(i+j) / 2∧(i+j) / 2<j:=by omega
   simp[oZ,xN]
   generalize (i+j) / 2=c at *
   have r1:=hL (gt L m) (eQ (by omega) (by omega))
   have r2:=hL (gt L c) (eQ (by omega) (by omega))
   (with_reducible repeat' first|refine Xk ?_<;>try simp|refine Xs ?_ ?_<;>intro h<;>(try intro h')<;>(try simp[h])<;>try omega|refine Xg ?_|omega)
   refine gQ.r rfl rfl (f72 v hv (gt L m) (gt L c) r1 r2) (by simp) (by simp[flat]) (by simp) ?_
   simp
   (with_reducible repeat' first|refine Xk ?_<;>try simp|refine Xs ?_ ?_<;>intro h<;>(try intro h')<;>(try simp[h])<;>try omega|refine Xg ?_|omega)
   ·refine LJ.e (i,c) ?_
    exact CY
   ·refine LJ.e (c+1,j) ?_
    exact CY
  ·simp[oZ]
   refine eN.s (by simp;rfl) ?_
   refine eN.e ((m,L):Int×List Int) (fun y=>[(0,.eF 9 0 1 0 N),(14,.i i),(17,.i y.1)]) (fun y=>[X0,X1,X2,.row 52 0 [fh v],X4,X5,X6,X7,X8,.row 3 0 (cl f1 y.2)]) (fun y=>i≤y.1∧y.1≤m∧jY L0 y.2) (fun y=>(y.1-i).toNat) ?_ ?_
   ·exact nk hS
   rintro⟨k,M⟩ ⟨k0,k1,hM⟩
   dsimp only at k0 k1 hM ⊢
   have hl:=hM.1
   by_cases hk:i<k
   ·obtain⟨q,rfl⟩:∃ q,k=q+1:=⟨k-1,by omega⟩
    have uP:(pt M (q+1) (gt M q)).length=M.length:=gN (by omega) (by omega)
    have hs:=jY.swap (L:=M) (i:=q+1) (j:=q) (by omega) (by omega) (by omega) (by omega)
    simp[hk]
    (with_reducible repeat' first|refine Xk ?_<;>try simp|refine Xs ?_ ?_<;>intro h<;>(try intro h')<;>(try simp[h])<;>try omega|refine Xg ?_|omega)
    refine LJ.e (q,pt (pt M (q+1) (gt M q)) q (gt M (q+1))) ?_
    exact eY (hM.trans hs)
   ·simp[hk]
    (with_reducible repeat' first|refine Xk ?_<;>try simp|refine Xs ?_ ?_<;>intro h<;>(try intro h')<;>(try simp[h])<;>try omega|refine Xg ?_|omega)
    exact⟨M,hM,rfl⟩
 have xN:=IB (s:=a+b) (by omega)
 have hmd:a<(a+b) / 2∧(a+b) / 2<b:=by omega
 simp[h1,h2,xN]
 (with_reducible repeat' first|refine Xk ?_<;>try simp[xN]|refine Xs ?_ ?_<;>intro h<;>(try intro h')<;>(try simp[h,xN])<;>try omega|refine Xg ?_|omega)
 case' neg.refine_2=>refine eN.e ((a,m):Int×Int) (fun y=>[(0,.eF 9 0 1 0 N),(1,.i a),(2,.i m),(3,.i b),(4,.fn (.func 72) [] [.ptr 3 0 0]),(18,.i ((a+b) / 2)),(19,.i ((a+b) / 2+m)),(20,.i y.1),(21,.i y.2),(22,.i ((a+b) / 2+m-1))]) (fun y=>[X0,X1,X2,.row 52 0 [fh v],X4,X5,X6,X7,X8,.row 3 0 (cl f1 L)]) (fun y=>a≤y.1∧y.1≤y.2∧y.2≤(a+b) / 2∧(a+b) / 2+m-y.1≤b) (fun y=>(y.2-y.1).toNat) ?_ ?_
 case' neg.refine_1=>refine eN.e (((a+b) / 2+m-b,(a+b) / 2):Int×Int) (fun y=>[(0,.eF 9 0 1 0 N),(1,.i a),(2,.i m),(3,.i b),(4,.fn (.func 72) [] [.ptr 3 0 0]),(18,.i ((a+b) / 2)),(19,.i ((a+b) / 2+m)),(20,.i y.1),(21,.i y.2),(22,.i ((a+b) / 2+m-1))]) (fun y=>[X0,X1,X2,.row 52 0 [fh v],X4,X5,X6,X7,X8,.row 3 0 (cl f1 L)]) (fun y=>a≤y.1∧y.1≤y.2∧y.2≤(a+b) / 2∧(a+b) / 2+m-y.1≤b) (fun y=>(y.2-y.1).toNat) ?_ ?_
 all_goals first|exact CY|skip
 all_goals
  rintro⟨s,r⟩ ⟨s0,s1,s2,s3⟩
  dsimp only at s0 s1 s2 s3 ⊢
  by_cases Qz:s<r
  ·have XU:=IB (s:=s+r) (by omega)
   have hc:s≤(s+r) / 2∧(s+r) / 2<r:=by omega
   simp[Qz,XU]
   generalize (s+r) / 2=c at *
   generalize (a+b) / 2=md at *
   have r1:=hL (gt L (md+m-1-c)) (eQ (by omega) (by omega))
   have r2:=hL (gt L c) (eQ (by omega) (by omega))
   (with_reducible repeat' first|refine Xk ?_<;>try simp|refine Xs ?_ ?_<;>intro h<;>(try intro h')<;>(try simp[h])<;>try omega|refine Xg ?_|omega)
   refine gQ.r rfl rfl (f72 v hv (gt L (md+m-1-c)) (gt L c) r1 r2) (by simp) (by simp[flat]) (by simp) ?_
   simp
   (with_reducible repeat' first|refine Xk ?_<;>try simp|refine Xs ?_ ?_<;>intro h<;>(try intro h')<;>(try simp[h])<;>try omega|refine Xg ?_|omega)
   ·refine LJ.e (s,c) ?_
    exact Sb
   ·refine LJ.e (c+1,r) ?_
    exact Sb
  ·generalize (a+b) / 2=md at *
   simp[Qz]
   (with_reducible repeat' first|refine Xk ?_<;>try simp|refine Xs ?_ ?_<;>intro h<;>(try intro h')<;>(try simp[h])<;>try omega|refine Xg ?_|omega)
   repeat' first
    | exact⟨L,hS,rfl⟩
    | ((try refine fg.s (by simp;rfl) ?_);refine fg.lK rfl rfl (f196 L hN h9 s m (md+m-s) (by omega)) ?_;rintro _ H' ⟨rfl,M,hM,rfl⟩;replace hS:=hS.trans hM;replace hN:=hS.1.trans tm;clear hM hL;revert hS hN;generalize M=L;intro hS hN;simp;(with_reducible repeat' first|refine Xk ?_<;>try simp|refine Xs ?_ ?_<;>intro h<;>(try intro h')<;>(try simp[h])<;>try omega|refine Xg ?_|omega))
    | ((try refine fg.s (by simp;rfl) ?_);refine fg.lK rfl rfl (ih L hS a s md (by omega) (by omega)) ?_;rintro _ H' ⟨rfl,M,hS,rfl⟩;clear hN;(try clear hL);revert hS;generalize M=L;intro hS;have hN:=hS.1.trans tm;simp;(with_reducible repeat' first|refine Xk ?_<;>try simp|refine Xs ?_ ?_<;>intro h<;>(try intro h')<;>(try simp[h])<;>try omega|refine Xg ?_|omega))
    | ((try refine fg.s (by simp;rfl) ?_);refine fg.lK rfl rfl (ih L hS md (md+m-s) b (by omega) (by omega)) ?_;rintro _ H' ⟨rfl,M,hS,rfl⟩;clear hN;(try clear hL);revert hS;generalize M=L;intro hS;have hN:=hS.1.trans tm;simp;(with_reducible repeat' first|refine Xk ?_<;>try simp|refine Xs ?_ ?_<;>intro h<;>(try intro h')<;>(try simp[h])<;>try omega|refine Xg ?_|omega))
end
end Go.Proofs.YtnaefnajkaohgaaGreatDoor
namespace Go.Proofs.YtnaefnajkaohgaaGreatDoor
open Go Go.AL Classical
set_option maxRecDepth 10000
set_option maxHeartbeats 16000000
attribute [-simp] Ip
section
variable{X0 X1 X2 X4 X5 X6 X7 X8:Ob}{v:List eO}{N:Nat}{L0:List Int}
def f113(hv:∀ k:Int,0≤k→k<v.length→0≤(gt v k).2∧(gt v k).2≤4000)(h9:N≤4000)(tm:L0.length=N)(xw:∀ x∈L0,0≤x∧x<v.length):Wf T 113 [.eF 9 0 1 0 N,.i N,.fn (.func 72) [] [.ptr 3 0 0]] [X0,X1,X2,.row 52 0 [fh v],X4,X5,X6,X7,X8,.row 3 0 (cl f1 L0)] (fun d H'=>d = .tup []∧∃ L',jY L0 L'∧H' = [X0,X1,X2,.row 52 0 [fh v],X4,X5,X6,X7,X8,.row 3 0 (cl f1 L')]):=by
 refine Yg DW ?_
 simp[DW]
 (with_reducible repeat' first|refine Xk ?_<;>try simp|refine Xs ?_ ?_<;>intro h<;>(try intro h')<;>(try simp[h])<;>try omega|refine Xg ?_|omega)
 refine eN.e ((0,L0):Int×List Int) (fun y=>[(0,.eF 9 0 1 0 N),(1,.i N),(2,.fn (.func 72) [] [.ptr 3 0 0]),(6,.i 20),(7,.i y.1),(8,.i (y.1+20))]) (fun y=>[X0,X1,X2,.row 52 0 [fh v],X4,X5,X6,X7,X8,.row 3 0 (cl f1 y.2)]) (fun y=>0≤y.1∧y.1≤4000∧jY L0 y.2) (fun y=>(N-y.1).toNat) ?_ ?_
 ·exact⟨by simp,by simp,jY.refl _⟩
 rintro⟨a,L⟩ ⟨a0,a1,hS⟩
 dsimp only at a0 a1 hS ⊢
 have hN:=hS.1.trans tm
 have hL:=hS.Df xw
 by_cases hb:a+20≤N
 ·simp[hb]
  (with_reducible repeat' first|refine Xk ?_<;>try simp|refine Xs ?_ ?_<;>intro h<;>(try intro h')<;>(try simp[h])<;>try omega|refine Xg ?_|omega)
  refine fg.lK rfl rfl (f157 hv h9 L hN hL a (a+20)) ?_
  rintro _ H' ⟨rfl,M,hM,rfl⟩
  simp
  (with_reducible repeat' first|refine Xk ?_<;>try simp|refine Xs ?_ ?_<;>intro h<;>(try intro h')<;>(try simp[h])<;>try omega|refine Xg ?_|omega)
  refine LJ.e (a+20,M) ?_
  exact eY (hS.trans hM)
 simp[hb]
 refine fg.s (by simp;rfl) ?_
 refine fg.lK rfl rfl (f157 hv h9 L hN hL a N) ?_
 rintro _ H' ⟨rfl,M,hM,rfl⟩
 replace hS:=hS.trans hM
 clear hM hN hL
 simp
 refine eN.e ((20,M):Int×List Int) (fun y=>[(0,.eF 9 0 1 0 N),(1,.i N),(2,.fn (.func 72) [] [.ptr 3 0 0]),(6,.i y.1)]) (fun y=>[X0,X1,X2,.row 52 0 [fh v],X4,X5,X6,X7,X8,.row 3 0 (cl f1 y.2)]) (fun y=>20≤y.1∧y.1≤8000∧jY L0 y.2) (fun y=>(N-y.1).toNat) ?_ ?_
 ·exact⟨by simp,by simp,hS⟩
 clear hS a0 a1 hb
 rintro⟨bs,L⟩ ⟨b0,b1,hS⟩
 dsimp only at b0 b1 hS ⊢
 by_cases hb:bs<N
 ·simp[hb]
  (with_reducible repeat' first|refine Xk ?_<;>try simp|refine Xs ?_ ?_<;>intro h<;>(try intro h')<;>(try simp[h])<;>try omega|refine Xg ?_|omega)
  refine eN.e ((0,L):Int×List Int) (fun y=>[(0,.eF 9 0 1 0 N),(1,.i N),(2,.fn (.func 72) [] [.ptr 3 0 0]),(6,.i bs),(7,.i y.1),(8,.i (y.1+2*bs))]) (fun y=>[X0,X1,X2,.row 52 0 [fh v],X4,X5,X6,X7,X8,.row 3 0 (cl f1 y.2)]) (fun y=>0≤y.1∧y.1≤N∧jY L0 y.2) (fun y=>(N-y.1).toNat) ?_ ?_
  ·exact⟨by simp,by dsimp only;omega,hS⟩
  clear hS
  rintro⟨a,L⟩ ⟨a0,a1,hS⟩
  dsimp only at a0 a1 hS ⊢
  by_cases ha:a+2*bs≤N
  ·simp[ha]
   (with_reducible repeat' first|refine Xk ?_<;>try simp|refine Xs ?_ ?_<;>intro h<;>(try intro h')<;>(try simp[h])<;>try omega|refine Xg ?_|omega)
   refine fg.lK rfl rfl (f158 hv h9 tm xw _ L hS a (a+bs) (a+2*bs) (by omega) (Nat.le_refl _)) ?_
   rintro _ H' ⟨rfl,M,hM,rfl⟩
   simp
   (with_reducible repeat' first|refine Xk ?_<;>try simp|refine Xs ?_ ?_<;>intro h<;>(try intro h')<;>(try simp[h])<;>try omega|refine Xg ?_|omega)
   refine LJ.e (a+2*bs,M) ?_
   exact eY hM
  ·simp[ha]
   (with_reducible repeat' first|refine Xk ?_<;>try simp|refine Xs ?_ ?_<;>intro h<;>(try intro h')<;>(try simp[h])<;>try omega|refine Xg ?_|omega)
   ·refine fg.s (by simp;rfl) ?_
    refine fg.lK rfl rfl (f158 hv h9 tm xw _ L hS a (a+bs) N (by omega) (Nat.le_refl _)) ?_
    rintro _ H' ⟨rfl,M,hM,rfl⟩
    simp
    (with_reducible repeat' first|refine Xk ?_<;>try simp|refine Xs ?_ ?_<;>intro h<;>(try intro h')<;>(try simp[h])<;>try omega|refine Xg ?_|omega)
    refine LJ.e (bs*2,M) ?_
    exact eY hM
   ·refine LJ.e (bs*2,L) ?_
    exact eY hS
 ·simp[hb]
  exact⟨L,hS,rfl⟩
def f71(hv:∀ k:Int,0≤k→k<v.length→0≤(gt v k).2∧(gt v k).2≤4000)(h9:N≤4000)(tm:L0.length=N)(xw:∀ x∈L0,0≤x∧x<v.length):Wf T 71 [.eF 9 0 1 0 N,.fn (.func 72) [] [.ptr 3 0 0]] [X0,X1,X2,.row 52 0 [fh v],X4,X5,X6,X7,X8,.row 3 0 (cl f1 L0)] (fun d H'=>d = .tup []∧∃ L',jY L0 L'∧H' = [X0,X1,X2,.row 52 0 [fh v],X4,X5,X6,X7,X8,.row 3 0 (cl f1 L')]):=by
 refine Yg FZ ?_
 simp[FZ]
 refine fg.lK rfl rfl (f113 hv h9 tm xw) ?_
 rintro _ H' ⟨rfl,M,hM,rfl⟩
 simp
 exact⟨M,hM,rfl⟩
end
end Go.Proofs.YtnaefnajkaohgaaGreatDoor
namespace Go.Proofs.YtnaefnajkaohgaaGreatDoor
open Go Go.AL Classical
set_option maxRecDepth 10000
set_option maxHeartbeats 8000000
theorem RL{v:List eO}{o b:Int}{r:Int→Int}{x:List Int}(hr:∀ k∈x,0≤r k∧r k≤b)(hb:0≤b):∀ n:Nat,n≤x.length→-1≤jD v o r x n∧jD v o r x n≤b
 | 0,_=>⟨by simp[jD],by rw[jD];omega⟩
 | n+1,h=>by
  have ih:=RL (v:=v) (o:=o) hr hb n (by omega)
  have:=hr _ (eQ (l:=x) (n:=(n:Int)) (by omega) (by omega))
  rw[jD]
  split
  ·omega
  ·split<;>omega
def aaM{v:List eO}{o:Int}{r:Int→Int}{x:List Int}{i:Int}(i0:0≤i):jD v o r x (i+1).toNat=if o=3 then max (jD v o r x i.toNat) (r (gt x i))else if (gt v (gt x i)).1=3∧(jD v o r x i.toNat<0∨r (gt x i)<jD v o r x i.toNat)then r (gt x i)else jD v o r x i.toNat:=by
 have h:(i+1).toNat=i.toNat+1:=by omega
 have h2:((i.toNat:Nat):Int)=i:=by omega
 rw[h,jD,h2]
@[local simp] theorem anH(v:List eO)(o:Int)(r:Int→Int)(x:List Int):jD v o r x 0 = -1:=rfl
theorem f74(g:eH)(hg:fe g)(m:List Int)(hm:kD g m)(p q:Pos)(hp:fO g p)(hq:fO g q):Wf T 74 [.agg [dI m],dP p,dP q] [] (Is (.b (decide (gM m q<gM m p)))):=by
 refine Yg F4 ?_
 simp[F4]
 refine Yt (f114 hg hm hq) ?_
 simp
 refine Yt (f114 hg hm hp) ?_
 simp
section
variable{g:eH}{m:List Int}{l:List Pos}{out:List Int}
def f73(hg:fe g)(hm:kD g m)(hl:∀ p∈l,fO g p)(ho:out.length=l.length)(i q:Int)(hi:0≤i∧i<l.length)(hq:0≤q∧q<l.length):Wf T 73 [.i i,.i q,.eW [dI m],.eW [e7 l],.eW [dI out]] [] (Is (.i (lu m l out i q))):=by
 refine Yg F1 ?_
 simp[F1]
 (with_reducible repeat' first|refine Xk ?_<;>try simp|refine Xs ?_ ?_<;>intro h<;>(try intro h')<;>(try simp[h])<;>try omega|refine Xg ?_|omega)
 refine Yt (f74 g hg m hm (gt l i) (gt l q) (hl _ (eQ hi.1 hi.2)) (hl _ (eQ hq.1 hq.2))) ?_
 simp
 unfold lu
 (with_reducible repeat' first|refine Xk ?_<;>try simp|refine Xs ?_ ?_<;>intro h<;>(try intro h')<;>(try simp[h])<;>try omega|refine Xg ?_|omega)
def f76(hg:fe g)(hm:kD g m)(hl:∀ p∈l,fO g p)(ho:out.length=l.length)(i q:Int)(hi:0≤i∧i<l.length)(hq:0≤q∧q<l.length):Wf T 76 [.i q,.eW [.fn (.func 73) [] [.eW [dI m],.eW [e7 l],.eW [dI out]]],.eW [.i i]] [] (Is (.i (lu m l out i q))):=by
 refine Yg F6 ?_
 simp[F6]
 refine Yc (f73 hg hm hl ho i q hi hq) ?_
 simp
def f75(hg:fe g)(hm:kD g m)(hl:∀ p∈l,fO g p)(ho:out.length=l.length)(hlen:l.length≤4000)(h4:∀ k:Int,0≤k→k<l.length→0≤gt out k∧gt out k≤4000)(v:List eO)(hv:v.length=l.length)(x:List Int)(hx:∀ k∈x,0≤k∧k<l.length)(oK:x.length≤4000000000)(i:Int)(hi:0≤i∧i<l.length) :
  Wf T 75 [dI x,fh v,.i i,.fn (.func 76) [] [.eW [.fn (.func 73) [] [.eW [dI m],.eW [e7 l],.eW [dI out]]],.eW [.i i]]] [] (Is (.i (pJ v (gt v i).1 (lu m l out i) x))):=by
 have hr:∀ k∈x,0≤lu m l out i k∧lu m l out i k≤4000:=fun k hk=>by
  have:=h4 k (hx k hk).1 (hx k hk).2
  unfold lu;split<;>omega
 refine Yg F5 ?_
 simp[F5]
 refine eN.e (0:Int) (fun y=>[(1,fh v),(2,.i i),(3,.fn (.func 76) [] [.eW [.fn (.func 73) [] [.eW [dI m],.eW [e7 l],.eW [dI out]]],.eW [.i i]]),(9,.i (jD v (gt v i).1 (lu m l out i) x y.toNat)),(13,dI x),(14,.i x.length),(15,.i y)]) (fun y=>[]) (fun y=>0≤y∧y≤x.length) (fun y=>(x.length-y).toNat) ?_ ?_
 ·simp
 rintro j ⟨j0,j1⟩
 dsimp only at j0 j1 ⊢
 have ft:=RL (v:=v) (o:=(gt v i).1) hr (by omega) j.toNat (by omega)
 by_cases hj:j<x.length
 ·have hk:=hx _ (eQ j0 hj)
  have hs:=aaM (v:=v) (o:=(gt v i).1) (r:=lu m l out i) (x:=x) j0
  simp[hj]
  (with_reducible repeat' first|refine Xk ?_<;>try simp|refine Xs ?_ ?_<;>intro h<;>(try intro h')<;>(try simp[h])<;>try omega|refine Xg ?_|omega)
  refine Yc (f76 hg hm hl ho i (gt x j) hi hk) ?_
  simp
  (with_reducible repeat' first|refine Xk ?_<;>try simp|refine Xs ?_ ?_<;>intro h<;>(try intro h')<;>(try simp[h])<;>try omega|refine Xg ?_|omega)
  ·rw[h,if_pos rfl]at hs
   refine LJ.i (j+1) (by first|rfl|simp[hs,h]) (by first|rfl|simp[hs,h]) rfl rfl ?_
   omega
  all_goals
   refine LJ.i (j+1) (by first|rfl|simp[hs, *]) (by first|rfl|simp[hs, *]) rfl rfl ?_
   omega
 ·have uM:j=x.length:=by omega
  subst uM
  simp at ft
  simp
  (with_reducible repeat' first|refine Xk ?_<;>try simp|refine Xs ?_ ?_<;>intro h<;>(try intro h')<;>(try simp[h])<;>try omega|refine Xg ?_|omega)
  simp[pJ]
end
end Go.Proofs.YtnaefnajkaohgaaGreatDoor
namespace Go.Proofs.YtnaefnajkaohgaaGreatDoor
open Go Go.AL Classical
set_option maxRecDepth 10000
set_option maxHeartbeats 16000000
def VK(g:eH)(hg:fe g)(l:List Pos)(hc:jo g l)(h0:0<l.length)(m:List Int)(hm:yZ g m)(v:List eO)(gV:v.length=l.length)(hV:∀ k:Int,0≤k→k<l.length→nB (pn g l (eS g l)) v k):Wf T 40 [dG g,.agg [dI m],e7 l,fh v] [] (Is (.tup [dI (zR g l m v),.i 0])):=by
 have hlen:=hc.len
 have Lj:=hm.ok
 have tw:(eS g l).length=l.length:=by simp[eS]
 have ft:=fun i i0 i1=>(mB hc (i:=i) i0 i1).2
 have ie:∀ k:Int,0≤k→k<l.length→(gt (eS g l) k).length≤4000000000:=fun k k0 k1=>by
  rw[(mB hc k0 k1).1,List.length_map]
  have:=tN hg (hc.ok _ (eQ k0 k1));omega
 have hb:∀ k:Int,0≤k→k<l.length→0≤(gt v k).2∧(gt v k).2≤4000:=fun k k0 k1=>by have:=Rp (A:=pn g l (eS g l)) ft hV k0 k1;omega
 have qM:∀ k:Int,0≤k→k<v.length→0≤(gt v k).2∧(gt v k).2≤4000:=fun k k0 k1=>hb k k0 (by omega)
 refine Yg FE ?_
 simp[FE]
 refine fg.inl oR rfl rfl (by simp[oR]) rfl ?_
 simp[oR]
 refine Yc (f52 g hg l hc h0) ?_
 simp
 (with_reducible repeat' first|refine Xk ?_<;>try simp|refine Xs ?_ ?_<;>intro h<;>(try intro h')<;>(try simp[h])<;>try omega|refine Xg ?_|omega)
 refine eN.e ((0,List.replicate l.length 0):Int×List Int) (fun y=>[(5,.ptr 1 0 0),(6,.ptr 2 0 0),(7,.ptr 3 0 0),(10,.ptr 4 0 0),(12,.ptr 8 0 0),(13,.eF 9 0 1 0 l.length),(42,.i l.length),(43,.i y.1)]) (fun y=>[.row 41 0 g.cells,.row 50 0 [dI m],.row 45 0 [e7 l],.row 52 0 [fh v],.row 148 0 [.eF 5 0 2 0 l.length,.eF 6 0 1 0 l.length,.i g.size,.sl 1 (g.next.map fI),dI g.gU,.sl 3 (g.kinds.map Kind.cells),.i g.ff,.b g.lg,dN 4 Clause.cells g.clauses,.i g.blocked,.i g.n9,e7 l,.sl 1 ((eS g l).map fN)],.row 58 0 (cl fS (List.replicate l.length (0,0))),.row 4 0 (cl fB (List.replicate l.length false)),.row 3 0 (cl f1 (List.replicate l.length 0)),.row 33 0 [.eF 7 0 1 0 l.length],.row 3 0 (cl f1 y.2)]) (fun y=>0≤y.1∧y.1≤l.length∧y.2.length=l.length∧∀ k:Int,0≤k→k<y.1→gt y.2 k=k) (fun y=>(l.length-y.1).toNat) ?_ ?_
 ·exact⟨by simp,by simp,by simp,fun k k0 k1=>by dsimp only at k1;omega⟩
 rintro⟨i,od⟩ ⟨i0,i1,i2,i3⟩
 dsimp only at i0 i1 i2 i3 ⊢
 by_cases hi:i<l.length
 ·have gK:=gN (v:=i) i0 (by omega:i<od.length)
  simp[hi]
  (with_reducible repeat' first|refine Xk ?_<;>try simp|refine Xs ?_ ?_<;>intro h<;>(try intro h')<;>(try simp[h])<;>try omega|refine Xg ?_|omega)
  refine LJ.e (i+1,pt od i i) ?_
  refine qx (fun k k0 k1=>?_)
  dsimp only at k1 ⊢
  rw[pz i0 (by omega) k0]
  split
  ·rename_i e;exact e.symm
  ·exact i3 k k0 (by omega)
 have kT:i=l.length:=by omega
 subst kT
 have Ln:∀ x∈od,0≤x∧x<v.length:=fun x hx=>by
  obtain⟨k,k0,k1,e⟩:=pc.1 hx
  rw[i3 k k0 (by omega)]at e
  omega
 have iF:∀ k:Int,0≤k→k<l.length→k∈od:=fun k k0 k1=>pc.2 ⟨k,k0,by omega,i3 k k0 k1⟩
 simp
 (try refine fg.s (by simp;rfl) ?_)
 refine fg.lK rfl rfl (f71 qM (by omega) i2 Ln) ?_
 rintro _ H' ⟨rfl,p5,hs,rfl⟩
 have Ye:=hs.Df Ln
 have WX:∀ k:Int,0≤k→k<l.length→k∈p5:=fun k k0 k1=>(hs.2 k).2 (iF k k0 k1)
 have zJ:p5.length=l.length:=hs.1.trans i2
 clear Ln iF i3 hs i2 i0 i1 hi
 simp
 (with_reducible repeat' first|refine Xk ?_<;>try simp|refine Xs ?_ ?_<;>intro h<;>(try intro h')<;>(try simp[h])<;>try omega|refine Xg ?_|omega)
 (try refine eN.s (by simp;rfl) ?_)
 refine eN.e ((true,List.replicate l.length 0):Bool×List Int) (fun y=>[(7,.ptr 3 0 0),(10,.ptr 4 0 0),(12,.ptr 8 0 0),(13,.eF 9 0 1 0 l.length),(15,.ptr 10 0 0),(16,.b y.1)]) (fun y=>[.row 41 0 g.cells,.row 50 0 [dI m],.row 45 0 [e7 l],.row 52 0 [fh v],.row 148 0 [.eF 5 0 2 0 l.length,.eF 6 0 1 0 l.length,.i g.size,.sl 1 (g.next.map fI),dI g.gU,.sl 3 (g.kinds.map Kind.cells),.i g.ff,.b g.lg,dN 4 Clause.cells g.clauses,.i g.blocked,.i g.n9,e7 l,.sl 1 ((eS g l).map fN)],.row 58 0 (cl fS (List.replicate l.length (0,0))),.row 4 0 (cl fB (List.replicate l.length false)),.row 3 0 (cl f1 y.2),.row 33 0 [.eF 7 0 1 0 l.length],.row 3 0 (cl f1 p5),.row 138 0 [.fn (.func 73) [] [.ptr 1 0 0,.ptr 2 0 0,.ptr 8 0 0]]]) (fun y=>ZI g l m v y.2∧(y.1=false→∀ i:Int,0≤i→i<l.length→Act v i→mC g l m v y.2 i=gt y.2 i)) (fun y=>2*sP v y.2 l.length+(if y.1 then 1 else 0)) ?_ ?_
 ·exact⟨ZI.start hc hV,fun h=>by cases h⟩
 rintro⟨ch,out⟩ ⟨hZ,hE⟩
 dsimp only at hZ hE ⊢
 cases ch
 ·have hF:=hZ.done hc hV (hE rfl)
  have uU:=hZ.len
  have e:=ag9 hF
  simp
  (with_reducible repeat' first|refine Xk ?_<;>try simp|refine Xs ?_ ?_<;>intro h<;>(try intro h')<;>(try simp[h])<;>try omega|refine Xg ?_|omega)
  simp[uU]
  rw[← e]
 ·simp
  refine eN.e ((0,false,out):Int×Bool×List Int) (fun y=>[(7,.ptr 3 0 0),(10,.ptr 4 0 0),(12,.ptr 8 0 0),(13,.eF 9 0 1 0 l.length),(15,.ptr 10 0 0),(16,.b y.2.1),(56,.eF 9 0 1 0 l.length),(57,.i l.length),(58,.i y.1)]) (fun y=>[.row 41 0 g.cells,.row 50 0 [dI m],.row 45 0 [e7 l],.row 52 0 [fh v],.row 148 0 [.eF 5 0 2 0 l.length,.eF 6 0 1 0 l.length,.i g.size,.sl 1 (g.next.map fI),dI g.gU,.sl 3 (g.kinds.map Kind.cells),.i g.ff,.b g.lg,dN 4 Clause.cells g.clauses,.i g.blocked,.i g.n9,e7 l,.sl 1 ((eS g l).map fN)],.row 58 0 (cl fS (List.replicate l.length (0,0))),.row 4 0 (cl fB (List.replicate l.length false)),.row 3 0 (cl f1 y.2.2),.row 33 0 [.eF 7 0 1 0 l.length],.row 3 0 (cl f1 p5),.row 138 0 [.fn (.func 73) [] [.ptr 1 0 0,.ptr 2 0 0,.ptr 8 0 0]]]) (fun y=>0≤y.1∧y.1≤l.length∧ZI g l m v y.2.2∧(y.2.1=false→y.2.2=out∧∀ j:Int,0≤j→j<y.1→Act v (gt p5 j)→mC g l m v out (gt p5 j)=gt out (gt p5 j))∧(y.2.1=true→sP v y.2.2 l.length<sP v out l.length)) (fun y=>(l.length-y.1).toNat) ?_ ?_
  ·exact⟨by simp,by simp,hZ,fun _=>⟨rfl,fun j j0 j1=>by dsimp only at j1;omega⟩,fun h=>by cases h⟩
  rintro⟨k,b,w⟩ ⟨k0,k1,hW,hn,hy⟩
  dsimp only at k0 k1 hW hn hy ⊢
  have oJ:=hW.len
  by_cases hk:k<l.length
  ·obtain⟨x0,x1⟩:=Ye _ (eQ k0 (by omega:k<p5.length))
   have Ud:=f75 hg Lj hc.ok oJ hlen (fun q q0 q1=>by have:=hW.lo q q0 q1;have:=hb q q0 q1;omega) v gV (gt (eS g l) (gt p5 k)) (ft _ x0 (by omega)) (ie _ x0 (by omega)) (gt p5 k) ⟨x0,by omega⟩
   have Qi:¬ Act v (gt p5 k)→b=false→w=out∧∀ j:Int,0≤j→j<k+1→Act v (gt p5 j)→mC g l m v out (gt p5 j)=gt out (gt p5 j):=fun h1 h2=>⟨(hn h2).1,fun j j0 j1 ha=>by
    by_cases e:j=k
    ·exact absurd (e▸ha) h1
    ·exact(hn h2).2 j j0 (by omega) ha⟩
   generalize hx:gt p5 k=x at *
   simp[hk,hx]
   (with_reducible repeat' first|refine Xk ?_<;>try simp|refine Xs ?_ ?_<;>intro h<;>(try intro h')<;>(try simp[h])<;>try omega|refine Xg ?_|omega)
   ·refine LJ.e (k+1,b,w) ?_
    exact⟨by dsimp only;omega,by dsimp only;omega,by dsimp only;omega,hW,Qi (fun ha=>ha.1 ‹_›),hy⟩
   ·refine LJ.e (k+1,b,w) ?_
    exact⟨by dsimp only;omega,by dsimp only;omega,by dsimp only;omega,hW,Qi (fun ha=>ha.2 ‹_›),hy⟩
   have ha:Act v x:=⟨‹_›,‹_›⟩
   have rP:=hW.step hc hV x0 (by omega) ha
   have rD:=CV hc hV hW x0 (by omega) ha
   have HX:=hW.pre x x0 (by omega) ha
   simp[sn]
   refine gQ.r rfl rfl Ud (by simp;exact⟨by rw[← Ji (NT hV x0 (by omega) ha),SY],by rw[py oJ.symm];rfl⟩) (by simp[flat]) (by simp) ?_
   simp
   (with_reducible repeat' first|refine Xk ?_<;>try simp|refine Xs ?_ ?_<;>intro h<;>(try intro h')<;>(try simp[h])<;>try omega|refine Xg ?_|omega)
   ·refine LJ.e (k+1,b,w) ?_
    refine⟨by dsimp only;omega,by dsimp only;omega,by dsimp only;omega,hW,fun h2=>⟨(hn h2).1,fun j j0 j1 hj=>?_⟩,hy⟩
    by_cases e:j=k
    ·rw[e,hx,← (hn h2).1];assumption
    ·exact(hn h2).2 j j0 (by dsimp only at j1;omega) hj
   ·refine LJ.e (k+1,true,pt w x (mC g l m v w x)) ?_
    have gw:gt w x<mC g l m v w x:=by
     have:mC g l m v w x≠gt w x := ‹_›
     omega
    have hs:=Jp (v:=v) x0 (by rw[oJ];omega) gw rD.2 l.length
    refine⟨by dsimp only;omega,by dsimp only;omega,by dsimp only;omega,rP,(fun h2=>by cases h2),fun _=>?_⟩
    dsimp only
    by_cases e:b=true
    ·have:=hy e;have:=hs.2 (by omega);omega
    ·have:=(hn (by simpa using e)).1;subst this;exact hs.2 (by omega)
  ·simp[hk]
   have Lb:k=l.length:=by omega
   subst Lb
   cases b
   ·obtain⟨rfl,h2⟩:=hn rfl
    refine LJ.e (false,w) ?_
    refine⟨by dsimp only;simp,hW,fun _ i i0 i1 ha=>?_⟩
    obtain⟨j,j0,j1,e⟩:=pc.1 (WX i i0 i1)
    have:=h2 j j0 (by omega) (by rw[e];exact ha)
    rwa [e]at this
   ·have:=hy rfl
    refine LJ.e (true,w) ?_
    exact⟨by dsimp only;simp;omega,hW,fun h2=>by cases h2⟩
set_option maxHeartbeats 4000000
def nb(b:List Bool):List Bool:=b.map (!·)
def tO(b:List Bool):(nb b).length=b.length:=by simp[nb]
def zn{b:List Bool}{k:Int}(k0:0≤k)(k1:k<b.length):gt (nb b) k = !gt b k:=by
 rw[mw k0 (by rw[tO];exact k1),mw k0 k1];unfold nb;rw[List.getElem_map]
def f79(b:List Bool)(part:List Int)(n:Int)(hp:∀ i∈part,0≤i∧i<b.length)(h9:part.length≤4000)(hb:b.length≤4000)(hn:1≤n∧n≤9223372036854775807):Wf T 79 [.sl 1 ((nb b).map fB),dI part,.i n] [] (Is (.i (lr b part n part.length).1)):=by
 have tw:=tO b
 refine Yg F9 ?_
 simp[F9]
 refine eN.e (0:Int) (fun y=>[(0,.sl 1 ((nb b).map fB)),(1,dI part),(2,.i n),(7,.i (lr b part n y.toNat).1),(8,.i (lr b part n y.toNat).2),(9,.i y)]) (fun y=>[]) (fun y=>0≤y∧y≤part.length) (fun y=>(part.length-y).toNat) ?_ ?_
 ·simp
 rintro i ⟨i0,i1⟩
 dsimp only at i0 i1 ⊢
 by_cases hi:i<part.length
 ·have iY:=Ri (b:=b) (part:=part) (n:=n) i0
  have ft:=hp _ (eQ i0 hi)
  have ln:=zn ft.1 ft.2
  have hk:=xZ b part n i.toNat
  simp[hi,ln]
  (with_reducible repeat' first|refine Xk ?_<;>try simp[ln]|refine Xs ?_ ?_<;>intro h<;>(try intro h')<;>(try simp[h,ln])<;>try omega|refine Xg ?_|omega)
  all_goals
   refine LJ.i (i+1) (by first|rfl|simp[iY,h, *]) (by first|rfl|simp[iY,h, *]) rfl rfl ?_
   omega
 ·have:i=part.length:=by omega
  subst this
  simp
theorem Kx(v:List eO)(b:List Bool){n:Int}(n0:0≤n):∀ k:Nat,n≤oW v b k→∃ j:Int,0≤j∧j<k∧gt b j=false∧(gt v j).1≠2∧n≤(gt v j).2
 | 0,h=>by rw[Wq]at h;omega
 | k+1,h=>by
  rw[oW]at h
  split at h
  ·rename_i hc
   by_cases e:n≤(gt v (k:Int)).2
   ·exact⟨k,by omega,by omega,hc.1,hc.2,e⟩
   ·obtain⟨j,j0,j1,h2⟩:=Kx v b n0 k (by omega)
    exact⟨j,j0,by omega,h2⟩
  ·obtain⟨j,j0,j1,h2⟩:=Kx v b n0 k h
   exact⟨j,j0,by omega,h2⟩
def f81(v:List eO)(b:List Bool)(t n:Int)(n0:0≤n)(hb:b.length=v.length)(h9:v.length≤4000):Wf T 81 [.agg [fh v,.sl 1 ((nb b).map fB),.i t],.i n] [] (Is (.b (decide (n≤oW v b v.length)))):=by
 have tw:=tO b
 refine Yg F' ?_
 simp[F']
 refine eN.e (0:Int) (fun y=>[(1,.i n),(2,.ptr 0 0 0),(5,.i y)]) (fun y=>[.row 152 0 [fh v,.sl 1 ((nb b).map fB),.i t]]) (fun y=>0≤y∧y≤v.length∧∀ j:Int,0≤j→j<y→gt b j=false→(gt v j).1≠2→¬ n≤(gt v j).2) (fun y=>(v.length-y).toNat) ?_ ?_
 ·exact⟨by simp,by simp,fun j j0 j1=>by omega⟩
 rintro i ⟨i0,i1,i2⟩
 dsimp only at i0 i1 i2 ⊢
 by_cases hi:i<v.length
 ·have ln:=zn (b:=b) i0 (by omega)
  have kI:¬ (gt b i=false∧(gt v i).1≠2∧n≤(gt v i).2)→∀ j:Int,0≤j→j<i+1→gt b j=false→(gt v j).1≠2→¬ n≤(gt v j).2:=fun hh j j0 j1 a c d=>by
   by_cases e:j=i
   ·subst e;exact hh ⟨a,c,d⟩
   ·exact i2 j j0 (by omega) a c d
  by_cases hc:gt b i=false∧(gt v i).1≠2∧n≤(gt v i).2
  ·have hn:n≤oW v b v.length:=cY hc.2.2 (PC v b v.length i i0 hi hc.1 hc.2.1)
   simp[hi,ln,hc.1,hc.2.1,hc.2.2,hn]
   try (with_reducible repeat' first|refine Xk ?_<;>try simp[ln,hc.1,hc.2.1,hc.2.2,hn]|refine Xs ?_ ?_<;>intro h<;>(try intro h')<;>(try simp[h,ln,hc.1,hc.2.1,hc.2.2,hn])<;>try omega|refine Xg ?_|omega)
  ·simp[hi,ln]
   (with_reducible repeat' first|refine Xk ?_<;>try simp[ln]|refine Xs ?_ ?_<;>intro h<;>(try intro h')<;>(try simp[h,ln])<;>try omega|refine Xg ?_|omega)
   all_goals
    first
     | exact absurd ⟨‹_›,‹_›,‹_›⟩ hc
     | refine LJ.e (i+1) (eY (kI hc))
 ·have:i=v.length:=by omega
  subst this
  have:¬ n≤oW v b v.length:=fun h=>by
   obtain⟨j,j0,j1,a,c,d⟩:=Kx v b n0 _ h
   exact i2 j j0 j1 a c d
  simp[this]
noncomputable def zf(v:List eO)(b:List Bool)(x:List Int)(n:Int):eO:=if rQ v b x n then(1,n)else if (ju v b x x.length).1=x.length∧(ju v b x x.length).2=n-1 then(3,n)else(0,0)
def f120(v:List eO)(b:List Bool)(t:Int)(x:List Int)(n:Int)(n0:0≤n∧n≤4000)(hb:b.length=v.length)(hx:∀ k∈x,0≤k∧k<v.length)(oK:x.length≤4000000000) :
  Wf T 120 [.agg [fh v,.sl 1 ((nb b).map fB),.i t],dI x,.i n] [] (Is (.agg [.i (zf v b x n).1,.i (zf v b x n).2])):=by
 have tw:=tO b
 refine Yg D1 ?_
 simp[D1]
 refine eN.e ((0,false):Int×Bool) (fun y=>[(1,dI x),(2,.i n),(3,.ptr 0 0 0),(6,.ptr 1 0 0),(7,.b y.2),(8,.i (ju v b x y.1.toNat).1),(9,.i (ju v b x y.1.toNat).2),(10,.i y.1)]) (fun y=>[.row 152 0 [fh v,.sl 1 ((nb b).map fB),.i t],.row 58 0 [.i 0,.i 0]]) (fun y=>0≤y.1∧y.1≤x.length∧(y.2=true↔∃ k∈x.take y.1.toNat,gt b k=false∧gt v k=(3,n-1))) (fun y=>(x.length-y.1).toNat) ?_ ?_
 ·simp
 rintro⟨j,L⟩ ⟨j0,j1,j2⟩
 dsimp only at j0 j1 j2 ⊢
 by_cases hj:j<x.length
 ·have iY:=Nc (v:=v) (b:=b) (x:=x) j0
  have ft:=hx _ (eQ j0 hj)
  have hw:=Az v b x j.toNat
  have ln:=zn (b:=b) ft.1 (by omega)
  have qu:(L=true∨(gt b (gt x j)=false∧(gt v (gt x j)).1=3∧(gt v (gt x j)).2=n-1))→∃ k∈x.take (j+1).toNat,gt b k=false∧gt v k=(3,n-1):=fun h=>by
   rw[gx j0 hj]
   rcases h with h|⟨h1,h2,h3⟩
   ·obtain⟨k,hk,h2⟩:=j2.1 h
    exact⟨k,by simp[hk],h2⟩
   ·exact⟨gt x j,by simp,h1,Prod.ext h2 h3⟩
  have pC:L=false→¬ (gt b (gt x j)=false∧(gt v (gt x j)).1=3∧(gt v (gt x j)).2=n-1)→¬ ∃ k∈x.take (j+1).toNat,gt b k=false∧gt v k=(3,n-1):=fun h1 h2 ⟨k,hk,h3⟩=>by
   rw[gx j0 hj]at hk
   rcases List.mem_append.1 hk with hk|hk
   ·rw[j2.2 ⟨k,hk,h3⟩]at h1;cases h1
   ·rw[List.mem_singleton.1 hk]at h3
    exact h2 ⟨h3.1,by rw[h3.2],by rw[h3.2]⟩
  have WM:=j2
  clear j2
  by_cases mg:gt b (gt x j)=false
  ·by_cases h3:(gt v (gt x j)).1=3∧(gt v (gt x j)).2=n-1
   ·have Cm:¬ (gt v (gt x j)).1=1:=by omega
    cases L
    all_goals
     simp[hj,ln,mg]
     (with_reducible repeat' first|refine Xk ?_<;>try simp[ln,mg,h3.1,h3.2]|refine Xs ?_ ?_<;>intro h<;>(try intro h')<;>(try simp[h,ln,mg,h3.1,h3.2])<;>try omega|refine Xg ?_|omega)
    ·refine LJ.i (j+1,true) (by first|rfl|simp[iY, *]) (by first|rfl|simp[iY, *]) rfl rfl ?_
     exact⟨by dsimp only;omega,by dsimp only;omega,by dsimp only;omega,fun _=>qu (.inr ⟨mg,h3⟩),fun _=>rfl⟩
    ·refine LJ.i (j+1,true) (by first|rfl|simp[iY, *]) (by first|rfl|simp[iY, *]) rfl rfl ?_
     exact⟨by dsimp only;omega,by dsimp only;omega,by dsimp only;omega,fun _=>qu (.inl rfl),fun _=>rfl⟩
   ·cases L
    all_goals
     simp[hj,ln,mg]
     (with_reducible repeat' first|refine Xk ?_<;>try simp[ln,mg]|refine Xs ?_ ?_<;>intro h<;>(try intro h')<;>(try simp[h,ln,mg])<;>try omega|refine Xg ?_|omega)
    ·have h4:¬ (gt v (gt x j)).2=n-1:=fun e=>h3 ⟨‹_›,e⟩
     refine LJ.i (j+1,false) (by first|rfl|simp[iY,h4, *]) (by first|rfl|simp[iY,h4, *]) rfl rfl ?_
     exact⟨by dsimp only;omega,by dsimp only;omega,by dsimp only;omega,(fun e=>by cases e),fun e=>absurd e (pC rfl fun c=>h3 c.2)⟩
    ·refine LJ.i (j+1,false) (by first|rfl|simp[iY, *]) (by first|rfl|simp[iY, *]) rfl rfl ?_
     exact⟨by dsimp only;omega,by dsimp only;omega,by dsimp only;omega,(fun e=>by cases e),fun e=>absurd e (pC rfl fun c=>h3 c.2)⟩
    ·refine LJ.i (j+1,false) (by first|rfl|simp[iY, *]) (by first|rfl|simp[iY, *]) rfl rfl ?_
     exact⟨by dsimp only;omega,by dsimp only;omega,by dsimp only;omega,(fun e=>by cases e),fun e=>absurd e (pC rfl fun c=>h3 c.2)⟩
    ·refine LJ.i (j+1,true) (by first|rfl|simp[iY, *]) (by first|rfl|simp[iY, *]) rfl rfl ?_
     exact⟨by dsimp only;omega,by dsimp only;omega,by dsimp only;omega,fun _=>qu (.inl rfl),fun _=>rfl⟩
    ·refine LJ.i (j+1,true) (by first|rfl|simp[iY, *]) (by first|rfl|simp[iY, *]) rfl rfl ?_
     exact⟨by dsimp only;omega,by dsimp only;omega,by dsimp only;omega,fun _=>qu (.inl rfl),fun _=>rfl⟩
  ·have HD:gt b (gt x j)=true:=by simpa using mg
   simp[hj,ln,HD]
   (with_reducible repeat' first|refine Xk ?_<;>try simp[ln,HD]|refine Xs ?_ ?_<;>intro h<;>(try intro h')<;>(try simp[h,ln,HD])<;>try omega|refine Xg ?_|omega)
   refine LJ.i (j+1,L) (by first|rfl|simp[iY, *]) (by first|rfl|simp[iY, *]) rfl rfl ?_
   refine⟨by dsimp only;omega,by dsimp only;omega,by dsimp only;omega,fun e=>qu (.inl e),fun e=>?_⟩
   cases L
   ·exact absurd e (pC rfl fun c=>mg c.1)
   ·rfl
 ·have uM:j=x.length:=by omega
  subst uM
  have hl:rQ v b x n↔L=true:=by
   rw[jh (by omega)]at j2
   exact j2.symm
  clear j2
  simp[hj]
  (with_reducible repeat' first|refine Xk ?_<;>try simp|refine Xs ?_ ?_<;>intro h<;>(try intro h')<;>(try simp[h])<;>try omega|refine Xg ?_|omega)
  all_goals simp[zf,hl, *]
