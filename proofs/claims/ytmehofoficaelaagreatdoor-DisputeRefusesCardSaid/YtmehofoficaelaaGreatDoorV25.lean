/- 25 -/
import Derived.Test.YtmehofoficaelaaGreatDoorV24
set_option linter.all false
open List renaming length→List.l
namespace Go.Proofs.YtmehofoficaelaaGreatDoor
open Go Go.AL Classical
set_option maxRecDepth 10000
set_option maxHeartbeats 8000000
def an9{l:List Pos}(hs:kT l)(h0:0<l.l){i:Int}(i0:0<=i)(b:i<l.l):0<=iH (gt (l ++ [gt l (l.l-1)]) i) (gt (l ++ [gt l (l.l-1)]) (i+1))↔i=l.l-1:=by
 have c:gt (l ++ [gt l (l.l-1)]) i=gt l i:=by rw[iX i0 gL,iX i0 b,fw U]
 rw[c]
 by_cases h:i=l.l-1
 .subst h
  have a:gt (l ++ [gt l (l.l-1)]) (l.l-1+1)=gt l (l.l-1):=by rw[iX U gL,fe U];simp
  rw[a,uJ];simp
 .have a:gt (l ++ [gt l (l.l-1)]) (i+1)=gt l (i+1):=by rw[iX U gL,fw U];exact(iX U U).symm
  have:=hs (i+1) U U;rw[dq]at this;rw[a];constructor
  .intro;omega
  .intro;omega
def adG(g:gq)(hg:gR g)(l:List Pos)(b:lZ g l)(h0:0<l.l):Wf T 112 [gP (l ++ [gt l (l.l-1)])] [] (Is (.b false)):=by
 have k:=b.len;have hl:((l ++ [gt l (l.l-1)]).l:Int)=l.l+1:=fZ
 have c:∀p∈l ++ [gt l (l.l-1)],Small p:=λp a=>by
  rcases aj.1 a with a|a
  .exact(b.ok p a).small hg
  .rw[List.mem_singleton.1 a];exact(b.ok _ (gF U U)).small hg
 have f:=λ{i:Int}=>an9 b.yZ h0 (i:=i);generalize l ++ [gt l (l.l-1)]=l2 at *;refine Yg CY ?_;simp[CY];refine gh ?_;refine gx.e (0:Int) (λi=>[(0,gP l2),(6,.i (l2.l-1)),(7,.i i)]) (λi=>[]) (λi=>0<=i/\i<l.l) (λi=>l2.l-i.toNat) ?_ ?_
 .simp;omega
 rintro i ⟨i0,j⟩;simp[(U:i<l2.l-1)];refine gh ?_;refine Yt (f88 _ _ (c _ (gF i0 U)) (c _ (gF (n:=i+1) U U))) ?_;simp;have d:=f i0 j
 by_cases h:i=l.l-1
 .simp[d.2 h]
 .simp[show¬ 0<=iH (gt l2 i) (gt l2 (i+1))fromλe=>h (d.1 e)];refine gh ?_;refine LJ.e (i+1) ?_;exact mF
def Qp(g:gq)(hg:gR g)(l:List Pos)(b:lZ g l)(h0:0<l.l)(d:l.l<=80):Wf T 56 [dG g,gP (l ++ [gt l (l.l-1)])] [] (Is (.tup [.gi,.i 70])):=by
 have hl:((l ++ [gt l (l.l-1)]).l:Int)=l.l+1:=fZ
 have gp:∀p∈l ++ [gt l (l.l-1)],iC g p:=λp a=>by
  rcases aj.1 a with a|a
  .exact b.ok p a
  .rw[List.mem_singleton.1 a];exact b.ok _ (gF U U)
 have c:=adG g hg l b h0;generalize l ++ [gt l (l.l-1)]=l2 at *;refine Yg AW ?_;simp[AW];refine Yc (f98 g hg) ?_;simp;(with_reducible repeat' first|refine Xk ?_<;>try simp|refine Xs ?_ ?_<;>intro h<;>(try intro e)<;>(try simp[h])<;>try omega|refine Xg ?_|omega);refine Yr (f99 g hg l2 gp U) ?_;simp;refine gh ?_;refine Yc (c) ?_;simp;exact mI
def amK(part:List Int)(k:Int):Int:=if k=0 then -1 else gt part (k-1)
@[simp] theorem axA(part:List Int):amK part 0 = -1:=rfl
