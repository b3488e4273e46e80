/- Part 20 of DisputeLocal. -/
import Derived.Test.YtmehofoficaelaaGreatDoorL19
set_option linter.all false
namespace Go.Proofs.YtmehofoficaelaaGreatDoor
open Go Go.AL Classical
set_option maxRecDepth 10000
set_option maxHeartbeats 4000000
def nJ(l:List fg):D:=dN 8 fg.cells l
@[simp] theorem U1(l:List fg):closed (nJ l)=true:=w6 (fun a=>by simp[fg.cells,fE]) l
theorem f132(l:List Int)(h:0<l.length)(h2:l.length<2 ^ 40):Wf T 265 [dI l] [] (fun d H=>d = .eX 0 1 1 0 l.length∧H = [.row 3 1 (cl f1 l)]):=by
 refine Yg Es ?_
 simp[Es]
 refine oA.i (a:=.b false) (by cases l with|nil=>exact absurd h (by simp)|cons a r=>rfl) ?_
 simp
 (with_reducible repeat' first|refine Xk ?_<;>try simp|refine Xs ?_ ?_<;>intro h<;>(try intro h')<;>(try simp[h])<;>try omega|refine Xg ?_|omega)
def f91(s:fg)(hs:Small s.p)(h0:0<s.p.cs.length∧0<s.p.h0.length∧0<s.p.h1.length):Wf T 215 [.agg s.cells] [] (fun d H=>d = .agg [.eX 0 1 1 0 s.p.cs.length,.eX 1 1 1 0 s.p.h0.length,.eX 2 1 1 0 s.p.h1.length,.i s.p.fH,.i s.p.side,.i s.kind,.i s.cur,.b s.jb]∧H = [.row 3 1 (cl f1 s.p.cs),.row 3 1 (cl f1 s.p.h0),.row 3 1 (cl f1 s.p.h1)]):=by
 refine Yg F7 ?_
 simp[F7,fg.cells]
 refine Yn (f132 s.p.cs h0.1 hs.1) ?_
 simp
 refine sO.n rfl rfl (f132 s.p.h0 h0.2.1 hs.2.1) (by simp) (by simp) ?_
 simp
 refine sO.n rfl rfl (f132 s.p.h1 h0.2.2 hs.2.2) (by simp) (by simp) ?_
 simp
def f241(s:fg)(b:Bool):Wf T 323 [.agg s.cells,.b b] [] (Is (nJ (if b then [s]else []))):=by
 refine Yg Fo ?_
 simp[Fo,fg.cells]
 cases b
 ·simp
  rfl
 ·simp
  rfl
def f243(s:fg)(h:0≤s.cur∧s.cur<s.p.cs.length)(hs:Small s.p):Wf T 325 [.agg s.cells] [] (Is (.tup [.i (fF (gt s.p.cs s.cur)),.i (jo (gt s.p.cs s.cur))])):=by
 refine Yg Fs ?_
 simp[Fs,fg.cells]
 (with_reducible repeat' first|refine Xk ?_<;>try simp|refine Xs ?_ ?_<;>intro h<;>(try intro h')<;>(try simp[h])<;>try omega|refine Xg ?_|omega)
 refine Yc (f84 _) ?_
 simp
def f199(g:eY)(hg:gh g)(s:fg)(hs:jA g s)(n:Int):Wf T 300 [.agg s.cells,dG g,.i n] [] (Is (nJ (im g s (1,n)))):=by
 refine Yg E7 ?_
 simp[E7,fg.cells]
 refine Yc (f240 g hg.iY s.p.side n s.cur) ?_
 simp
 refine fG.c rfl rfl (f241 { s with cur:=lg g s.p.side n s.cur } (decide (0≤lg g s.p.side n s.cur))) (by simp[fg.cells]) (by simp) ?_
 simp[im]
def f201(g:eY)(hg:gh g)(s:fg)(hs:jA g s)(n:Int):Wf T 302 [.agg s.cells,dG g,.i n] [] (Is (nJ (im g s (3,n)))):=by
 have gV:=hs.p.size
 have nQ:=hs.cur
 refine Yg E9 ?_
 simp[E9,fg.cells]
 (with_reducible repeat' first|refine Xk ?_<;>try simp|refine Xs ?_ ?_<;>intro h<;>(try intro h')<;>(try simp[h])<;>try omega|refine Xg ?_|omega)
 refine iC.c rfl rfl (f241 s (decide (gt s.p.cs s.cur=0))) (by simp[fg.cells]) (by simp) ?_
 simp[im]
def f202(g:eY)(hg:gh g)(s:fg)(hs:jA g s)(n:Int):Wf T 303 [.agg s.cells,dG g,.i n] [] (Is (nJ (im g s (4,n)))):=by
 have gV:=hs.p.size
 have nQ:=hs.cur
 have iE:=hs.p.side
 refine Yg E' ?_
 simp[E',fg.cells]
 refine fG.c rfl rfl (f243 s (by omega) (hs.p.small hg)) (by simp[fg.cells]) (by simp) ?_
 simp
 (with_reducible repeat' first|refine Xk ?_<;>try simp|refine Xs ?_ ?_<;>intro h<;>(try intro h')<;>(try simp[h])<;>try omega|refine Xg ?_|omega)
 refine fG.c rfl rfl (f241 s (decide (jo (gt s.p.cs s.cur)=1-s.p.side))) (by simp[fg.cells]) (by simp) ?_
 simp[im]
def f203(g:eY)(hg:gh g)(s:fg)(hs:jA g s)(n:Int):Wf T 304 [.agg s.cells,dG g,.i n] [] (Is (nJ (im g s (5,n)))):=by
 have gV:=hs.p.size
 have nQ:=hs.cur
 refine Yg Fa ?_
 simp[Fa,fg.cells]
 refine fG.c rfl rfl (f243 s (by omega) (hs.p.small hg)) (by simp[fg.cells]) (by simp) ?_
 simp
 refine fG.c rfl rfl (f241 s (decide (jo (gt s.p.cs s.cur)=s.p.side))) (by simp[fg.cells]) (by simp) ?_
 simp[im]
def f206(g:eY)(s:fg)(n:Int):Wf T 307 [.agg s.cells,dG g,.i n] [] (Is (nJ (im g s (8,n)))):=by
 refine Yg Fc ?_
 simp[Fc,fg.cells]
 rfl
def f207(g:eY)(hg:gh g)(s:fg)(hs:jA g s)(n:Int)(hn:0≤n∧n<g.fH):Wf T 308 [.agg s.cells,dG g,.i n] [] (Is (nJ (im g s (9,n)))):=by
 have hr:=hs.p.fH
 have re:=hg.fH
 have h5:=Af re.1 (by omega)
 have ha:=SZ (r:=s.p.fH) (n:=n) hr.1 (by omega) hn.1 (by omega)
 refine Yg Fe ?_
 simp[Fe,fg.cells]
 (with_reducible repeat' first|refine Xk ?_<;>try simp|refine Xs ?_ ?_<;>intro h<;>(try intro h')<;>(try simp[h])<;>try omega|refine Xg ?_|omega)
 refine iC.c rfl rfl (f241 s (decide (bits BinOp.and IntKind.i64 (mA IntKind.i64 s.p.fH n) 1=1))) (by simp[fg.cells]) (by simp) ?_
 simp[im,ha]
def f208(g:eY)(hg:gh g)(s:fg)(hs:jA g s)(n:Int)(hn:0≤n∧n<g.fH):Wf T 309 [.agg s.cells,dG g,.i n] [] (Is (nJ (im g s (10,n)))):=by
 have hr:=hs.p.fH
 have re:=hg.fH
 have h5:=Af re.1 (by omega)
 have ha:=S0 (r:=s.p.fH) (n:=n) hr.1 (by omega) hn.1 (by omega)
 refine Yg Ff ?_
 simp[Ff,fg.cells,ha]
 (with_reducible repeat' first|refine Xk ?_<;>try simp[ha]|refine Xs ?_ ?_<;>intro h<;>(try intro h')<;>(try simp[h,ha])<;>try omega|refine Xg ?_|omega)
 rfl
def f205(g:eY)(hg:gh g)(s:fg)(hs:jA g s)(n:Int):Wf T 306 [.agg s.cells,dG g,.i n] [] (Is (nJ (im g s (7,n)))):=by
 have gV:=hs.p.size
 have nQ:=hs.cur
 have jR:=hs.p.small hg
 have Ht:=hg.iY.size
 have hk:=hg.kinds
 have l0:=hs.p.h0.len
 have l1:=hs.p.h1.len
 have ht:=hg.iY.to s.p.side n s.cur
 have e:im g s (7,n)=qO g s n:=by simp[im]
 rw[e]
 refine Yg Fb ?_
 simp[Fb,fg.cells]
 refine Yc (f240 g hg.iY s.p.side n s.cur) ?_
 simp
 (with_reducible repeat' first|refine Xk ?_<;>try simp|refine Xs ?_ ?_<;>intro h<;>(try intro h')<;>(try simp[h])<;>try omega|refine Xg ?_|omega)
 ·rw[qO,if_pos (by simp_all)];rfl
 ·rw[qO,if_pos (by simp_all)];rfl
 ·have q0:=il (l:=s.p.cs) (n:=lg g s.p.side n s.cur) (v:=gt s.p.cs s.cur) (by omega) (by omega)
  have q1:=il (l:=pt s.p.cs (lg g s.p.side n s.cur) (gt s.p.cs s.cur)) (n:=s.cur) (v:=0) nQ.1 (by omega)
  refine Yn (f91 s jR (by omega)) ?_
  simp
  (with_reducible repeat' first|refine Xk ?_<;>try simp[q0,q1]|refine Xs ?_ ?_<;>intro h<;>(try intro h')<;>(try simp[h,q0,q1])<;>try omega|refine Xg ?_|omega)
  simp[qO, *]
  rfl
 ·rw[qO,if_pos (by simp_all)];rfl
def f204(g:eY)(hg:gh g)(s:fg)(hs:jA g s)(n:Int):Wf T 305 [.agg s.cells,dG g,.i n] [] (Is (nJ (im g s (6,n)))):=by
 have gV:=hs.p.size
 have nQ:=hs.cur
 have jR:=hs.p.small hg
 have Ht:=hg.iY.size
 have mQ:=hg.kinds
 have l0:=hs.p.h0.len
 have l1:=hs.p.h1.len
 have iL:=hs.p.cs _ (ft nQ.1 (by omega))
 have iE:=hs.p.side
 have e:im g s (6,n)=qo g s:=by simp[im]
 rw[e]
 refine Yz AQ (iu 52 [2,3,4] AQ.body) ?_
 simp[AQ,iu,jJ,mj,mn,mG,ln,fg.cells]
 refine fG.c rfl rfl (f243 s (by omega) jR) (by simp[fg.cells]) (by simp) ?_
 simp
 by_cases hx:jo (gt s.p.cs s.cur)=1-s.p.side
 ·have B3:0≤fF (gt s.p.cs s.cur):=by
   unfold jo at hx;unfold fF
   split at hx<;>rename_i h5
   ·rw[if_pos h5];omega
   ·omega
  have hm:fF (gt s.p.cs s.cur)<g.kinds.length:=uI iL.2 mQ.1
  have Ln:s.p.side=0∨s.p.side=1:=by omega
  have q0:=il (l:=s.p.cs) (n:=s.cur) (v:=0) nQ.1 (by omega)
  simp[hx]
  (with_reducible repeat' first|refine Xk ?_<;>try simp|refine Xs ?_ ?_<;>intro h<;>(try intro h')<;>(try simp[h])<;>try omega|refine Xg ?_|omega)
  refine Yn (f91 s jR (by omega)) ?_
  simp
  (with_reducible repeat' first|refine Xk ?_<;>try simp[q0]|refine Xs ?_ ?_<;>intro h<;>(try intro h')<;>(try simp[h,q0])<;>try omega|refine Xg ?_|omega)
  ·have ri:=h
   rcases Ln with e|e
   ·have ha:=hs.p.h0.at_ _ (by omega) (show fF (gt s.p.cs s.cur)<s.p.h0.length by omega)
    have q1:=zp (l:=s.p.h0) (n:=fF (gt s.p.cs s.cur)) (v:=gt s.p.h0 (fF (gt s.p.cs s.cur))+1) (by omega) (by omega)
    have q2:=il (l:=s.p.h0) (n:=fF (gt s.p.cs s.cur)) (v:=gt s.p.h0 (fF (gt s.p.cs s.cur))+1) (by omega) (by omega)
    simp[e,q0,q1,q2]
    (with_reducible repeat' first|refine Xk ?_<;>try simp[q0,q1,q2]|refine Xs ?_ ?_<;>intro h<;>(try intro h')<;>(try simp[h,q0,q1,q2])<;>try omega|refine Xg ?_|omega)
    refine iC.c rfl rfl (f241 { p:={ s.p with cs:=pt s.p.cs s.cur 0,h0:=pt s.p.h0 (fF (gt s.p.cs s.cur)) (gt s.p.h0 (fF (gt s.p.cs s.cur))+1),side:=0 },kind:=s.kind,cur:=s.cur,jb:=true } (decide (gt s.p.h0 (fF (gt s.p.cs s.cur))+1≤8))) (by simp[fg.cells]) (by simp) ?_
    simp[qo,hx,ri,Pos.hand,Pos.lV,e]
    done
   ·have ha:=hs.p.h1.at_ _ (by omega) (show fF (gt s.p.cs s.cur)<s.p.h1.length by omega)
    have q1:=zp (l:=s.p.h1) (n:=fF (gt s.p.cs s.cur)) (v:=gt s.p.h1 (fF (gt s.p.cs s.cur))+1) (by omega) (by omega)
    have q2:=il (l:=s.p.h1) (n:=fF (gt s.p.cs s.cur)) (v:=gt s.p.h1 (fF (gt s.p.cs s.cur))+1) (by omega) (by omega)
    simp[e,q0,q1,q2]
    (with_reducible repeat' first|refine Xk ?_<;>try simp[q0,q1,q2]|refine Xs ?_ ?_<;>intro h<;>(try intro h')<;>(try simp[h,q0,q1,q2])<;>try omega|refine Xg ?_|omega)
    refine iC.c rfl rfl (f241 { p:={ s.p with cs:=pt s.p.cs s.cur 0,h1:=pt s.p.h1 (fF (gt s.p.cs s.cur)) (gt s.p.h1 (fF (gt s.p.cs s.cur))+1),side:=1 },kind:=s.kind,cur:=s.cur,jb:=true } (decide (gt s.p.h1 (fF (gt s.p.cs s.cur))+1≤8))) (by simp[fg.cells]) (by simp) ?_
    simp[qo,hx,ri,Pos.hand,Pos.lV,e]
    done
  ·simp[qo,hx,h,q0]
   rfl
 ·simp[hx]
  (with_reducible repeat' first|refine Xk ?_<;>try simp|refine Xs ?_ ?_<;>intro h<;>(try intro h')<;>(try simp[h])<;>try omega|refine Xg ?_|omega)
  rw[qo,if_pos hx];rfl
def f259(g:eY)(s d c:Int):Wf T 331 [g.iY,.i s,.i d,.i c] [] (Is (.fn (.func 335) [] [.fj [.i g.size,.sl 1 (g.next.map fI),dI g.iT],.fj [.i s],.fj [.i d],.fj [.i c]])):=by
 refine Yg FA ?_
 simp[FA]
def f266(l:List Int)(n:Int)(hl:l.length<2 ^ 40):Wf T 336 [dI l,.i n] [] (Ey (fun r:Int=>.i r) fun r=>0≤r↔n∈l):=by
 refine Yg yS ?_
 simp[yS]
 refine fh.e (0:Int) (fun y=>[(0,dI l),(1,.i n),(7,.i l.length),(8,.i y)]) (fun y=>[]) (fun y=>0≤y∧y≤l.length∧n ∉ l.take y.toNat) (fun y=>(l.length-y).toNat) ?_ ?_
 ·simp
 rintro i ⟨i0,i1,i2⟩
 by_cases hi:i<l.length
 ·simp[hi]
  (with_reducible repeat' first|refine Xk ?_<;>try simp|refine Xs ?_ ?_<;>intro h<;>(try intro h')<;>(try simp[h])<;>try omega|refine Xg ?_|omega)
  ·exact Ey.i i rfl rfl ⟨fun _=>by have:=ft i0 hi;simp_all,fun _=>i0⟩
  ·refine LJ.e (i+1) ?_
   refine fQ ?_
   rw[iD i0 hi]
   simp[i2]
   omega
 ·simp[hi]
  rw[ky (by omega)]at i2
  exact Ey.i (-1) rfl rfl ⟨fun h=>by omega,fun h=>absurd h i2⟩
def f260(l:List Int)(n:Int)(hl:l.length<2 ^ 40):Wf T 332 [dI l,.i n] [] (Is (.b (decide (n∈l)))):=by
 refine Yg yR ?_
 simp[yR]
 refine Yq (f266 l n hl) fun r hr=>?_
 simp
 simp[hr]
def Wk(n:Int):Wf T 336 [.eU,.i n] [] (Is (.i (-1))):=by
 refine Yg yS ?_
 simp[yS]
 refine fh.un ?_
 refine kS.u ?_
 simp
def Wj(n:Int):Wf T 332 [.eU,.i n] [] (Is (.b false)):=by
 refine Yg yR ?_
 simp[yR]
 refine Yc (Wk n) ?_
 simp
def f265(g:eY)(hg:mY g)(s d c:Int):Wf T 335 [.iA 4,.fj [.i g.size,.sl 1 (g.next.map fI),dI g.iT],.fj [.i s],.fj [.i d],.fj [.i c]]
  [.row 39 0 [.i g.size,.sl 1 (g.next.map fI),dI g.iT],.row 3 0 [.i c],.row 37 0 [.eU],.kJ,.gL 20736 [(7,.ptr 1 0 0),(9,.ptr 2 0 0)] .ready]
  (fun _ H'=>∃ st,(st = .ready∨st = .vw 0)∧H' = [.row 39 0 [.i g.size,.sl 1 (g.next.map fI),dI g.iT],.row 3 0 [.i c],.row 37 0 [if kE g s d c = []then .eU else .eX 5 ((kE g s d c).length-1) 1 0 (kE g s d c).length],.kJ,.gL 20736 [(7,.ptr 1 0 0),(9,.ptr 2 0 0)] st]++(if kE g s d c = []then []else [.row 3 ((kE g s d c).length-1) (cl f1 (kE g s d c))])):=by
 have hb:=hg.size
 refine Yg FC ?_
 simp[FC]
 refine Yr (f240 g hg s d c) ?_
 simp
 refine fh.e ((0,lg g s d c,[]):Nat×Int×List Int) (fun x=>[(0,.iA 4),(1,.fj [.i g.size,.sl 1 (g.next.map fI),dI g.iT]),(2,.fj [.i s]),(3,.fj [.i d]),(6,.i x.2.1)]) (fun x=>[.row 39 0 [.i g.size,.sl 1 (g.next.map fI),dI g.iT],.row 3 0 [.i c],.row 37 0 [if x.2.2 = []then .eU else .eX 5 (x.2.2.length-1) 1 0 x.2.2.length],.kJ,.gL 20736 [(7,.ptr 1 0 0),(9,.ptr 2 0 0)] .ready]++(if x.2.2 = []then []else [.row 3 (x.2.2.length-1) (cl f1 x.2.2)])) (fun x=>x.1=x.2.2.length∧x.2.1<g.size∧x.2.2.Nodup∧(∀ y∈x.2.2,0≤y∧y<g.size)∧kE g s d c=qG g s d c (10-x.1) x.2.1 x.2.2) (fun x=>10-x.1) ?_ ?_
 ·have:=hg.to s d c
  simp[kE];omega
 rintro⟨m,x,out⟩ ⟨h0,h1,h2,h3,h4⟩
 dsimp only at h0 h1 h2 h3 h4 ⊢
 have hm:out.length≤9:=Im 9 out h2 (fun y hy=>by have:=h3 y hy;omega)
 have e:=h4
 rw[show 10-m=(9-m)+1 by omega,qG]at e
 have kx:=hg.to s d x
 by_cases ho:out = []
 ·subst ho
  by_cases hx:0≤x
  ·simp[hx]
   refine pU.r (rf:=20736) (env0:=[(7,.ptr 1 0 0),(9,.ptr 2 0 0)]) (Rd:=sK) (by simp) rfl rfl sK.a sK.b (nY rfl) (nY rfl) ?_
   simp[sK]
   by_cases hc:x=c
   ·have e3:kE g s d c = []:=by rw[e,if_neg (fun h=>h.2.1 hc)]
    simp[hc,e3]
   ·have e2:kE g s d c=qG g s d c (9-m) (lg g s d x) [x]:=by rw[e,if_pos ⟨hx,hc,by simp⟩];rfl
    simp[hc]
    refine Yc (Wj x) ?_
    simp
    (with_reducible repeat' first|refine Xk ?_<;>try simp|refine Xs ?_ ?_<;>intro h<;>(try intro h')<;>(try simp[h])<;>try omega|refine Xg ?_|omega)
    refine Yr (f240 g hg s d x) ?_
    simp
    refine LJ.i (m+1,lg g s d x,[x]) (by first|rfl|simp[jg]) (by first|rfl|simp[jg]) rfl rfl ?_
    dsimp only
    refine⟨by simp at h0;omega,by simp at h0;simp;omega,kx.2,by simp,by simp;omega,?_⟩
    rw[e2];congr 1;omega
  ·have e3:kE g s d c = []:=by rw[e,if_neg (fun h=>hx h.1)]
   simp[hx,e3]
 ·simp only[if_neg ho,cL,bO]
  by_cases hx:0≤x
  ·simp[hx]
   refine pU.r (rf:=20736) (env0:=[(7,.ptr 1 0 0),(9,.ptr 2 0 0)]) (Rd:=sK) (by simp) rfl rfl sK.a sK.b (nY rfl) (nY rfl) ?_
   simp[sK]
   by_cases hc:x=c
   ·have e3:kE g s d c=out:=by rw[e,if_neg (fun h=>h.2.1 hc)]
    simp[hc,e3,ho]
   ·simp[hc]
    refine Yr (f260 out x (by omega)) ?_
    simp
    refine X2.z hc ?_
    simp
    by_cases fM:x∈out
    ·have e3:kE g s d c=out:=by rw[e,if_neg (fun h=>h.2.2 fM)]
     simp[fM,e3,ho]
    ·have e2:kE g s d c=qG g s d c (9-m) (lg g s d x) (out ++ [x]):=by rw[e,if_pos ⟨hx,hc,fM⟩]
     have hl:0<out.length:=ay.2 ho
     simp[fM]
     (with_reducible repeat' first|refine Xk ?_<;>try simp|refine Xs ?_ ?_<;>intro h<;>(try intro h')<;>(try simp[h])<;>try omega|refine Xg ?_|omega)
     refine Yr (f240 g hg s d x) ?_
     simp
     refine LJ.i (m+1,lg g s d x,out ++ [x]) (by first|rfl|simp[show out.length-1+1=out.length by omega]) (by first|rfl|simp[show out.length-1+1=out.length by omega]) rfl rfl ?_
     dsimp only
     refine⟨by omega,by simp;omega,kx.2,?_,fun y hy=>?_,?_⟩
     ·rw[cT];exact⟨h2,by simp,fun a ha b hb=>by rw[List.mem_singleton.1 hb];rintro rfl;exact fM ha⟩
     ·rcases List.mem_append.1 hy with hy|hy
      ·exact h3 y hy
      ·rw[List.mem_singleton.1 hy];omega
     ·rw[e2];congr 1;omega
  ·have e3:kE g s d c=out:=by rw[e,if_neg (fun h=>hx h.1)]
   simp[hx,e3,ho]
def f242(g:eY)(hg:mY g)(s d c:Int):Wf T 324 [g.iY,.i s,.i d,.i c] [] (Is (dN 1 f1 (kE g s d c))):=by
 refine Yg Fq ?_
 simp[Fq]
 refine Yc (f259 g s d c) ?_
 simp
 refine wV.r (f:=335) (first:=[]) (cap:=[.fj [.i g.size,.sl 1 (g.next.map fI),dI g.iT],.fj [.i s],.fj [.i d],.fj [.i c]]) rfl rfl rfl rfl ?_
 simp
 refine Wf.mono (f265 g hg s d c) ?_
 rintro _ H' ⟨st,fm,rfl⟩
 refine⟨[(7,.ptr 1 0 0),(9,.ptr 2 0 0)],st,by simp,?_⟩
 by_cases h:kE g s d c = []
 ·rcases fm with rfl|rfl
  ·simp[h]
   rfl
  ·simp[h]
   rfl
 ·have e:dI (kE g s d c)=dN 1 f1 (kE g s d c):=by
   revert h
   cases kE g s d c with
   | nil=>intro h;exact absurd rfl h
   | cons a r=>intro _;rfl
  rcases fm with rfl|rfl
  ·simp[h,e]
  ·simp[h,e]
@[simp] theorem akT(l:List Int):closed (dN 1 f1 l)=true:=w6 (fun a=>by simp[fE]) l
theorem JO{l:List fg}(h:l≠[]):jH l=nJ l:=by
 cases l with
 | nil=>exact absurd rfl h
 | cons a r=>rfl
def f200(g:eY)(hg:gh g)(s:fg)(hs:jA g s)(n:Int):Wf T 301 [.agg s.cells,dG g,.i n] [] (Is (nJ (im g s (2,n)))):=by
 have gV:=hs.p.size
 have Ht:=hg.iY.size
 have e:im g s (2,n)=oI s (kE g s.p.side n s.cur):=by simp[im]
 have fM:∀ y∈kE g s.p.side n s.cur,0≤y∧y<g.size:=fun y hy=>LS hg.iY hy
 have hlen:(kE g s.p.side n s.cur).length≤10:=LU
 rw[e]
 refine Yg E8 ?_
 simp[E8,fg.cells]
 refine Yc (f242 g hg.iY s.p.side n s.cur) ?_
 simp
 generalize kE g s.p.side n s.cur=l at *
 refine fh.e ((0,[]):Int×List fg) (fun y=>[(3,.ptr 0 0 0),(7,if y.1=0 then .eU else .eX 2 (y.2.length-1) 8 0 y.2.length),(19,dN 1 f1 l),(20,.i l.length),(21,.i y.1)]) (fun y=>.row 330 0 s.cells :: .row 43 0 g.cells::(if y.1=0 then []else [.row 330 (y.2.length-1) (cl fg.cells y.2)])) (fun y=>0≤y.1∧y.1≤l.length∧y.2.length=y.1.toNat∧oI s l=y.2++oI s (l.drop y.1.toNat)) (fun y=>(l.length-y.1).toNat) ?_ ?_
 ·simp
 rintro⟨i,st⟩ ⟨i0,i1,i2,i3⟩
 dsimp only at i0 i1 i2 i3 ⊢
 by_cases hi:i<l.length
 ·have hc:=fM _ (ft i0 hi)
  rw[mM i0 hi,oI]at i3
  by_cases hz:i=0
  ·have:st = []:=aB.1 (by omega)
   subst hz;subst this
   simp[hi,fg.cells]
   (with_reducible repeat' first|refine Xk ?_<;>try simp|refine Xs ?_ ?_<;>intro h<;>(try intro h')<;>(try simp[h])<;>try omega|refine Xg ?_|omega)
   ·refine LJ.i (1,[{ s with cur:=gt l 0 }]) (by first|rfl|simp[jg,fg.cells]) (by first|rfl|simp[jg,fg.cells]) rfl rfl ?_
    refine fQ ⟨rfl,?_⟩
    rw[i3,if_pos h];rfl
   ·rw[i3,if_neg h];rfl
  ·have hl:0<st.length:=by omega
   rw[if_neg hz,if_neg hz]
   simp[hi,fg.cells]
   (with_reducible repeat' first|refine Xk ?_<;>try simp|refine Xs ?_ ?_<;>intro h<;>(try intro h')<;>(try simp[h])<;>try omega|refine Xg ?_|omega)
   ·refine LJ.i (i+1,st ++ [{ s with cur:=gt l i }]) (by first|rfl|simp[show ¬ (i+1=0)by omega,show st.length-1+1=st.length by omega,fg.cells]) (by first|rfl|simp[show ¬ (i+1=0)by omega,show st.length-1+1=st.length by omega,fg.cells]) rfl rfl ?_
    refine⟨by dsimp only;omega,by dsimp only;omega,by dsimp only;omega,by simp;omega,?_⟩
    rw[i3,if_pos h,show(i+1).toNat=i.toNat+1 by omega];simp
   ·rw[i3,if_neg h,← JO (by simp)]
    simp[jH,fg.cells]
 ·rw[bL (by omega),oI,aA]at i3
  by_cases hz:i=0
  ·have:st = []:=aB.1 (by omega)
   subst hz;subst this
   simp[show ¬ 0<l.length by omega,fg.cells]
   rw[i3];rfl
  ·rw[if_neg hz,if_neg hz]
   simp[hi,fg.cells]
   rw[i3,JO (by intro h;rw[h]at i2;simp at i2;omega)]
def f164(g:eY)(hg:gh g)(s:fg)(hs:jA g s)(x:fe)(hx:A3 g x):Wf T 286 [dG g,.agg s.cells,.agg [.i x.1,.i x.2]] [] (Is (nJ (im g s x))):=by
 obtain⟨k,n⟩:=x
 have kD:=hx.ok
 dsimp only at kD ⊢
 rcases(show k=1∨k=2∨k=3∨k=4∨k=5∨k=6∨k=7∨k=8∨k=9∨k=10 by omega)with rfl|rfl|rfl|rfl|rfl|rfl|rfl|rfl|rfl|rfl
 all_goals
  refine Yg EO ?_
  simp[EO,fg.cells]
 ·refine iC.c rfl rfl (f199 g hg s hs n) (by simp) (by simp) ?_
  simp
 ·refine iC.c rfl rfl (f200 g hg s hs n) (by simp) (by simp) ?_
  simp
 ·refine iC.c rfl rfl (f201 g hg s hs n) (by simp) (by simp) ?_
  simp
 ·refine iC.c rfl rfl (f202 g hg s hs n) (by simp) (by simp) ?_
  simp
 ·refine iC.c rfl rfl (f203 g hg s hs n) (by simp) (by simp) ?_
  simp
 ·refine iC.c rfl rfl (f204 g hg s hs n) (by simp) (by simp) ?_
  simp
 ·refine iC.c rfl rfl (f205 g hg s hs n) (by simp) (by simp) ?_
  simp
 ·refine iC.c rfl rfl (f206 g s n) (by simp) (by simp) ?_
  simp
 ·refine iC.c rfl rfl (f207 g hg s hs n (by omega)) (by simp) (by simp) ?_
  simp
 ·refine iC.c rfl rfl (f208 g hg s hs n (by omega)) (by simp) (by simp) ?_
  simp
@[simp] theorem aje(t sz bytes:Nat)(z:List D)(m:Int)(vn:Nat):Gk t sz bytes z .eU (.val (.int .i64 m)) vn=if 0<m∧oZ (m*bytes) 140737488355328∧oZ m 9223372036854775807 then some (.eX vn 0 sz 0 m.toNat,.new (.row t 0 (List.replicate m.toNat z).flatten))else none:=rfl
theorem f191(n:Int)(hn:0<n∧n<1000):Wf T 212 [.eU,.i n] [] (fun d H=>d = .eX 0 0 1 0 0∧H = [.row 3 0 (cl f1 (List.replicate n.toNat 0))]):=by
 refine Yg E3 ?_
 simp[E3]
 (with_reducible repeat' first|refine Xk ?_<;>try simp|refine Xs ?_ ?_<;>intro h<;>(try intro h')<;>(try simp[h])<;>try omega|refine Xg ?_|omega)
@[irreducible] def fl(l:List (List Int)):List Int:=l.flatten
theorem vB(l:List (List Int)):fl l=l.flatten:=by unfold fl;rfl
@[simp] theorem alD:fl [] = []:=by simp[vB]
theorem PS{l:List (List Int)}{i:Int}(h0:0≤i)(h:i<l.length):fl (l.take (i+1).toNat)=fl (l.take i.toNat)++gt l i:=by
 rw[iD h0 h];simp[vB]
def PR(l:List (List Int))(n:Nat):(fl (l.take n)).length≤(fl l).length:=by
 simp only[vB]
 conv=>rhs;rw[← bI n l]
 simp only[dK,az]
 omega
def f148(l:List (List Int))(hl:l.length≤10)(hn:0<(fl l).length∧(fl l).length<1000):Wf T 147 [.sl 1 (l.map fI)] [] (fun d H=>d = .eX 0 l.length 1 0 (fl l).length∧H = [.row 3 l.length (cl f1 (fl l))]):=by
 have gE:0<l.length:=by
  cases l with
  | nil=>simp at hn
  | cons a r=>simp
 refine Yg EK ?_
 simp[EK]
 refine fh.e (0:Int) (fun i=>[(0,.sl 1 (l.map fI)),(3,.i (fl (l.take i.toNat)).length),(9,.sl 1 (l.map fI)),(10,.i l.length),(11,.i i)]) (fun i=>[]) (fun i=>0≤i∧i≤l.length) (fun i=>(l.length-i).toNat) ?_ ?_
 ·simp
 rintro i ⟨i0,i1⟩
 by_cases hi:i<l.length
 ·have h1:=PS i0 hi
  have h2:=PR l (i+1).toNat
  rw[h1,az]at h2
  simp[hi]
  (with_reducible repeat' first|refine Xk ?_<;>try simp|refine Xs ?_ ?_<;>intro h<;>(try intro h')<;>(try simp[h])<;>try omega|refine Xg ?_|omega)
  refine LJ.i (i+1) (by first|rfl|simp[h1]) (by first|rfl|simp[h1]) rfl rfl ?_
  exact mW
 ·have e1:(l.take i.toNat)=l:=ky (by omega)
  simp[hi,e1]
  refine Yn (f191 (fl l).length (by omega)) ?_
  simp
  refine fh.e (0:Int) (fun j=>[(6,.eX 0 j.toNat 1 0 (fl (l.take j.toNat)).length),(25,.sl 1 (l.map fI)),(26,.i l.length),(27,.i j)]) (fun j=>[.row 3 j.toNat (if j=0 then cl f1 (List.replicate (fl l).length 0)else cl f1 (fl (l.take j.toNat)))]) (fun j=>0≤j∧j≤l.length) (fun j=>(l.length-j).toNat) ?_ ?_
  ·simp
  rintro j ⟨j0,j1⟩
  by_cases hj:j<l.length
  ·have h1:=PS j0 hj
   have h2:=PR l (j+1).toNat
   rw[h1,az]at h2
   by_cases hz:j=0
   ·subst hz
    simp at h1 h2
    simp[hj]
    (with_reducible repeat' first|refine Xk ?_<;>try simp|refine Xs ?_ ?_<;>intro h<;>(try intro h')<;>(try simp[h])<;>try omega|refine Xg ?_|omega)
    refine LJ.i (1) (by first|rfl|simp[h1]) (by first|rfl|simp[h1]) rfl rfl ?_
    exact mW
   ·rw[if_neg hz]
    simp[hj]
    (with_reducible repeat' first|refine Xk ?_<;>try simp|refine Xs ?_ ?_<;>intro h<;>(try intro h')<;>(try simp[h])<;>try omega|refine Xg ?_|omega)
    have e2:(j+1).toNat=j.toNat+1:=by omega
    rw[e2]at h1
    refine LJ.i (j+1) (by first|rfl|simp[h1,e2,show ¬ (j+1=0)by omega]) (by first|rfl|simp[h1,e2,show ¬ (j+1=0)by omega]) rfl rfl ?_
    exact mW
  ·have e1:(l.take j.toNat)=l:=ky (by omega)
   have mP:j.toNat=l.length:=by omega
   rw[if_neg (by omega)]
   simp[hj,e1,mP]
@[irreducible] def mJ(p:Pos):List Int:=fl [p.cs,p.h0,p.h1,[p.fH,p.side]]
theorem xY(p:Pos):mJ p=fl [p.cs,p.h0,p.h1,[p.fH,p.side]]:=by unfold mJ;rfl
def mU(p:Pos):ByteArray:=((mJ p).map fun n=>IntKind.u8.wrap n).foldl (fun r n=>r.push (UInt8.ofNat n.toNat)) ByteArray.empty
@[simp] theorem UP(l:List Int)(n:Int):cl fU l ++ [.val (.int .u8 n)]=cl fU (l ++ [n]):=by rw[← oR,zn]
@[simp] theorem Uz:∀ l:List Int,bytesOf (cl fU l)=some l
 | []=>by simp[bytesOf]
 | a::r=>by rw[na,zn,eF,bytesOf,Uz r]
def f101(p:Pos)(h:0<p.cs.length)(hl:(mJ p).length<1000):Wf T 93 [dP p] [] (Is (.val (.string (mU p)))):=by
 have hk:0<(mJ p).length:=by simp[xY,vB];omega
 have hc:=f148 [p.cs,p.h0,p.h1,[p.fH,p.side]] (by simp) (by rw[← xY];exact⟨hk,hl⟩)
 rw[← xY]at hc
 refine Yg DJ ?_
 simp[DJ]
 refine fG.nr rfl rfl hc (by simp[lQ,chunks];unfold dI;simp only[List.map_cons,List.map_nil,zl]) (by simp) (by simp) ?_
 simp
 refine fh.e (0:Int) (fun y=>[(3,if y=0 then .eU else .eX 4 (y.toNat-1) 1 0 y.toNat),(20,.eX 3 4 1 0 (mJ p).length),(21,.i (mJ p).length),(22,.i y)]) (fun y=>[.row 46 0 p.cells,.row 3 0 [.i p.fH,.i p.side],.row 37 0 [dI p.cs,dI p.h0,dI p.h1,.eX 1 0 1 0 2],.row 3 4 (cl f1 (mJ p))]++(if y=0 then []else [.row 5 (y.toNat-1) (cl fU (((mJ p).take y.toNat).map fun n=>IntKind.u8.wrap n))])) (fun y=>0≤y∧y≤(mJ p).length) (fun y=>((mJ p).length-y).toNat) ?_ ?_
 ·simp
 rintro i ⟨i0,i1⟩
 by_cases hi:i<(mJ p).length
 ·have hT:(List.take (i.toNat+1) (mJ p)).map (fun n=>IntKind.u8.wrap n)=(List.take i.toNat (mJ p)).map (fun n=>IntKind.u8.wrap n) ++ [IntKind.u8.wrap (gt (mJ p) i)]:=by
   rw[← show(i+1).toNat=i.toNat+1 by omega,iD i0 hi];simp
  have e1:(i+1).toNat=i.toNat+1:=by omega
  by_cases hz:i=0
  ·rw[if_pos hz,if_pos hz]
   have ez:i.toNat=0:=by omega
   rw[ez]at hT e1
   simp at hT
   simp[hi]
   (with_reducible repeat' first|refine Xk ?_<;>try simp|refine Xs ?_ ?_<;>intro h<;>(try intro h')<;>(try simp[h])<;>try omega|refine Xg ?_|omega)
   refine LJ.i (i+1) (by first|rfl|simp[show ¬ (i+1=0)by omega,e1,hT,jg]) (by first|rfl|simp[show ¬ (i+1=0)by omega,e1,hT,jg]) rfl rfl ?_
   exact mW
  ·rw[if_neg hz,if_neg hz]
   simp[hi]
   (with_reducible repeat' first|refine Xk ?_<;>try simp|refine Xs ?_ ?_<;>intro h<;>(try intro h')<;>(try simp[h])<;>try omega|refine Xg ?_|omega)
   have e2:i.toNat-1+1=i.toNat:=by omega
   simp at hT
   refine LJ.i (i+1) (by first|rfl|simp[show ¬ (i+1=0)by omega,e1,hT,e2,di]) (by first|rfl|simp[show ¬ (i+1=0)by omega,e1,hT,e2,di]) rfl rfl ?_
   exact mW
 ·rw[if_neg (by omega),if_neg (by omega)]
  have e3:i.toNat=(mJ p).length:=by omega
  simp[hi,y8,e3]
  rfl
