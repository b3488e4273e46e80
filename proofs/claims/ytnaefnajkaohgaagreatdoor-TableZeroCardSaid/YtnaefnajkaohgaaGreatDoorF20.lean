/- Part 20 of the proof of skewer.skewerlaw15.TableZero. -/
import Derived.Test.YtnaefnajkaohgaaGreatDoorF12
import Derived.Test.YtnaefnajkaohgaaGreatDoorF19
import Derived.Test.YtnaefnajkaohgaaGreatDoorF13
set_option linter.all false
namespace Go.Proofs.YtnaefnajkaohgaaGreatDoor
open Go Go.AL Classical
set_option maxRecDepth 10000
set_option maxHeartbeats 4000000
def lj(l:List eD):D:=dN 8 eD.cells l
@[simp] theorem OS(l:List eD):closed (lj l)=true:=tj (fun a=>by simp[eD.cells,eT]) l
theorem f132(l:List Int)(h:0<l.length)(h2:l.length<2 ^ 40):Wf T 132 [dI l] [] (fun d H=>d = .et 0 1 1 0 l.length∧H = [.row 3 1 (cl f1 l)]):=by
 refine Yg Ai ?_
 simp[Ai]
 refine oA.i (a:=.b false) (by cases l with|nil=>exact absurd h (by simp)|cons a r=>rfl) ?_
 simp
 (with_reducible repeat' first|refine Xk ?_<;>try simp|refine Xs ?_ ?_<;>intro h<;>(try intro h')<;>(try simp[h])<;>(try omega)|refine Xg ?_|omega)
theorem f91(s:eD)(hs:Small s.p)(h0:0<s.p.cs.length∧0<s.p.h0.length∧0<s.p.h1.length):Wf T 91 [.agg s.cells] [] (fun d H=>d = .agg [.et 0 1 1 0 s.p.cs.length,.et 1 1 1 0 s.p.h0.length,.et 2 1 1 0 s.p.h1.length,.i s.p.eQ,.i s.p.side,.i s.kind,.i s.cur,.b s.gL]∧H = [.row 3 1 (cl f1 s.p.cs),.row 3 1 (cl f1 s.p.h0),.row 3 1 (cl f1 s.p.h1)]):=by
 refine Yg B0 ?_
 simp[B0,eD.cells]
 refine Yn (f132 s.p.cs h0.1 hs.1) ?_
 simp
 refine rN.n rfl rfl (f132 s.p.h0 h0.2.1 hs.2.1) (by simp) (by simp) ?_
 simp
 refine rN.n rfl rfl (f132 s.p.h1 h0.2.2 hs.2.2) (by simp) (by simp) ?_
 simp
theorem f241(s:eD)(b:Bool):Wf T 241 [.agg s.cells,.b b] [] (Is (lj (if b then [s]else []))):=by
 refine Yg Bd ?_
 simp[Bd,eD.cells]
 cases b
 ·simp
  rfl
 ·simp
  rfl
theorem f243(s:eD)(h:0≤s.cur∧s.cur<s.p.cs.length)(hs:Small s.p):Wf T 243 [.agg s.cells] [] (Is (.tup [.i (eR (gt s.p.cs s.cur)),.i (gR (gt s.p.cs s.cur))])):=by
 refine Yg Bf ?_
 simp[Bf,eD.cells]
 (with_reducible repeat' first|refine Xk ?_<;>try simp|refine Xs ?_ ?_<;>intro h<;>(try intro h')<;>(try simp[h])<;>(try omega)|refine Xg ?_|omega)
 refine Yc (f84 _) ?_
 simp
theorem f199(g:ew)(hg:eU g)(s:eD)(hs:gZ g s)(n:Int):Wf T 199 [.agg s.cells,dG g,.i n] [] (Is (lj (fZ g s (1,n)))):=by
 refine Yg AZ ?_
 simp[AZ,eD.cells]
 refine Yc (f240 g hg.gF s.p.side n s.cur) ?_
 simp
 refine eS.c rfl rfl (f241 { s with cur:=jl g s.p.side n s.cur } (decide (0≤jl g s.p.side n s.cur))) (by simp[eD.cells]) (by simp) ?_
 simp[fZ]
theorem f201(g:ew)(hg:eU g)(s:eD)(hs:gZ g s)(n:Int):Wf T 201 [.agg s.cells,dG g,.i n] [] (Is (lj (fZ g s (3,n)))):=by
 have fL:=hs.p.size
 have lq:=hs.cur
 refine Yg A1 ?_
 simp[A1,eD.cells]
 (with_reducible repeat' first|refine Xk ?_<;>try simp|refine Xs ?_ ?_<;>intro h<;>(try intro h')<;>(try simp[h])<;>(try omega)|refine Xg ?_|omega)
 refine gi.c rfl rfl (f241 s (decide (gt s.p.cs s.cur=0))) (by simp[eD.cells]) (by simp) ?_
 simp[fZ]
theorem f202(g:ew)(hg:eU g)(s:eD)(hs:gZ g s)(n:Int):Wf T 202 [.agg s.cells,dG g,.i n] [] (Is (lj (fZ g s (4,n)))):=by
 have fL:=hs.p.size
 have lq:=hs.cur
 have gp:=hs.p.side
 refine Yg A2 ?_
 simp[A2,eD.cells]
 refine eS.c rfl rfl (f243 s (by omega) (hs.p.small hg)) (by simp[eD.cells]) (by simp) ?_
 simp
 (with_reducible repeat' first|refine Xk ?_<;>try simp|refine Xs ?_ ?_<;>intro h<;>(try intro h')<;>(try simp[h])<;>(try omega)|refine Xg ?_|omega)
 refine eS.c rfl rfl (f241 s (decide (gR (gt s.p.cs s.cur)=1-s.p.side))) (by simp[eD.cells]) (by simp) ?_
 simp[fZ]
theorem f203(g:ew)(hg:eU g)(s:eD)(hs:gZ g s)(n:Int):Wf T 203 [.agg s.cells,dG g,.i n] [] (Is (lj (fZ g s (5,n)))):=by
 have fL:=hs.p.size
 have lq:=hs.cur
 refine Yg A3 ?_
 simp[A3,eD.cells]
 refine eS.c rfl rfl (f243 s (by omega) (hs.p.small hg)) (by simp[eD.cells]) (by simp) ?_
 simp
 refine eS.c rfl rfl (f241 s (decide (gR (gt s.p.cs s.cur)=s.p.side))) (by simp[eD.cells]) (by simp) ?_
 simp[fZ]
theorem f206(g:ew)(s:eD)(n:Int):Wf T 206 [.agg s.cells,dG g,.i n] [] (Is (lj (fZ g s (8,n)))):=by
 refine Yg A5 ?_
 simp[A5,eD.cells]
 rfl
theorem f207(g:ew)(hg:eU g)(s:eD)(hs:gZ g s)(n:Int)(hn:0≤n∧n<g.eQ):Wf T 207 [.agg s.cells,dG g,.i n] [] (Is (lj (fZ g s (9,n)))):=by
 have hr:=hs.p.eQ
 have oM:=hg.eQ
 have h5:=wh oM.1 (by omega)
 have ha:=Ni (r:=s.p.eQ) (n:=n) hr.1 (by omega) hn.1 (by omega)
 refine Yg A6 ?_
 simp[A6,eD.cells]
 (with_reducible repeat' first|refine Xk ?_<;>try simp|refine Xs ?_ ?_<;>intro h<;>(try intro h')<;>(try simp[h])<;>(try omega)|refine Xg ?_|omega)
 refine gi.c rfl rfl (f241 s (decide (bits BinOp.and IntKind.i64 (sV IntKind.i64 s.p.eQ n) 1=1))) (by simp[eD.cells]) (by simp) ?_
 simp[fZ,ha]
theorem f208(g:ew)(hg:eU g)(s:eD)(hs:gZ g s)(n:Int)(hn:0≤n∧n<g.eQ):Wf T 208 [.agg s.cells,dG g,.i n] [] (Is (lj (fZ g s (10,n)))):=by
 have hr:=hs.p.eQ
 have oM:=hg.eQ
 have h5:=wh oM.1 (by omega)
 have ha:=Nj (r:=s.p.eQ) (n:=n) hr.1 (by omega) hn.1 (by omega)
 refine Yg A7 ?_
 simp[A7,eD.cells,ha]
 (with_reducible repeat' first|refine Xk ?_<;>try simp[ha]|refine Xs ?_ ?_<;>intro h<;>(try intro h')<;>(try simp[h,ha])<;>(try omega)|refine Xg ?_|omega)
 rfl
theorem f205(g:ew)(hg:eU g)(s:eD)(hs:gZ g s)(n:Int):Wf T 205 [.agg s.cells,dG g,.i n] [] (Is (lj (fZ g s (7,n)))):=by
 have fL:=hs.p.size
 have lq:=hs.cur
 have iv:=hs.p.small hg
 have xT:=hg.gF.size
 have hk:=hg.kinds
 have l0:=hs.p.h0.len
 have l1:=hs.p.h1.len
 have ht:=hg.gF.to s.p.side n s.cur
 have e:fZ g s (7,n)=oy g s n:=by simp[fZ]
 rw[e]
 refine Yg A4 ?_
 simp[A4,eD.cells]
 refine Yc (f240 g hg.gF s.p.side n s.cur) ?_
 simp
 (with_reducible repeat' first|refine Xk ?_<;>try simp|refine Xs ?_ ?_<;>intro h<;>(try intro h')<;>(try simp[h])<;>(try omega)|refine Xg ?_|omega)
 ·rw[oy,if_pos (by simp_all)];rfl
 ·rw[oy,if_pos (by simp_all)];rfl
 ·have q0:=fX (l:=s.p.cs) (n:=jl g s.p.side n s.cur) (v:=gt s.p.cs s.cur) (by omega) (by omega)
  have q1:=fX (l:=pt s.p.cs (jl g s.p.side n s.cur) (gt s.p.cs s.cur)) (n:=s.cur) (v:=0) lq.1 (by omega)
  refine Yn (f91 s iv (by omega)) ?_
  simp
  (with_reducible repeat' first|refine Xk ?_<;>try simp[q0,q1]|refine Xs ?_ ?_<;>intro h<;>(try intro h')<;>(try simp[h,q0,q1])<;>(try omega)|refine Xg ?_|omega)
  simp[oy, *]
  rfl
 ·rw[oy,if_pos (by simp_all)];rfl
theorem f204(g:ew)(hg:eU g)(s:eD)(hs:gZ g s)(n:Int):Wf T 204 [.agg s.cells,dG g,.i n] [] (Is (lj (fZ g s (6,n)))):=by
 have fL:=hs.p.size
 have lq:=hs.cur
 have iv:=hs.p.small hg
 have xT:=hg.gF.size
 have lZ:=hg.kinds
 have l0:=hs.p.h0.len
 have l1:=hs.p.h1.len
 have gC:=hs.p.cs _ (eI lq.1 (by omega))
 have gp:=hs.p.side
 have e:fZ g s (6,n)=nN g s:=by simp[fZ]
 rw[e]
 refine Yz wP (gj 52 [2,3,4] wP.body) ?_
 simp[wP,gj,iw,ky,kA,kK,jy,eD.cells]
 refine eS.c rfl rfl (f243 s (by omega) iv) (by simp[eD.cells]) (by simp) ?_
 simp
 by_cases hx:gR (gt s.p.cs s.cur)=1-s.p.side
 ·have ye:0≤eR (gt s.p.cs s.cur):=by
   unfold gR at hx;unfold eR
   split at hx<;>rename_i h5
   ·rw[if_pos h5];omega
   ·omega
  have hm:eR (gt s.p.cs s.cur)<g.kinds.length:=rp gC.2 lZ.1
  have GD:s.p.side=0∨s.p.side=1:=by omega
  have q0:=fX (l:=s.p.cs) (n:=s.cur) (v:=0) lq.1 (by omega)
  simp[hx]
  (with_reducible repeat' first|refine Xk ?_<;>try simp|refine Xs ?_ ?_<;>intro h<;>(try intro h')<;>(try simp[h])<;>(try omega)|refine Xg ?_|omega)
  refine Yn (f91 s iv (by omega)) ?_
  simp
  (with_reducible repeat' first|refine Xk ?_<;>try simp[q0]|refine Xs ?_ ?_<;>intro h<;>(try intro h')<;>(try simp[h,q0])<;>(try omega)|refine Xg ?_|omega)
  ·have sA:=h
   rcases GD with e|e
   ·have ha:=hs.p.h0.at_ _ (by omega) (show eR (gt s.p.cs s.cur)<s.p.h0.length by omega)
    have q1:=vt (l:=s.p.h0) (n:=eR (gt s.p.cs s.cur)) (v:=gt s.p.h0 (eR (gt s.p.cs s.cur))+1) (by omega) (by omega)
    have q2:=fX (l:=s.p.h0) (n:=eR (gt s.p.cs s.cur)) (v:=gt s.p.h0 (eR (gt s.p.cs s.cur))+1) (by omega) (by omega)
    simp[e,q0,q1,q2]
    (with_reducible repeat' first|refine Xk ?_<;>try simp[q0,q1,q2]|refine Xs ?_ ?_<;>intro h<;>(try intro h')<;>(try simp[h,q0,q1,q2])<;>(try omega)|refine Xg ?_|omega)
    refine gi.c rfl rfl (f241 { p:={ s.p with cs:=pt s.p.cs s.cur 0,h0:=pt s.p.h0 (eR (gt s.p.cs s.cur)) (gt s.p.h0 (eR (gt s.p.cs s.cur))+1),side:=0 },kind:=s.kind,cur:=s.cur,gL:=true } (decide (gt s.p.h0 (eR (gt s.p.cs s.cur))+1≤8))) (by simp[eD.cells]) (by simp) ?_
    simp[nN,hx,sA,Pos.hand,Pos.jI,e]
    done
   ·have ha:=hs.p.h1.at_ _ (by omega) (show eR (gt s.p.cs s.cur)<s.p.h1.length by omega)
    have q1:=vt (l:=s.p.h1) (n:=eR (gt s.p.cs s.cur)) (v:=gt s.p.h1 (eR (gt s.p.cs s.cur))+1) (by omega) (by omega)
    have q2:=fX (l:=s.p.h1) (n:=eR (gt s.p.cs s.cur)) (v:=gt s.p.h1 (eR (gt s.p.cs s.cur))+1) (by omega) (by omega)
    simp[e,q0,q1,q2]
    (with_reducible repeat' first|refine Xk ?_<;>try simp[q0,q1,q2]|refine Xs ?_ ?_<;>intro h<;>(try intro h')<;>(try simp[h,q0,q1,q2])<;>(try omega)|refine Xg ?_|omega)
    refine gi.c rfl rfl (f241 { p:={ s.p with cs:=pt s.p.cs s.cur 0,h1:=pt s.p.h1 (eR (gt s.p.cs s.cur)) (gt s.p.h1 (eR (gt s.p.cs s.cur))+1),side:=1 },kind:=s.kind,cur:=s.cur,gL:=true } (decide (gt s.p.h1 (eR (gt s.p.cs s.cur))+1≤8))) (by simp[eD.cells]) (by simp) ?_
    simp[nN,hx,sA,Pos.hand,Pos.jI,e]
    done
  ·simp[nN,hx,h,q0]
   rfl
 ·simp[hx]
  (with_reducible repeat' first|refine Xk ?_<;>try simp|refine Xs ?_ ?_<;>intro h<;>(try intro h')<;>(try simp[h])<;>(try omega)|refine Xg ?_|omega)
  rw[nN,if_pos hx];rfl
set_option maxRecDepth 10000
set_option maxHeartbeats 4000000
theorem f259(g:ew)(s d c:Int):Wf T 259 [g.gF,.i s,.i d,.i c] [] (Is (.fn (.func 265) [] [.eF [.i g.size,.sl 1 (g.next.map fI),dI g.gy],.eF [.i s],.eF [.i d],.eF [.i c]])):=by
 refine Yg Bn ?_
 simp[Bn]
theorem f266(l:List Int)(n:Int)(hl:l.length<2 ^ 40):Wf T 266 [dI l,.i n] [] (Ey (fun r:Int=>.i r) fun r=>0≤r↔n∈l):=by
 refine Yg uZ ?_
 simp[uZ]
 refine eE.e (0:Int) (fun y=>[(0,dI l),(1,.i n),(7,.i l.length),(8,.i y)]) (fun y=>[]) (fun y=>0≤y∧y≤l.length∧n ∉ l.take y.toNat) (fun y=>(l.length-y).toNat) ?_ ?_
 ·simp
 rintro i ⟨i0,i1,i2⟩
 by_cases hi:i<l.length
 ·simp[hi]
  (with_reducible repeat' first|refine Xk ?_<;>try simp|refine Xs ?_ ?_<;>intro h<;>(try intro h')<;>(try simp[h])<;>(try omega)|refine Xg ?_|omega)
  ·exact Ey.i i rfl rfl ⟨fun _=>by have:=eI i0 hi;simp_all,fun _=>i0⟩
  ·refine LJ.e (i+1) ?_
   refine⟨by omega,by omega,by omega,?_⟩
   rw[gg i0 hi]
   simp[i2]
   omega
 ·simp[hi]
  rw[iD (by omega)]at i2
  exact Ey.i (-1) rfl rfl ⟨fun h=>by omega,fun h=>absurd h i2⟩
theorem f260(l:List Int)(n:Int)(hl:l.length<2 ^ 40):Wf T 260 [dI l,.i n] [] (Is (.b (decide (n∈l)))):=by
 refine Yg uY ?_
 simp[uY]
 refine Yq (f266 l n hl) fun r hr=>?_
 simp
 simp[hr]
theorem PH(n:Int):Wf T 266 [.emp,.i n] [] (Is (.i (-1))):=by
 refine Yg uZ ?_
 simp[uZ]
 refine eE.un ?_
 refine ib.u ?_
 simp
theorem PG(n:Int):Wf T 260 [.emp,.i n] [] (Is (.b false)):=by
 refine Yg uY ?_
 simp[uY]
 refine Yc (PH n) ?_
 simp
theorem f265(g:ew)(hg:kN g)(s d c:Int):Wf T 265 [.gv 4,.eF [.i g.size,.sl 1 (g.next.map fI),dI g.gy],.eF [.i s],.eF [.i d],.eF [.i c]]
  [.row 37 0 [.i g.size,.sl 1 (g.next.map fI),dI g.gy],.row 3 0 [.i c],.row 33 0 [.emp],.jv,.fy 15488 [(7,.ptr 1 0 0),(9,.ptr 2 0 0)] .ready]
  (fun _ H'=>∃ st,(st = .ready∨st = .r9 0)∧H' = [.row 37 0 [.i g.size,.sl 1 (g.next.map fI),dI g.gy],.row 3 0 [.i c],.row 33 0 [if iT g s d c = []then .emp else .et 5 ((iT g s d c).length-1) 1 0 (iT g s d c).length],.jv,.fy 15488 [(7,.ptr 1 0 0),(9,.ptr 2 0 0)] st]++(if iT g s d c = []then []else [.row 3 ((iT g s d c).length-1) (cl f1 (iT g s d c))])):=by
 have hb:=hg.size
 refine Yg Bp ?_
 simp[Bp]
 refine Yr (f240 g hg s d c) ?_
 simp
 refine eE.e ((0,jl g s d c,[]):Nat×Int×List Int) (fun x=>[(0,.gv 4),(1,.eF [.i g.size,.sl 1 (g.next.map fI),dI g.gy]),(2,.eF [.i s]),(3,.eF [.i d]),(6,.i x.2.1)]) (fun x=>[.row 37 0 [.i g.size,.sl 1 (g.next.map fI),dI g.gy],.row 3 0 [.i c],.row 33 0 [if x.2.2 = []then .emp else .et 5 (x.2.2.length-1) 1 0 x.2.2.length],.jv,.fy 15488 [(7,.ptr 1 0 0),(9,.ptr 2 0 0)] .ready]++(if x.2.2 = []then []else [.row 3 (x.2.2.length-1) (cl f1 x.2.2)])) (fun x=>x.1=x.2.2.length∧x.2.1<g.size∧x.2.2.Nodup∧(∀ y∈x.2.2,0≤y∧y<g.size)∧iT g s d c=oi g s d c (10-x.1) x.2.1 x.2.2) (fun x=>10-x.1) ?_ ?_
 ·have:=hg.to s d c
  simp[iT];omega
 rintro⟨m,x,out⟩ ⟨h0,h1,h2,h3,h4⟩
 dsimp only at h0 h1 h2 h3 h4 ⊢
 have hm:out.length≤9:=yY 9 out h2 (fun y hy=>by have:=h3 y hy;omega)
 have e:=h4
 rw[show 10-m=(9-m)+1 by omega,oi]at e
 have kx:=hg.to s d x
 by_cases ho:out = []
 ·subst ho
  by_cases hx:0≤x
  ·simp[hx]
   refine nQ.r (rf:=15488) (env0:=[(7,.ptr 1 0 0),(9,.ptr 2 0 0)]) (Rd:=pR) (by simp) rfl rfl pR.a pR.b (l9 rfl) (l9 rfl) ?_
   simp[pR]
   by_cases hc:x=c
   ·have e3:iT g s d c = []:=by rw[e,if_neg (fun h=>h.2.1 hc)]
    simp[hc,e3]
   ·have e2:iT g s d c=oi g s d c (9-m) (jl g s d x) [x]:=by rw[e,if_pos ⟨hx,hc,by simp⟩];rfl
    simp[hc]
    refine Yc (PG x) ?_
    simp
    (with_reducible repeat' first|refine Xk ?_<;>try simp|refine Xs ?_ ?_<;>intro h<;>(try intro h')<;>(try simp[h])<;>(try omega)|refine Xg ?_|omega)
    refine Yr (f240 g hg s d x) ?_
    simp
    refine LJ.i (m+1,jl g s d x,[x]) (by first|rfl|simp[gV]) (by first|rfl|simp[gV]) rfl rfl ?_
    dsimp only
    refine⟨by simp at h0;omega,by simp at h0;simp;omega,kx.2,by simp,by simp;omega,?_⟩
    rw[e2];congr 1;omega
  ·have e3:iT g s d c = []:=by rw[e,if_neg (fun h=>hx h.1)]
   simp[hx,e3]
 ·simp only[if_neg ho,ct,bJ]
  by_cases hx:0≤x
  ·simp[hx]
   refine nQ.r (rf:=15488) (env0:=[(7,.ptr 1 0 0),(9,.ptr 2 0 0)]) (Rd:=pR) (by simp) rfl rfl pR.a pR.b (l9 rfl) (l9 rfl) ?_
   simp[pR]
   by_cases hc:x=c
   ·have e3:iT g s d c=out:=by rw[e,if_neg (fun h=>h.2.1 hc)]
    simp[hc,e3,ho]
   ·simp[hc]
    refine Yr (f260 out x (by omega)) ?_
    simp
    refine X2.z hc ?_
    simp
    by_cases fg:x∈out
    ·have e3:iT g s d c=out:=by rw[e,if_neg (fun h=>h.2.2 fg)]
     simp[fg,e3,ho]
    ·have e2:iT g s d c=oi g s d c (9-m) (jl g s d x) (out ++ [x]):=by rw[e,if_pos ⟨hx,hc,fg⟩]
     have hl:0<out.length:=aB.2 ho
     simp[fg]
     (with_reducible repeat' first|refine Xk ?_<;>try simp|refine Xs ?_ ?_<;>intro h<;>(try intro h')<;>(try simp[h])<;>(try omega)|refine Xg ?_|omega)
     refine Yr (f240 g hg s d x) ?_
     simp
     refine LJ.i (m+1,jl g s d x,out ++ [x]) (by first|rfl|simp[show out.length-1+1=out.length by omega]) (by first|rfl|simp[show out.length-1+1=out.length by omega]) rfl rfl ?_
     dsimp only
     refine⟨by omega,by simp;omega,kx.2,?_,fun y hy=>?_,?_⟩
     ·rw[cj];exact⟨h2,by simp,fun a ha b hb=>by rw[List.mem_singleton.1 hb];rintro rfl;exact fg ha⟩
     ·rcases List.mem_append.1 hy with hy|hy
      ·exact h3 y hy
      ·rw[List.mem_singleton.1 hy];omega
     ·rw[e2];congr 1;omega
  ·have e3:iT g s d c=out:=by rw[e,if_neg (fun h=>hx h.1)]
   simp[hx,e3,ho]
theorem f242(g:ew)(hg:kN g)(s d c:Int):Wf T 242 [g.gF,.i s,.i d,.i c] [] (Is (dN 1 f1 (iT g s d c))):=by
 refine Yg Be ?_
 simp[Be]
 refine Yc (f259 g s d c) ?_
 simp
 refine u7.r (f:=265) (first:=[]) (cap:=[.eF [.i g.size,.sl 1 (g.next.map fI),dI g.gy],.eF [.i s],.eF [.i d],.eF [.i c]]) rfl rfl rfl rfl ?_
 simp
 refine Wf.mono (f265 g hg s d c) ?_
 rintro _ H' ⟨st,eH,rfl⟩
 refine⟨[(7,.ptr 1 0 0),(9,.ptr 2 0 0)],st,by simp,?_⟩
 by_cases h:iT g s d c = []
 ·rcases eH with rfl|rfl
  ·simp[h]
   rfl
  ·simp[h]
   rfl
 ·have e:dI (iT g s d c)=dN 1 f1 (iT g s d c):=by
   revert h
   cases iT g s d c with
   | nil=>intro h;exact absurd rfl h
   | cons a r=>intro _;rfl
  rcases eH with rfl|rfl
  ·simp[h,e]
  ·simp[h,e]
@[simp] theorem ad6(l:List Int):closed (dN 1 f1 l)=true:=tj (fun a=>by simp[eT]) l
theorem Fk{l:List eD}(h:l≠[]):ij l=lj l:=by
 cases l with
 | nil=>exact absurd rfl h
 | cons a r=>rfl
theorem f200(g:ew)(hg:eU g)(s:eD)(hs:gZ g s)(n:Int):Wf T 200 [.agg s.cells,dG g,.i n] [] (Is (lj (fZ g s (2,n)))):=by
 have fL:=hs.p.size
 have xT:=hg.gF.size
 have e:fZ g s (2,n)=l5 s (iT g s.p.side n s.cur):=by simp[fZ]
 have fg:∀ y∈iT g s.p.side n s.cur,0≤y∧y<g.size:=fun y hy=>G9 hg.gF hy
 have hlen:(iT g s.p.side n s.cur).length≤10:=G'
 rw[e]
 refine Yg A0 ?_
 simp[A0,eD.cells]
 refine Yc (f242 g hg.gF s.p.side n s.cur) ?_
 simp
 generalize iT g s.p.side n s.cur=l at *
 refine eE.e ((0,[]):Int×List eD) (fun y=>[(3,.ptr 0 0 0),(7,if y.1=0 then .emp else .et 2 (y.2.length-1) 8 0 y.2.length),(19,dN 1 f1 l),(20,.i l.length),(21,.i y.1)]) (fun y=>.row 171 0 s.cells :: .row 41 0 g.cells::(if y.1=0 then []else [.row 171 (y.2.length-1) (cl eD.cells y.2)])) (fun y=>0≤y.1∧y.1≤l.length∧y.2.length=y.1.toNat∧l5 s l=y.2++l5 s (l.drop y.1.toNat)) (fun y=>(l.length-y.1).toNat) ?_ ?_
 ·simp
 rintro⟨i,st⟩ ⟨i0,i1,i2,i3⟩
 dsimp only at i0 i1 i2 i3 ⊢
 by_cases hi:i<l.length
 ·have hc:=fg _ (eI i0 hi)
  rw[kI i0 hi,l5]at i3
  by_cases hz:i=0
  ·have:st = []:=aA.1 (by omega)
   subst hz;subst this
   simp[hi,eD.cells]
   (with_reducible repeat' first|refine Xk ?_<;>try simp|refine Xs ?_ ?_<;>intro h<;>(try intro h')<;>(try simp[h])<;>(try omega)|refine Xg ?_|omega)
   ·refine LJ.i (1,[{ s with cur:=gt l 0 }]) (by first|rfl|simp[gV,eD.cells]) (by first|rfl|simp[gV,eD.cells]) rfl rfl ?_
    refine⟨by dsimp only;omega,by dsimp only;omega,by dsimp only;omega,rfl,?_⟩
    rw[i3,if_pos h];rfl
   ·rw[i3,if_neg h];rfl
  ·have hl:0<st.length:=by omega
   rw[if_neg hz,if_neg hz]
   simp[hi,eD.cells]
   (with_reducible repeat' first|refine Xk ?_<;>try simp|refine Xs ?_ ?_<;>intro h<;>(try intro h')<;>(try simp[h])<;>(try omega)|refine Xg ?_|omega)
   ·refine LJ.i (i+1,st ++ [{ s with cur:=gt l i }]) (by first|rfl|simp[show ¬ (i+1=0)by omega,show st.length-1+1=st.length by omega,eD.cells]) (by first|rfl|simp[show ¬ (i+1=0)by omega,show st.length-1+1=st.length by omega,eD.cells]) rfl rfl ?_
    refine⟨by dsimp only;omega,by dsimp only;omega,by dsimp only;omega,by simp;omega,?_⟩
    rw[i3,if_pos h,show(i+1).toNat=i.toNat+1 by omega];simp
   ·rw[i3,if_neg h,← Fk (by simp)]
    simp[ij,eD.cells]
 ·rw[c8 (by omega),l5,av]at i3
  by_cases hz:i=0
  ·have:st = []:=aA.1 (by omega)
   subst hz;subst this
   simp[show ¬ 0<l.length by omega,eD.cells]
   rw[i3];rfl
  ·rw[if_neg hz,if_neg hz]
   simp[hi,eD.cells]
   rw[i3,Fk (by intro h;rw[h]at i2;simp at i2;omega)]
set_option maxRecDepth 10000
set_option maxHeartbeats 4000000
theorem f164(g:ew)(hg:eU g)(s:eD)(hs:gZ g s)(x:eG)(hx:w9 g x):Wf T 164 [dG g,.agg s.cells,.agg [.i x.1,.i x.2]] [] (Is (lj (fZ g s x))):=by
 obtain⟨k,n⟩:=x
 have jH:=hx.ok
 dsimp only at jH ⊢
 rcases(show k=1∨k=2∨k=3∨k=4∨k=5∨k=6∨k=7∨k=8∨k=9∨k=10 by omega)with rfl|rfl|rfl|rfl|rfl|rfl|rfl|rfl|rfl|rfl
 all_goals
  refine Yg AH ?_
  simp[AH,eD.cells]
 ·refine gi.c rfl rfl (f199 g hg s hs n) (by simp) (by simp) ?_
  simp
 ·refine gi.c rfl rfl (f200 g hg s hs n) (by simp) (by simp) ?_
  simp
 ·refine gi.c rfl rfl (f201 g hg s hs n) (by simp) (by simp) ?_
  simp
 ·refine gi.c rfl rfl (f202 g hg s hs n) (by simp) (by simp) ?_
  simp
 ·refine gi.c rfl rfl (f203 g hg s hs n) (by simp) (by simp) ?_
  simp
 ·refine gi.c rfl rfl (f204 g hg s hs n) (by simp) (by simp) ?_
  simp
 ·refine gi.c rfl rfl (f205 g hg s hs n) (by simp) (by simp) ?_
  simp
 ·refine gi.c rfl rfl (f206 g s n) (by simp) (by simp) ?_
  simp
 ·refine gi.c rfl rfl (f207 g hg s hs n (by omega)) (by simp) (by simp) ?_
  simp
 ·refine gi.c rfl rfl (f208 g hg s hs n (by omega)) (by simp) (by simp) ?_
  simp
set_option maxRecDepth 10000
set_option maxHeartbeats 4000000
@[simp] theorem acv(t sz bytes:Nat)(z:List D)(m:Int)(vn:Nat):Cd t sz bytes z .emp (.val (.int .i64 m)) vn=if 0<m∧mm (m*bytes) 140737488355328∧mm m 9223372036854775807 then some (.et vn 0 sz 0 m.toNat,.new (.row t 0 (List.replicate m.toNat z).flatten))else none:=rfl
theorem f191(n:Int)(hn:0<n∧n<1000):Wf T 191 [.emp,.i n] [] (fun d H=>d = .et 0 0 1 0 0∧H = [.row 3 0 (cl f1 (List.replicate n.toNat 0))]):=by
 refine Yg AU ?_
 simp[AU]
 (with_reducible repeat' first|refine Xk ?_<;>try simp|refine Xs ?_ ?_<;>intro h<;>(try intro h')<;>(try simp[h])<;>(try omega)|refine Xg ?_|omega)
@[irreducible] def fl(l:List (List Int)):List Int:=l.flatten
theorem sh(l:List (List Int)):fl l=l.flatten:=by unfold fl;rfl
@[simp] theorem aeO:fl [] = []:=by simp[sh]
theorem Kt{l:List (List Int)}{i:Int}(h0:0≤i)(h:i<l.length):fl (l.take (i+1).toNat)=fl (l.take i.toNat)++gt l i:=by
 rw[gg h0 h];simp[sh]
theorem Kr(l:List (List Int))(n:Nat):(fl (l.take n)).length≤(fl l).length:=by
 simp only[sh]
 conv=>rhs;rw[← bK n l]
 simp only[List.flatten_append,az]
 omega
theorem f148(l:List (List Int))(hl:l.length≤10)(hn:0<(fl l).length∧(fl l).length<1000):Wf T 148 [.sl 1 (l.map fI)] [] (fun d H=>d = .et 0 l.length 1 0 (fl l).length∧H = [.row 3 l.length (cl f1 (fl l))]):=by
 have fF:0<l.length:=by
  cases l with
  | nil=>simp at hn
  | cons a r=>simp
 refine Yg Az ?_
 simp[Az]
 refine eE.e (0:Int) (fun i=>[(0,.sl 1 (l.map fI)),(3,.i (fl (l.take i.toNat)).length),(9,.sl 1 (l.map fI)),(10,.i l.length),(11,.i i)]) (fun i=>[]) (fun i=>0≤i∧i≤l.length) (fun i=>(l.length-i).toNat) ?_ ?_
 ·simp
 rintro i ⟨i0,i1⟩
 by_cases hi:i<l.length
 ·have h1:=Kt i0 hi
  have h2:=Kr l (i+1).toNat
  rw[h1,az]at h2
  simp[hi]
  (with_reducible repeat' first|refine Xk ?_<;>try simp|refine Xs ?_ ?_<;>intro h<;>(try intro h')<;>(try simp[h])<;>(try omega)|refine Xg ?_|omega)
  refine LJ.i (i+1) (by first|rfl|simp[h1]) (by first|rfl|simp[h1]) rfl rfl ?_
  exact⟨by omega,by omega,by omega⟩
 ·have e1:(l.take i.toNat)=l:=iD (by omega)
  simp[hi,e1]
  refine Yn (f191 (fl l).length (by omega)) ?_
  simp
  refine eE.e (0:Int) (fun j=>[(6,.et 0 j.toNat 1 0 (fl (l.take j.toNat)).length),(25,.sl 1 (l.map fI)),(26,.i l.length),(27,.i j)]) (fun j=>[.row 3 j.toNat (if j=0 then cl f1 (List.replicate (fl l).length 0)else cl f1 (fl (l.take j.toNat)))]) (fun j=>0≤j∧j≤l.length) (fun j=>(l.length-j).toNat) ?_ ?_
  ·simp
  rintro j ⟨j0,j1⟩
  by_cases hj:j<l.length
  ·have h1:=Kt j0 hj
   have h2:=Kr l (j+1).toNat
   rw[h1,az]at h2
   by_cases hz:j=0
   ·subst hz
    simp at h1 h2
    simp[hj]
    (with_reducible repeat' first|refine Xk ?_<;>try simp|refine Xs ?_ ?_<;>intro h<;>(try intro h')<;>(try simp[h])<;>(try omega)|refine Xg ?_|omega)
    refine LJ.i (1) (by first|rfl|simp[h1]) (by first|rfl|simp[h1]) rfl rfl ?_
    exact⟨by omega,by omega,by omega⟩
   ·rw[if_neg hz]
    simp[hj]
    (with_reducible repeat' first|refine Xk ?_<;>try simp|refine Xs ?_ ?_<;>intro h<;>(try intro h')<;>(try simp[h])<;>(try omega)|refine Xg ?_|omega)
    have e2:(j+1).toNat=j.toNat+1:=by omega
    rw[e2]at h1
    refine LJ.i (j+1) (by first|rfl|simp[h1,e2,show ¬ (j+1=0)by omega]) (by first|rfl|simp[h1,e2,show ¬ (j+1=0)by omega]) rfl rfl ?_
    exact⟨by omega,by omega,by omega⟩
  ·have e1:(l.take j.toNat)=l:=iD (by omega)
   have lY:j.toNat=l.length:=by omega
   rw[if_neg (by omega)]
   simp[hj,e1,lY]
@[irreducible] def kF(p:Pos):List Int:=fl [p.cs,p.h0,p.h1,[p.eQ,p.side]]
theorem uj(p:Pos):kF p=fl [p.cs,p.h0,p.h1,[p.eQ,p.side]]:=by unfold kF;rfl
def kM(p:Pos):ByteArray:=((kF p).map fun n=>IntKind.u8.wrap n).foldl (fun r n=>r.push (UInt8.ofNat n.toNat)) ByteArray.empty
@[simp] theorem adT(l:List Int)(n:Int):cl fU l ++ [.val (.int .u8 n)]=cl fU (l ++ [n]):=by rw[← mV,FC]
@[simp] theorem Ov:∀ l:List Int,bytesOf (cl fU l)=some l
 | []=>by simp[bytesOf]
 | a::r=>by rw[mU,FC,dS,bytesOf,Ov r]
theorem f101(p:Pos)(h:0<p.cs.length)(hl:(kF p).length<1000):Wf T 101 [dP p] [] (Is (.val (.string (kM p)))):=by
 have hk:0<(kF p).length:=by simp[uj,sh];omega
 have hc:=f148 [p.cs,p.h0,p.h1,[p.eQ,p.side]] (by simp) (by rw[← uj];exact⟨hk,hl⟩)
 rw[← uj]at hc
 refine Yg zX ?_
 simp[zX]
 refine eS.nr rfl rfl hc (by simp[ln,chunks];unfold dI;simp only[List.map_cons,List.map_nil,sf]) (by simp) (by simp) ?_
 simp
 refine eE.e (0:Int) (fun y=>[(3,if y=0 then .emp else .et 4 (y.toNat-1) 1 0 y.toNat),(20,.et 3 4 1 0 (kF p).length),(21,.i (kF p).length),(22,.i y)]) (fun y=>[.row 44 0 p.cells,.row 3 0 [.i p.eQ,.i p.side],.row 33 0 [dI p.cs,dI p.h0,dI p.h1,.et 1 0 1 0 2],.row 3 4 (cl f1 (kF p))]++(if y=0 then []else [.row 5 (y.toNat-1) (cl fU (((kF p).take y.toNat).map fun n=>IntKind.u8.wrap n))])) (fun y=>0≤y∧y≤(kF p).length) (fun y=>((kF p).length-y).toNat) ?_ ?_
 ·simp
 rintro i ⟨i0,i1⟩
 by_cases hi:i<(kF p).length
 ·have hT:(List.take (i.toNat+1) (kF p)).map (fun n=>IntKind.u8.wrap n)=(List.take i.toNat (kF p)).map (fun n=>IntKind.u8.wrap n) ++ [IntKind.u8.wrap (gt (kF p) i)]:=by
   rw[← show(i+1).toNat=i.toNat+1 by omega,gg i0 hi];simp
  have e1:(i+1).toNat=i.toNat+1:=by omega
  by_cases hz:i=0
  ·rw[if_pos hz,if_pos hz]
   have ez:i.toNat=0:=by omega
   rw[ez]at hT e1
   simp at hT
   simp[hi]
   (with_reducible repeat' first|refine Xk ?_<;>try simp|refine Xs ?_ ?_<;>intro h<;>(try intro h')<;>(try simp[h])<;>(try omega)|refine Xg ?_|omega)
   refine LJ.i (i+1) (by first|rfl|simp[show ¬ (i+1=0)by omega,e1,hT,gV]) (by first|rfl|simp[show ¬ (i+1=0)by omega,e1,hT,gV]) rfl rfl ?_
   exact⟨by omega,by omega,by omega⟩
  ·rw[if_neg hz,if_neg hz]
   simp[hi]
   (with_reducible repeat' first|refine Xk ?_<;>try simp|refine Xs ?_ ?_<;>intro h<;>(try intro h')<;>(try simp[h])<;>(try omega)|refine Xg ?_|omega)
   have e2:i.toNat-1+1=i.toNat:=by omega
   simp at hT
   refine LJ.i (i+1) (by first|rfl|simp[show ¬ (i+1=0)by omega,e1,hT,e2,cT]) (by first|rfl|simp[show ¬ (i+1=0)by omega,e1,hT,e2,cT]) rfl rfl ?_
   exact⟨by omega,by omega,by omega⟩
 ·rw[if_neg (by omega),if_neg (by omega)]
  have e3:i.toNat=(kF p).length:=by omega
  simp[hi,vd,e3]
  rfl
