/- Part 20 of TableHurry. -/
import Derived.Test.YtnaefnajkaohgaaGreatDoorG12
import Derived.Test.YtnaefnajkaohgaaGreatDoorG19
import Derived.Test.YtnaefnajkaohgaaGreatDoorG13
set_option linter.all false
namespace Go.Proofs.YtnaefnajkaohgaaGreatDoor
open Go Go.AL Classical
set_option maxRecDepth 10000
set_option maxHeartbeats 4000000
def lx(l:List eE):D:=dN 8 eE.cells l
@[simp] theorem Pc(l:List eE):closed (lx l)=true:=tE (fun a=>by simp[eE.cells,eV]) l
theorem f132(l:List Int)(h:0<l.length)(h2:l.length<2 ^ 40):Wf T 132 [dI l] [] (fun d H=>d = .eu 0 1 1 0 l.length∧H = [.row 3 1 (cl f1 l)]):=by
 refine Yg As ?_
 simp[As]
 refine oA.i (a:=.b false) (by cases l with|nil=>exact absurd h (by simp)|cons a r=>rfl) ?_
 simp
 (with_reducible repeat' first|refine Xk ?_<;>try simp|refine Xs ?_ ?_<;>intro h<;>(try intro h')<;>(try simp[h])<;>(try omega)|refine Xg ?_|omega)
theorem f91(s:eE)(hs:Small s.p)(h0:0<s.p.cs.length∧0<s.p.h0.length∧0<s.p.h1.length):Wf T 91 [.agg s.cells] [] (fun d H=>d = .agg [.eu 0 1 1 0 s.p.cs.length,.eu 1 1 1 0 s.p.h0.length,.eu 2 1 1 0 s.p.h1.length,.i s.p.eR,.i s.p.side,.i s.kind,.i s.cur,.b s.gO]∧H = [.row 3 1 (cl f1 s.p.cs),.row 3 1 (cl f1 s.p.h0),.row 3 1 (cl f1 s.p.h1)]):=by
 refine Yg B' ?_
 simp[B',eE.cells]
 refine Yn (f132 s.p.cs h0.1 hs.1) ?_
 simp
 refine r7.n rfl rfl (f132 s.p.h0 h0.2.1 hs.2.1) (by simp) (by simp) ?_
 simp
 refine r7.n rfl rfl (f132 s.p.h1 h0.2.2 hs.2.2) (by simp) (by simp) ?_
 simp
theorem f241(s:eE)(b:Bool):Wf T 241 [.agg s.cells,.b b] [] (Is (lx (if b then [s]else []))):=by
 refine Yg Bm ?_
 simp[Bm,eE.cells]
 cases b
 ·simp
  rfl
 ·simp
  rfl
theorem f243(s:eE)(h:0≤s.cur∧s.cur<s.p.cs.length)(hs:Small s.p):Wf T 243 [.agg s.cells] [] (Is (.tup [.i (eS (gt s.p.cs s.cur)),.i (gV (gt s.p.cs s.cur))])):=by
 refine Yg Bo ?_
 simp[Bo,eE.cells]
 (with_reducible repeat' first|refine Xk ?_<;>try simp|refine Xs ?_ ?_<;>intro h<;>(try intro h')<;>(try simp[h])<;>(try omega)|refine Xg ?_|omega)
 refine Yc (f84 _) ?_
 simp
theorem f199(g:ey)(hg:eW g)(s:eE)(hs:ic g s)(n:Int):Wf T 199 [.agg s.cells,dG g,.i n] [] (Is (lx (gd g s (1,n)))):=by
 refine Yg A8 ?_
 simp[A8,eE.cells]
 refine Yc (f240 g hg.gH s.p.side n s.cur) ?_
 simp
 refine eU.c rfl rfl (f241 { s with cur:=jq g s.p.side n s.cur } (decide (0≤jq g s.p.side n s.cur))) (by simp[eE.cells]) (by simp) ?_
 simp[gd]
theorem f201(g:ey)(hg:eW g)(s:eE)(hs:ic g s)(n:Int):Wf T 201 [.agg s.cells,dG g,.i n] [] (Is (lx (gd g s (3,n)))):=by
 have fO:=hs.p.size
 have lA:=hs.cur
 refine Yg A' ?_
 simp[A',eE.cells]
 (with_reducible repeat' first|refine Xk ?_<;>try simp|refine Xs ?_ ?_<;>intro h<;>(try intro h')<;>(try simp[h])<;>(try omega)|refine Xg ?_|omega)
 refine gq.c rfl rfl (f241 s (decide (gt s.p.cs s.cur=0))) (by simp[eE.cells]) (by simp) ?_
 simp[gd]
theorem f202(g:ey)(hg:eW g)(s:eE)(hs:ic g s)(n:Int):Wf T 202 [.agg s.cells,dG g,.i n] [] (Is (lx (gd g s (4,n)))):=by
 have fO:=hs.p.size
 have lA:=hs.cur
 have gv:=hs.p.side
 refine Yg Ba ?_
 simp[Ba,eE.cells]
 refine eU.c rfl rfl (f243 s (by omega) (hs.p.small hg)) (by simp[eE.cells]) (by simp) ?_
 simp
 (with_reducible repeat' first|refine Xk ?_<;>try simp|refine Xs ?_ ?_<;>intro h<;>(try intro h')<;>(try simp[h])<;>(try omega)|refine Xg ?_|omega)
 refine eU.c rfl rfl (f241 s (decide (gV (gt s.p.cs s.cur)=1-s.p.side))) (by simp[eE.cells]) (by simp) ?_
 simp[gd]
theorem f203(g:ey)(hg:eW g)(s:eE)(hs:ic g s)(n:Int):Wf T 203 [.agg s.cells,dG g,.i n] [] (Is (lx (gd g s (5,n)))):=by
 have fO:=hs.p.size
 have lA:=hs.cur
 refine Yg Bb ?_
 simp[Bb,eE.cells]
 refine eU.c rfl rfl (f243 s (by omega) (hs.p.small hg)) (by simp[eE.cells]) (by simp) ?_
 simp
 refine eU.c rfl rfl (f241 s (decide (gV (gt s.p.cs s.cur)=s.p.side))) (by simp[eE.cells]) (by simp) ?_
 simp[gd]
theorem f206(g:ey)(s:eE)(n:Int):Wf T 206 [.agg s.cells,dG g,.i n] [] (Is (lx (gd g s (8,n)))):=by
 refine Yg Bd ?_
 simp[Bd,eE.cells]
 rfl
theorem f207(g:ey)(hg:eW g)(s:eE)(hs:ic g s)(n:Int)(hn:0≤n∧n<g.eR):Wf T 207 [.agg s.cells,dG g,.i n] [] (Is (lx (gd g s (9,n)))):=by
 have hr:=hs.p.eR
 have oV:=hg.eR
 have h5:=wC oV.1 (by omega)
 have ha:=NC (r:=s.p.eR) (n:=n) hr.1 (by omega) hn.1 (by omega)
 refine Yg Be ?_
 simp[Be,eE.cells]
 (with_reducible repeat' first|refine Xk ?_<;>try simp|refine Xs ?_ ?_<;>intro h<;>(try intro h')<;>(try simp[h])<;>(try omega)|refine Xg ?_|omega)
 refine gq.c rfl rfl (f241 s (decide (bits BinOp.and IntKind.i64 (qI IntKind.i64 s.p.eR n) 1=1))) (by simp[eE.cells]) (by simp) ?_
 simp[gd,ha]
theorem f208(g:ey)(hg:eW g)(s:eE)(hs:ic g s)(n:Int)(hn:0≤n∧n<g.eR):Wf T 208 [.agg s.cells,dG g,.i n] [] (Is (lx (gd g s (10,n)))):=by
 have hr:=hs.p.eR
 have oV:=hg.eR
 have h5:=wC oV.1 (by omega)
 have ha:=ND (r:=s.p.eR) (n:=n) hr.1 (by omega) hn.1 (by omega)
 refine Yg Bf ?_
 simp[Bf,eE.cells,ha]
 (with_reducible repeat' first|refine Xk ?_<;>try simp[ha]|refine Xs ?_ ?_<;>intro h<;>(try intro h')<;>(try simp[h,ha])<;>(try omega)|refine Xg ?_|omega)
 rfl
theorem f205(g:ey)(hg:eW g)(s:eE)(hs:ic g s)(n:Int):Wf T 205 [.agg s.cells,dG g,.i n] [] (Is (lx (gd g s (7,n)))):=by
 have fO:=hs.p.size
 have lA:=hs.cur
 have iz:=hs.p.small hg
 have vP:=hg.gH.size
 have hk:=hg.kinds
 have l0:=hs.p.h0.len
 have l1:=hs.p.h1.len
 have ht:=hg.gH.to s.p.side n s.cur
 have e:gd g s (7,n)=oI g s n:=by simp[gd]
 rw[e]
 refine Yg Bc ?_
 simp[Bc,eE.cells]
 refine Yc (f240 g hg.gH s.p.side n s.cur) ?_
 simp
 (with_reducible repeat' first|refine Xk ?_<;>try simp|refine Xs ?_ ?_<;>intro h<;>(try intro h')<;>(try simp[h])<;>(try omega)|refine Xg ?_|omega)
 ·rw[oI,if_pos (by simp_all)];rfl
 ·rw[oI,if_pos (by simp_all)];rfl
 ·have q0:=ga (l:=s.p.cs) (n:=jq g s.p.side n s.cur) (v:=gt s.p.cs s.cur) (by omega) (by omega)
  have q1:=ga (l:=pt s.p.cs (jq g s.p.side n s.cur) (gt s.p.cs s.cur)) (n:=s.cur) (v:=0) lA.1 (by omega)
  refine Yn (f91 s iz (by omega)) ?_
  simp
  (with_reducible repeat' first|refine Xk ?_<;>try simp[q0,q1]|refine Xs ?_ ?_<;>intro h<;>(try intro h')<;>(try simp[h,q0,q1])<;>(try omega)|refine Xg ?_|omega)
  simp[oI, *]
  rfl
 ·rw[oI,if_pos (by simp_all)];rfl
theorem f204(g:ey)(hg:eW g)(s:eE)(hs:ic g s)(n:Int):Wf T 204 [.agg s.cells,dG g,.i n] [] (Is (lx (gd g s (6,n)))):=by
 have fO:=hs.p.size
 have lA:=hs.cur
 have iz:=hs.p.small hg
 have vP:=hg.gH.size
 have ma:=hg.kinds
 have l0:=hs.p.h0.len
 have l1:=hs.p.h1.len
 have gA:=hs.p.cs _ (eH lA.1 (by omega))
 have gv:=hs.p.side
 have e:gd g s (6,n)=nS g s:=by simp[gd]
 rw[e]
 refine Yz w6 (gu 52 [2,3,4] w6.body) ?_
 simp[w6,gu,iA,kG,kI,kR,jE,eE.cells]
 refine eU.c rfl rfl (f243 s (by omega) iz) (by simp[eE.cells]) (by simp) ?_
 simp
 by_cases hx:gV (gt s.p.cs s.cur)=1-s.p.side
 ·have ym:0≤eS (gt s.p.cs s.cur):=by
   unfold gV at hx;unfold eS
   split at hx<;>rename_i h5
   ·rw[if_pos h5];omega
   ·omega
  have hm:eS (gt s.p.cs s.cur)<g.kinds.length:=rH gA.2 ma.1
  have GX:s.p.side=0∨s.p.side=1:=by omega
  have q0:=ga (l:=s.p.cs) (n:=s.cur) (v:=0) lA.1 (by omega)
  simp[hx]
  (with_reducible repeat' first|refine Xk ?_<;>try simp|refine Xs ?_ ?_<;>intro h<;>(try intro h')<;>(try simp[h])<;>(try omega)|refine Xg ?_|omega)
  refine Yn (f91 s iz (by omega)) ?_
  simp
  (with_reducible repeat' first|refine Xk ?_<;>try simp[q0]|refine Xs ?_ ?_<;>intro h<;>(try intro h')<;>(try simp[h,q0])<;>(try omega)|refine Xg ?_|omega)
  ·have sM:=h
   rcases GX with e|e
   ·have ha:=hs.p.h0.at_ _ (by omega) (show eS (gt s.p.cs s.cur)<s.p.h0.length by omega)
    have q1:=vH (l:=s.p.h0) (n:=eS (gt s.p.cs s.cur)) (v:=gt s.p.h0 (eS (gt s.p.cs s.cur))+1) (by omega) (by omega)
    have q2:=ga (l:=s.p.h0) (n:=eS (gt s.p.cs s.cur)) (v:=gt s.p.h0 (eS (gt s.p.cs s.cur))+1) (by omega) (by omega)
    simp[e,q0,q1,q2]
    (with_reducible repeat' first|refine Xk ?_<;>try simp[q0,q1,q2]|refine Xs ?_ ?_<;>intro h<;>(try intro h')<;>(try simp[h,q0,q1,q2])<;>(try omega)|refine Xg ?_|omega)
    refine gq.c rfl rfl (f241 { p:={ s.p with cs:=pt s.p.cs s.cur 0,h0:=pt s.p.h0 (eS (gt s.p.cs s.cur)) (gt s.p.h0 (eS (gt s.p.cs s.cur))+1),side:=0 },kind:=s.kind,cur:=s.cur,gO:=true } (decide (gt s.p.h0 (eS (gt s.p.cs s.cur))+1≤8))) (by simp[eE.cells]) (by simp) ?_
    simp[nS,hx,sM,Pos.hand,Pos.jP,e]
    done
   ·have ha:=hs.p.h1.at_ _ (by omega) (show eS (gt s.p.cs s.cur)<s.p.h1.length by omega)
    have q1:=vH (l:=s.p.h1) (n:=eS (gt s.p.cs s.cur)) (v:=gt s.p.h1 (eS (gt s.p.cs s.cur))+1) (by omega) (by omega)
    have q2:=ga (l:=s.p.h1) (n:=eS (gt s.p.cs s.cur)) (v:=gt s.p.h1 (eS (gt s.p.cs s.cur))+1) (by omega) (by omega)
    simp[e,q0,q1,q2]
    (with_reducible repeat' first|refine Xk ?_<;>try simp[q0,q1,q2]|refine Xs ?_ ?_<;>intro h<;>(try intro h')<;>(try simp[h,q0,q1,q2])<;>(try omega)|refine Xg ?_|omega)
    refine gq.c rfl rfl (f241 { p:={ s.p with cs:=pt s.p.cs s.cur 0,h1:=pt s.p.h1 (eS (gt s.p.cs s.cur)) (gt s.p.h1 (eS (gt s.p.cs s.cur))+1),side:=1 },kind:=s.kind,cur:=s.cur,gO:=true } (decide (gt s.p.h1 (eS (gt s.p.cs s.cur))+1≤8))) (by simp[eE.cells]) (by simp) ?_
    simp[nS,hx,sM,Pos.hand,Pos.jP,e]
    done
  ·simp[nS,hx,h,q0]
   rfl
 ·simp[hx]
  (with_reducible repeat' first|refine Xk ?_<;>try simp|refine Xs ?_ ?_<;>intro h<;>(try intro h')<;>(try simp[h])<;>(try omega)|refine Xg ?_|omega)
  rw[nS,if_pos hx];rfl
set_option maxRecDepth 10000
set_option maxHeartbeats 4000000
theorem f259(g:ey)(s d c:Int):Wf T 259 [g.gH,.i s,.i d,.i c] [] (Is (.fn (.func 265) [] [.eG [.i g.size,.sl 1 (g.next.map fI),dI g.gE],.eG [.i s],.eG [.i d],.eG [.i c]])):=by
 refine Yg Bw ?_
 simp[Bw]
theorem f266(l:List Int)(n:Int)(hl:l.length<2 ^ 40):Wf T 266 [dI l,.i n] [] (Ey (fun r:Int=>.i r) fun r=>0≤r↔n∈l):=by
 refine Yg ve ?_
 simp[ve]
 refine eF.e (0:Int) (fun y=>[(0,dI l),(1,.i n),(7,.i l.length),(8,.i y)]) (fun y=>[]) (fun y=>0≤y∧y≤l.length∧n ∉ l.take y.toNat) (fun y=>(l.length-y).toNat) ?_ ?_
 ·simp
 rintro i ⟨i0,i1,i2⟩
 by_cases hi:i<l.length
 ·simp[hi]
  (with_reducible repeat' first|refine Xk ?_<;>try simp|refine Xs ?_ ?_<;>intro h<;>(try intro h')<;>(try simp[h])<;>(try omega)|refine Xg ?_|omega)
  ·exact Ey.i i rfl rfl ⟨fun _=>by have:=eH i0 hi;simp_all,fun _=>i0⟩
  ·refine LJ.e (i+1) ?_
   refine⟨by omega,by omega,by omega,?_⟩
   rw[gj i0 hi]
   simp[i2]
   omega
 ·simp[hi]
  rw[iH (by omega)]at i2
  exact Ey.i (-1) rfl rfl ⟨fun h=>by omega,fun h=>absurd h i2⟩
theorem f260(l:List Int)(n:Int)(hl:l.length<2 ^ 40):Wf T 260 [dI l,.i n] [] (Is (.b (decide (n∈l)))):=by
 refine Yg vd ?_
 simp[vd]
 refine Yq (f266 l n hl) fun r hr=>?_
 simp
 simp[hr]
theorem P5(n:Int):Wf T 266 [.U,.i n] [] (Is (.i (-1))):=by
 refine Yg ve ?_
 simp[ve]
 refine eF.un ?_
 refine gS.u ?_
 simp
theorem P4(n:Int):Wf T 260 [.U,.i n] [] (Is (.b false)):=by
 refine Yg vd ?_
 simp[vd]
 refine Yc (P5 n) ?_
 simp
theorem f265(g:ey)(hg:kT g)(s d c:Int):Wf T 265 [.gy 4,.eG [.i g.size,.sl 1 (g.next.map fI),dI g.gE],.eG [.i s],.eG [.i d],.eG [.i c]]
  [.row 37 0 [.i g.size,.sl 1 (g.next.map fI),dI g.gE],.row 3 0 [.i c],.row 33 0 [.U],.jA,.fE 15488 [(7,.ptr 1 0 0),(9,.ptr 2 0 0)] .ready]
  (fun _ H'=>∃ st,(st = .ready∨st = .sw 0)∧H' = [.row 37 0 [.i g.size,.sl 1 (g.next.map fI),dI g.gE],.row 3 0 [.i c],.row 33 0 [if iW g s d c = []then .U else .eu 5 ((iW g s d c).length-1) 1 0 (iW g s d c).length],.jA,.fE 15488 [(7,.ptr 1 0 0),(9,.ptr 2 0 0)] st]++(if iW g s d c = []then []else [.row 3 ((iW g s d c).length-1) (cl f1 (iW g s d c))])):=by
 have hb:=hg.size
 refine Yg By ?_
 simp[By]
 refine Yr (f240 g hg s d c) ?_
 simp
 refine eF.e ((0,jq g s d c,[]):Nat×Int×List Int) (fun x=>[(0,.gy 4),(1,.eG [.i g.size,.sl 1 (g.next.map fI),dI g.gE]),(2,.eG [.i s]),(3,.eG [.i d]),(6,.i x.2.1)]) (fun x=>[.row 37 0 [.i g.size,.sl 1 (g.next.map fI),dI g.gE],.row 3 0 [.i c],.row 33 0 [if x.2.2 = []then .U else .eu 5 (x.2.2.length-1) 1 0 x.2.2.length],.jA,.fE 15488 [(7,.ptr 1 0 0),(9,.ptr 2 0 0)] .ready]++(if x.2.2 = []then []else [.row 3 (x.2.2.length-1) (cl f1 x.2.2)])) (fun x=>x.1=x.2.2.length∧x.2.1<g.size∧x.2.2.Nodup∧(∀ y∈x.2.2,0≤y∧y<g.size)∧iW g s d c=ox g s d c (10-x.1) x.2.1 x.2.2) (fun x=>10-x.1) ?_ ?_
 ·have:=hg.to s d c
  simp[iW];omega
 rintro⟨m,x,out⟩ ⟨h0,h1,h2,h3,h4⟩
 dsimp only at h0 h1 h2 h3 h4 ⊢
 have hm:out.length≤9:=zc 9 out h2 (fun y hy=>by have:=h3 y hy;omega)
 have e:=h4
 rw[show 10-m=(9-m)+1 by omega,ox]at e
 have kx:=hg.to s d x
 by_cases ho:out = []
 ·subst ho
  by_cases hx:0≤x
  ·simp[hx]
   refine nW.r (rf:=15488) (env0:=[(7,.ptr 1 0 0),(9,.ptr 2 0 0)]) (Rd:=pZ) (by simp) rfl rfl pZ.a pZ.b (mg rfl) (mg rfl) ?_
   simp[pZ]
   by_cases hc:x=c
   ·have e3:iW g s d c = []:=by rw[e,if_neg (fun h=>h.2.1 hc)]
    simp[hc,e3]
   ·have e2:iW g s d c=ox g s d c (9-m) (jq g s d x) [x]:=by rw[e,if_pos ⟨hx,hc,by simp⟩];rfl
    simp[hc]
    refine Yc (P4 x) ?_
    simp
    (with_reducible repeat' first|refine Xk ?_<;>try simp|refine Xs ?_ ?_<;>intro h<;>(try intro h')<;>(try simp[h])<;>(try omega)|refine Xg ?_|omega)
    refine Yr (f240 g hg s d x) ?_
    simp
    refine LJ.i (m+1,jq g s d x,[x]) (by first|rfl|simp[gZ]) (by first|rfl|simp[gZ]) rfl rfl ?_
    dsimp only
    refine⟨by simp at h0;omega,by simp at h0;simp;omega,kx.2,by simp,by simp;omega,?_⟩
    rw[e2];congr 1;omega
  ·have e3:iW g s d c = []:=by rw[e,if_neg (fun h=>hx h.1)]
   simp[hx,e3]
 ·simp only[if_neg ho,cu,bJ]
  by_cases hx:0≤x
  ·simp[hx]
   refine nW.r (rf:=15488) (env0:=[(7,.ptr 1 0 0),(9,.ptr 2 0 0)]) (Rd:=pZ) (by simp) rfl rfl pZ.a pZ.b (mg rfl) (mg rfl) ?_
   simp[pZ]
   by_cases hc:x=c
   ·have e3:iW g s d c=out:=by rw[e,if_neg (fun h=>h.2.1 hc)]
    simp[hc,e3,ho]
   ·simp[hc]
    refine Yr (f260 out x (by omega)) ?_
    simp
    refine X2.z hc ?_
    simp
    by_cases ff:x∈out
    ·have e3:iW g s d c=out:=by rw[e,if_neg (fun h=>h.2.2 ff)]
     simp[ff,e3,ho]
    ·have e2:iW g s d c=ox g s d c (9-m) (jq g s d x) (out ++ [x]):=by rw[e,if_pos ⟨hx,hc,ff⟩]
     have hl:0<out.length:=aB.2 ho
     simp[ff]
     (with_reducible repeat' first|refine Xk ?_<;>try simp|refine Xs ?_ ?_<;>intro h<;>(try intro h')<;>(try simp[h])<;>(try omega)|refine Xg ?_|omega)
     refine Yr (f240 g hg s d x) ?_
     simp
     refine LJ.i (m+1,jq g s d x,out ++ [x]) (by first|rfl|simp[show out.length-1+1=out.length by omega]) (by first|rfl|simp[show out.length-1+1=out.length by omega]) rfl rfl ?_
     dsimp only
     refine⟨by omega,by simp;omega,kx.2,?_,fun y hy=>?_,?_⟩
     ·rw[cm];exact⟨h2,by simp,fun a ha b hb=>by rw[List.mem_singleton.1 hb];rintro rfl;exact ff ha⟩
     ·rcases List.mem_append.1 hy with hy|hy
      ·exact h3 y hy
      ·rw[List.mem_singleton.1 hy];omega
     ·rw[e2];congr 1;omega
  ·have e3:iW g s d c=out:=by rw[e,if_neg (fun h=>hx h.1)]
   simp[hx,e3,ho]
theorem f242(g:ey)(hg:kT g)(s d c:Int):Wf T 242 [g.gH,.i s,.i d,.i c] [] (Is (dN 1 f1 (iW g s d c))):=by
 refine Yg Bn ?_
 simp[Bn]
 refine Yc (f259 g s d c) ?_
 simp
 refine vm.r (f:=265) (first:=[]) (cap:=[.eG [.i g.size,.sl 1 (g.next.map fI),dI g.gE],.eG [.i s],.eG [.i d],.eG [.i c]]) rfl rfl rfl rfl ?_
 simp
 refine Wf.mono (f265 g hg s d c) ?_
 rintro _ H' ⟨st,eJ,rfl⟩
 refine⟨[(7,.ptr 1 0 0),(9,.ptr 2 0 0)],st,by simp,?_⟩
 by_cases h:iW g s d c = []
 ·rcases eJ with rfl|rfl
  ·simp[h]
   rfl
  ·simp[h]
   rfl
 ·have e:dI (iW g s d c)=dN 1 f1 (iW g s d c):=by
   revert h
   cases iW g s d c with
   | nil=>intro h;exact absurd rfl h
   | cons a r=>intro _;rfl
  rcases eJ with rfl|rfl
  ·simp[h,e]
  ·simp[h,e]
@[simp] theorem aeo(l:List Int):closed (dN 1 f1 l)=true:=tE (fun a=>by simp[eV]) l
theorem FA{l:List eE}(h:l≠[]):iq l=lx l:=by
 cases l with
 | nil=>exact absurd rfl h
 | cons a r=>rfl
theorem f200(g:ey)(hg:eW g)(s:eE)(hs:ic g s)(n:Int):Wf T 200 [.agg s.cells,dG g,.i n] [] (Is (lx (gd g s (2,n)))):=by
 have fO:=hs.p.size
 have vP:=hg.gH.size
 have e:gd g s (2,n)=me s (iW g s.p.side n s.cur):=by simp[gd]
 have ff:∀ y∈iW g s.p.side n s.cur,0≤y∧y<g.size:=fun y hy=>Hm hg.gH hy
 have hlen:(iW g s.p.side n s.cur).length≤10:=Ho
 rw[e]
 refine Yg A9 ?_
 simp[A9,eE.cells]
 refine Yc (f242 g hg.gH s.p.side n s.cur) ?_
 simp
 generalize iW g s.p.side n s.cur=l at *
 refine eF.e ((0,[]):Int×List eE) (fun y=>[(3,.ptr 0 0 0),(7,if y.1=0 then .U else .eu 2 (y.2.length-1) 8 0 y.2.length),(19,dN 1 f1 l),(20,.i l.length),(21,.i y.1)]) (fun y=>.row 171 0 s.cells :: .row 41 0 g.cells::(if y.1=0 then []else [.row 171 (y.2.length-1) (cl eE.cells y.2)])) (fun y=>0≤y.1∧y.1≤l.length∧y.2.length=y.1.toNat∧me s l=y.2++me s (l.drop y.1.toNat)) (fun y=>(l.length-y.1).toNat) ?_ ?_
 ·simp
 rintro⟨i,st⟩ ⟨i0,i1,i2,i3⟩
 dsimp only at i0 i1 i2 i3 ⊢
 by_cases hi:i<l.length
 ·have hc:=ff _ (eH i0 hi)
  rw[kP i0 hi,me]at i3
  by_cases hz:i=0
  ·have:st = []:=aA.1 (by omega)
   subst hz;subst this
   simp[hi,eE.cells]
   (with_reducible repeat' first|refine Xk ?_<;>try simp|refine Xs ?_ ?_<;>intro h<;>(try intro h')<;>(try simp[h])<;>(try omega)|refine Xg ?_|omega)
   ·refine LJ.i (1,[{ s with cur:=gt l 0 }]) (by first|rfl|simp[gZ,eE.cells]) (by first|rfl|simp[gZ,eE.cells]) rfl rfl ?_
    refine⟨by dsimp only;omega,by dsimp only;omega,by dsimp only;omega,rfl,?_⟩
    rw[i3,if_pos h];rfl
   ·rw[i3,if_neg h];rfl
  ·have hl:0<st.length:=by omega
   rw[if_neg hz,if_neg hz]
   simp[hi,eE.cells]
   (with_reducible repeat' first|refine Xk ?_<;>try simp|refine Xs ?_ ?_<;>intro h<;>(try intro h')<;>(try simp[h])<;>(try omega)|refine Xg ?_|omega)
   ·refine LJ.i (i+1,st ++ [{ s with cur:=gt l i }]) (by first|rfl|simp[show ¬ (i+1=0)by omega,show st.length-1+1=st.length by omega,eE.cells]) (by first|rfl|simp[show ¬ (i+1=0)by omega,show st.length-1+1=st.length by omega,eE.cells]) rfl rfl ?_
    refine⟨by dsimp only;omega,by dsimp only;omega,by dsimp only;omega,by simp;omega,?_⟩
    rw[i3,if_pos h,show(i+1).toNat=i.toNat+1 by omega];simp
   ·rw[i3,if_neg h,← FA (by simp)]
    simp[iq,eE.cells]
 ·rw[c8 (by omega),me,av]at i3
  by_cases hz:i=0
  ·have:st = []:=aA.1 (by omega)
   subst hz;subst this
   simp[show ¬ 0<l.length by omega,eE.cells]
   rw[i3];rfl
  ·rw[if_neg hz,if_neg hz]
   simp[hi,eE.cells]
   rw[i3,FA (by intro h;rw[h]at i2;simp at i2;omega)]
set_option maxRecDepth 10000
set_option maxHeartbeats 4000000
theorem f164(g:ey)(hg:eW g)(s:eE)(hs:ic g s)(x:eI)(hx:xl g x):Wf T 164 [dG g,.agg s.cells,.agg [.i x.1,.i x.2]] [] (Is (lx (gd g s x))):=by
 obtain⟨k,n⟩:=x
 have jO:=hx.ok
 dsimp only at jO ⊢
 rcases(show k=1∨k=2∨k=3∨k=4∨k=5∨k=6∨k=7∨k=8∨k=9∨k=10 by omega)with rfl|rfl|rfl|rfl|rfl|rfl|rfl|rfl|rfl|rfl
 all_goals
  refine Yg AR ?_
  simp[AR,eE.cells]
 ·refine gq.c rfl rfl (f199 g hg s hs n) (by simp) (by simp) ?_
  simp
 ·refine gq.c rfl rfl (f200 g hg s hs n) (by simp) (by simp) ?_
  simp
 ·refine gq.c rfl rfl (f201 g hg s hs n) (by simp) (by simp) ?_
  simp
 ·refine gq.c rfl rfl (f202 g hg s hs n) (by simp) (by simp) ?_
  simp
 ·refine gq.c rfl rfl (f203 g hg s hs n) (by simp) (by simp) ?_
  simp
 ·refine gq.c rfl rfl (f204 g hg s hs n) (by simp) (by simp) ?_
  simp
 ·refine gq.c rfl rfl (f205 g hg s hs n) (by simp) (by simp) ?_
  simp
 ·refine gq.c rfl rfl (f206 g s n) (by simp) (by simp) ?_
  simp
 ·refine gq.c rfl rfl (f207 g hg s hs n (by omega)) (by simp) (by simp) ?_
  simp
 ·refine gq.c rfl rfl (f208 g hg s hs n (by omega)) (by simp) (by simp) ?_
  simp
set_option maxRecDepth 10000
set_option maxHeartbeats 4000000
@[simp] theorem acN(t sz bytes:Nat)(z:List D)(m:Int)(vn:Nat):Cn t sz bytes z .U (.val (.int .i64 m)) vn=if 0<m∧mu (m*bytes) 140737488355328∧mu m 9223372036854775807 then some (.eu vn 0 sz 0 m.toNat,.new (.row t 0 (List.replicate m.toNat z).flatten))else none:=rfl
theorem f191(n:Int)(hn:0<n∧n<1000):Wf T 191 [.U,.i n] [] (fun d H=>d = .eu 0 0 1 0 0∧H = [.row 3 0 (cl f1 (List.replicate n.toNat 0))]):=by
 refine Yg A3 ?_
 simp[A3]
 (with_reducible repeat' first|refine Xk ?_<;>try simp|refine Xs ?_ ?_<;>intro h<;>(try intro h')<;>(try simp[h])<;>(try omega)|refine Xg ?_|omega)
@[irreducible] def fl(l:List (List Int)):List Int:=l.flatten
theorem sC(l:List (List Int)):fl l=l.flatten:=by unfold fl;rfl
@[simp] theorem ae6:fl [] = []:=by simp[sC]
theorem KL{l:List (List Int)}{i:Int}(h0:0≤i)(h:i<l.length):fl (l.take (i+1).toNat)=fl (l.take i.toNat)++gt l i:=by
 rw[gj h0 h];simp[sC]
theorem KH(l:List (List Int))(n:Nat):(fl (l.take n)).length≤(fl l).length:=by
 simp only[sC]
 conv=>rhs;rw[← bK n l]
 simp only[List.flatten_append,az]
 omega
theorem f148(l:List (List Int))(hl:l.length≤10)(hn:0<(fl l).length∧(fl l).length<1000):Wf T 148 [.sl 1 (l.map fI)] [] (fun d H=>d = .eu 0 l.length 1 0 (fl l).length∧H = [.row 3 l.length (cl f1 (fl l))]):=by
 have fJ:0<l.length:=by
  cases l with
  | nil=>simp at hn
  | cons a r=>simp
 refine Yg AJ ?_
 simp[AJ]
 refine eF.e (0:Int) (fun i=>[(0,.sl 1 (l.map fI)),(3,.i (fl (l.take i.toNat)).length),(9,.sl 1 (l.map fI)),(10,.i l.length),(11,.i i)]) (fun i=>[]) (fun i=>0≤i∧i≤l.length) (fun i=>(l.length-i).toNat) ?_ ?_
 ·simp
 rintro i ⟨i0,i1⟩
 by_cases hi:i<l.length
 ·have h1:=KL i0 hi
  have h2:=KH l (i+1).toNat
  rw[h1,az]at h2
  simp[hi]
  (with_reducible repeat' first|refine Xk ?_<;>try simp|refine Xs ?_ ?_<;>intro h<;>(try intro h')<;>(try simp[h])<;>(try omega)|refine Xg ?_|omega)
  refine LJ.i (i+1) (by first|rfl|simp[h1]) (by first|rfl|simp[h1]) rfl rfl ?_
  exact⟨by omega,by omega,by omega⟩
 ·have e1:(l.take i.toNat)=l:=iH (by omega)
  simp[hi,e1]
  refine Yn (f191 (fl l).length (by omega)) ?_
  simp
  refine eF.e (0:Int) (fun j=>[(6,.eu 0 j.toNat 1 0 (fl (l.take j.toNat)).length),(25,.sl 1 (l.map fI)),(26,.i l.length),(27,.i j)]) (fun j=>[.row 3 j.toNat (if j=0 then cl f1 (List.replicate (fl l).length 0)else cl f1 (fl (l.take j.toNat)))]) (fun j=>0≤j∧j≤l.length) (fun j=>(l.length-j).toNat) ?_ ?_
  ·simp
  rintro j ⟨j0,j1⟩
  by_cases hj:j<l.length
  ·have h1:=KL j0 hj
   have h2:=KH l (j+1).toNat
   rw[h1,az]at h2
   by_cases hz:j=0
   ·subst hz
    simp at h1 h2
    simp[hj]
    (with_reducible repeat' first|refine Xk ?_<;>try simp|refine Xs ?_ ?_<;>intro h<;>(try intro h')<;>(try simp[h])<;>(try omega)|refine Xg ?_|omega)
    refine LJ.i (1) (by first|rfl|simp[h1]) (by first|rfl|simp[h1]) rfl rfl ?_
    exact⟨by omega,by omega,by omega⟩
   ·rw[if_neg hz]
    simp[hj]
    (with_reducible repeat' first|refine Xk ?_<;>try simp|refine Xs ?_ ?_<;>intro h<;>(try intro h')<;>(try simp[h])<;>(try omega)|refine Xg ?_|omega)
    have e2:(j+1).toNat=j.toNat+1:=by omega
    rw[e2]at h1
    refine LJ.i (j+1) (by first|rfl|simp[h1,e2,show ¬ (j+1=0)by omega]) (by first|rfl|simp[h1,e2,show ¬ (j+1=0)by omega]) rfl rfl ?_
    exact⟨by omega,by omega,by omega⟩
  ·have e1:(l.take j.toNat)=l:=iH (by omega)
   have l9:j.toNat=l.length:=by omega
   rw[if_neg (by omega)]
   simp[hj,e1,l9]
@[irreducible] def kM(p:Pos):List Int:=fl [p.cs,p.h0,p.h1,[p.eR,p.side]]
theorem uD(p:Pos):kM p=fl [p.cs,p.h0,p.h1,[p.eR,p.side]]:=by unfold kM;rfl
def kS(p:Pos):ByteArray:=((kM p).map fun n=>IntKind.u8.wrap n).foldl (fun r n=>r.push (UInt8.ofNat n.toNat)) ByteArray.empty
@[simp] theorem aeb(l:List Int)(n:Int):cl fU l ++ [.val (.int .u8 n)]=cl fU (l ++ [n]):=by rw[← nc,FO]
@[simp] theorem OS:∀ l:List Int,bytesOf (cl fU l)=some l
 | []=>by simp[bytesOf]
 | a::r=>by rw[nb,FO,dS,bytesOf,OS r]
theorem f101(p:Pos)(h:0<p.cs.length)(hl:(kM p).length<1000):Wf T 101 [dP p] [] (Is (.val (.string (kS p)))):=by
 have hk:0<(kM p).length:=by simp[uD,sC];omega
 have hc:=f148 [p.cs,p.h0,p.h1,[p.eR,p.side]] (by simp) (by rw[← uD];exact⟨hk,hl⟩)
 rw[← uD]at hc
 refine Yg Ab ?_
 simp[Ab]
 refine eU.nr rfl rfl hc (by simp[lz,chunks];unfold dI;simp only[List.map_cons,List.map_nil,sA]) (by simp) (by simp) ?_
 simp
 refine eF.e (0:Int) (fun y=>[(3,if y=0 then .U else .eu 4 (y.toNat-1) 1 0 y.toNat),(20,.eu 3 4 1 0 (kM p).length),(21,.i (kM p).length),(22,.i y)]) (fun y=>[.row 44 0 p.cells,.row 3 0 [.i p.eR,.i p.side],.row 33 0 [dI p.cs,dI p.h0,dI p.h1,.eu 1 0 1 0 2],.row 3 4 (cl f1 (kM p))]++(if y=0 then []else [.row 5 (y.toNat-1) (cl fU (((kM p).take y.toNat).map fun n=>IntKind.u8.wrap n))])) (fun y=>0≤y∧y≤(kM p).length) (fun y=>((kM p).length-y).toNat) ?_ ?_
 ·simp
 rintro i ⟨i0,i1⟩
 by_cases hi:i<(kM p).length
 ·have hT:(List.take (i.toNat+1) (kM p)).map (fun n=>IntKind.u8.wrap n)=(List.take i.toNat (kM p)).map (fun n=>IntKind.u8.wrap n) ++ [IntKind.u8.wrap (gt (kM p) i)]:=by
   rw[← show(i+1).toNat=i.toNat+1 by omega,gj i0 hi];simp
  have e1:(i+1).toNat=i.toNat+1:=by omega
  by_cases hz:i=0
  ·rw[if_pos hz,if_pos hz]
   have ez:i.toNat=0:=by omega
   rw[ez]at hT e1
   simp at hT
   simp[hi]
   (with_reducible repeat' first|refine Xk ?_<;>try simp|refine Xs ?_ ?_<;>intro h<;>(try intro h')<;>(try simp[h])<;>(try omega)|refine Xg ?_|omega)
   refine LJ.i (i+1) (by first|rfl|simp[show ¬ (i+1=0)by omega,e1,hT,gZ]) (by first|rfl|simp[show ¬ (i+1=0)by omega,e1,hT,gZ]) rfl rfl ?_
   exact⟨by omega,by omega,by omega⟩
  ·rw[if_neg hz,if_neg hz]
   simp[hi]
   (with_reducible repeat' first|refine Xk ?_<;>try simp|refine Xs ?_ ?_<;>intro h<;>(try intro h')<;>(try simp[h])<;>(try omega)|refine Xg ?_|omega)
   have e2:i.toNat-1+1=i.toNat:=by omega
   simp at hT
   refine LJ.i (i+1) (by first|rfl|simp[show ¬ (i+1=0)by omega,e1,hT,e2,cT]) (by first|rfl|simp[show ¬ (i+1=0)by omega,e1,hT,e2,cT]) rfl rfl ?_
   exact⟨by omega,by omega,by omega⟩
 ·rw[if_neg (by omega),if_neg (by omega)]
  have e3:i.toNat=(kM p).length:=by omega
  simp[hi,vr,e3]
  rfl
