/- Part 19 of the proof of skewer.skewerlaw15.TableSlices. -/
import Derived.Test.YtnaefnajkaohgaaGreatDoorC12
import Derived.Test.YtnaefnajkaohgaaGreatDoorC18
import Derived.Test.YtnaefnajkaohgaaGreatDoorC13
set_option linter.all false
namespace Go.Proofs.YtnaefnajkaohgaaGreatDoor
open Go Go.AL Classical
set_option maxRecDepth 10000
set_option maxHeartbeats 4000000
def dSn(l:List Sta):D:=dN 8 Sta.cells l
@[simp] theorem closed_dSn(l:List Sta):closed (dSn l)=true:=closed_dN (fun a=>by simp[Sta.cells,closedL]) l
theorem f132(l:List Int)(h:0<l.length)(h2:l.length<2 ^ 40):Wf T 132 [dI l] [] (fun d H=>d = .osl 0 1 1 0 l.length∧H = [.row 3 1 (cl f1 l)]):=by
 refine Yg F132 ?_
 simp[F132]
 refine oA.i (a:=.b false) (by cases l with|nil=>exact absurd h (by simp)|cons a r=>rfl) ?_
 simp
 (with_reducible repeat' first|refine Xk ?_<;>try simp|refine Xs ?_ ?_<;>intro h<;>(try intro h')<;>(try simp[h])<;>(try omega)|refine Xg ?_|omega)
theorem f91(s:Sta)(hs:Small s.p)(h0:0<s.p.cs.length∧0<s.p.h0.length∧0<s.p.h1.length):Wf T 91 [.agg s.cells] [] (fun d H=>d = .agg [.osl 0 1 1 0 s.p.cs.length,.osl 1 1 1 0 s.p.h0.length,.osl 2 1 1 0 s.p.h1.length,.i s.p.rights,.i s.p.side,.i s.kind,.i s.cur,.b s.took]∧H = [.row 3 1 (cl f1 s.p.cs),.row 3 1 (cl f1 s.p.h0),.row 3 1 (cl f1 s.p.h1)]):=by
 refine Yg F91 ?_
 simp[F91,Sta.cells]
 refine Yn (f132 s.p.cs h0.1 hs.1) ?_
 simp
 refine XTCallN.n rfl rfl (f132 s.p.h0 h0.2.1 hs.2.1) (by simp) (by simp) ?_
 simp
 refine XTCallN.n rfl rfl (f132 s.p.h1 h0.2.2 hs.2.2) (by simp) (by simp) ?_
 simp
theorem f241(s:Sta)(b:Bool):Wf T 241 [.agg s.cells,.b b] [] (Is (dSn (if b then [s]else []))):=by
 refine Yg F241 ?_
 simp[F241,Sta.cells]
 cases b
 ·simp
  rfl
 ·simp
  rfl
theorem f243(s:Sta)(h:0≤s.cur∧s.cur<s.p.cs.length)(hs:Small s.p):Wf T 243 [.agg s.cells] [] (Is (.tup [.i (manK (gt s.p.cs s.cur)),.i (manS (gt s.p.cs s.cur))])):=by
 refine Yg F243 ?_
 simp[F243,Sta.cells]
 (with_reducible repeat' first|refine Xk ?_<;>try simp|refine Xs ?_ ?_<;>intro h<;>(try intro h')<;>(try simp[h])<;>(try omega)|refine Xg ?_|omega)
 refine Yc (f84 _) ?_
 simp
theorem f199(g:Game)(hg:GameOK g)(s:Sta)(hs:StaOK g s)(n:Int):Wf T 199 [.agg s.cells,dG g,.i n] [] (Is (dSn (stepL g s (1,n)))):=by
 refine Yg F199 ?_
 simp[F199,Sta.cells]
 refine Yc (f240 g hg.board s.p.side n s.cur) ?_
 simp
 refine XCall.c rfl rfl (f241 { s with cur:=toB g s.p.side n s.cur } (decide (0≤toB g s.p.side n s.cur))) (by simp[Sta.cells]) (by simp) ?_
 simp[stepL]
theorem f201(g:Game)(hg:GameOK g)(s:Sta)(hs:StaOK g s)(n:Int):Wf T 201 [.agg s.cells,dG g,.i n] [] (Is (dSn (stepL g s (3,n)))):=by
 have hsz:=hs.p.size
 have hcur:=hs.cur
 refine Yg F201 ?_
 simp[F201,Sta.cells]
 (with_reducible repeat' first|refine Xk ?_<;>try simp|refine Xs ?_ ?_<;>intro h<;>(try intro h')<;>(try simp[h])<;>(try omega)|refine Xg ?_|omega)
 refine XTCall.c rfl rfl (f241 s (decide (gt s.p.cs s.cur=0))) (by simp[Sta.cells]) (by simp) ?_
 simp[stepL]
theorem f202(g:Game)(hg:GameOK g)(s:Sta)(hs:StaOK g s)(n:Int):Wf T 202 [.agg s.cells,dG g,.i n] [] (Is (dSn (stepL g s (4,n)))):=by
 have hsz:=hs.p.size
 have hcur:=hs.cur
 have hsd:=hs.p.side
 refine Yg F202 ?_
 simp[F202,Sta.cells]
 refine XCall.c rfl rfl (f243 s (by omega) (hs.p.small hg)) (by simp[Sta.cells]) (by simp) ?_
 simp
 (with_reducible repeat' first|refine Xk ?_<;>try simp|refine Xs ?_ ?_<;>intro h<;>(try intro h')<;>(try simp[h])<;>(try omega)|refine Xg ?_|omega)
 refine XCall.c rfl rfl (f241 s (decide (manS (gt s.p.cs s.cur)=1-s.p.side))) (by simp[Sta.cells]) (by simp) ?_
 simp[stepL]
theorem f203(g:Game)(hg:GameOK g)(s:Sta)(hs:StaOK g s)(n:Int):Wf T 203 [.agg s.cells,dG g,.i n] [] (Is (dSn (stepL g s (5,n)))):=by
 have hsz:=hs.p.size
 have hcur:=hs.cur
 refine Yg F203 ?_
 simp[F203,Sta.cells]
 refine XCall.c rfl rfl (f243 s (by omega) (hs.p.small hg)) (by simp[Sta.cells]) (by simp) ?_
 simp
 refine XCall.c rfl rfl (f241 s (decide (manS (gt s.p.cs s.cur)=s.p.side))) (by simp[Sta.cells]) (by simp) ?_
 simp[stepL]
theorem f206(g:Game)(s:Sta)(n:Int):Wf T 206 [.agg s.cells,dG g,.i n] [] (Is (dSn (stepL g s (8,n)))):=by
 refine Yg F206 ?_
 simp[F206,Sta.cells]
 rfl
theorem f207(g:Game)(hg:GameOK g)(s:Sta)(hs:StaOK g s)(n:Int)(hn:0≤n∧n<g.rights):Wf T 207 [.agg s.cells,dG g,.i n] [] (Is (dSn (stepL g s (9,n)))):=by
 have hr:=hs.p.rights
 have hgr:=hg.rights
 have h5:=pow_small hgr.1 (by omega)
 have ha:=right_and (r:=s.p.rights) (n:=n) hr.1 (by omega) hn.1 (by omega)
 refine Yg F207 ?_
 simp[F207,Sta.cells]
 (with_reducible repeat' first|refine Xk ?_<;>try simp|refine Xs ?_ ?_<;>intro h<;>(try intro h')<;>(try simp[h])<;>(try omega)|refine Xg ?_|omega)
 refine XTCall.c rfl rfl (f241 s (decide (bits BinOp.and IntKind.i64 (shrK IntKind.i64 s.p.rights n) 1=1))) (by simp[Sta.cells]) (by simp) ?_
 simp[stepL,ha]
theorem f208(g:Game)(hg:GameOK g)(s:Sta)(hs:StaOK g s)(n:Int)(hn:0≤n∧n<g.rights):Wf T 208 [.agg s.cells,dG g,.i n] [] (Is (dSn (stepL g s (10,n)))):=by
 have hr:=hs.p.rights
 have hgr:=hg.rights
 have h5:=pow_small hgr.1 (by omega)
 have ha:=right_drop (r:=s.p.rights) (n:=n) hr.1 (by omega) hn.1 (by omega)
 refine Yg F208 ?_
 simp[F208,Sta.cells,ha]
 (with_reducible repeat' first|refine Xk ?_<;>try simp[ha]|refine Xs ?_ ?_<;>intro h<;>(try intro h')<;>(try simp[h,ha])<;>(try omega)|refine Xg ?_|omega)
 rfl
theorem f205(g:Game)(hg:GameOK g)(s:Sta)(hs:StaOK g s)(n:Int):Wf T 205 [.agg s.cells,dG g,.i n] [] (Is (dSn (stepL g s (7,n)))):=by
 have hsz:=hs.p.size
 have hcur:=hs.cur
 have hsm:=hs.p.small hg
 have hbs:=hg.board.size
 have hk:=hg.kinds
 have l0:=hs.p.h0.len
 have l1:=hs.p.h1.len
 have ht:=hg.board.to s.p.side n s.cur
 have e:stepL g s (7,n)=pushS g s n:=by simp[stepL]
 rw[e]
 refine Yg F205 ?_
 simp[F205,Sta.cells]
 refine Yc (f240 g hg.board s.p.side n s.cur) ?_
 simp
 (with_reducible repeat' first|refine Xk ?_<;>try simp|refine Xs ?_ ?_<;>intro h<;>(try intro h')<;>(try simp[h])<;>(try omega)|refine Xg ?_|omega)
 ·rw[pushS,if_pos (by simp_all)];rfl
 ·rw[pushS,if_pos (by simp_all)];rfl
 ·have q0:=pt_len (l:=s.p.cs) (n:=toB g s.p.side n s.cur) (v:=gt s.p.cs s.cur) (by omega) (by omega)
  have q1:=pt_len (l:=pt s.p.cs (toB g s.p.side n s.cur) (gt s.p.cs s.cur)) (n:=s.cur) (v:=0) hcur.1 (by omega)
  refine Yn (f91 s hsm (by omega)) ?_
  simp
  (with_reducible repeat' first|refine Xk ?_<;>try simp[q0,q1]|refine Xs ?_ ?_<;>intro h<;>(try intro h')<;>(try simp[h,q0,q1])<;>(try omega)|refine Xg ?_|omega)
  simp[pushS, *]
  rfl
 ·rw[pushS,if_pos (by simp_all)];rfl
theorem f204(g:Game)(hg:GameOK g)(s:Sta)(hs:StaOK g s)(n:Int):Wf T 204 [.agg s.cells,dG g,.i n] [] (Is (dSn (stepL g s (6,n)))):=by
 have hsz:=hs.p.size
 have hcur:=hs.cur
 have hsm:=hs.p.small hg
 have hbs:=hg.board.size
 have hk1:=hg.kinds
 have l0:=hs.p.h0.len
 have l1:=hs.p.h1.len
 have hcs:=hs.p.cs _ (gt_mem hcur.1 (by omega))
 have hsd:=hs.p.side
 have e:stepL g s (6,n)=takeS g s:=by simp[stepL]
 rw[e]
 refine Yz F204 (insB 52 [2,3,4] F204.body) ?_
 simp[F204,insB,insC,befK,froK,hasK,headIs,Sta.cells]
 refine XCall.c rfl rfl (f243 s (by omega) hsm) (by simp[Sta.cells]) (by simp) ?_
 simp
 by_cases hx:manS (gt s.p.cs s.cur)=1-s.p.side
 ·have hm0:0≤manK (gt s.p.cs s.cur):=by
   unfold manS at hx;unfold manK
   split at hx<;>rename_i h5
   ·rw[if_pos h5];omega
   ·omega
  have hm:manK (gt s.p.cs s.cur)<g.kinds.length:=manK_le hcs.2 hk1.1
  have hs01:s.p.side=0∨s.p.side=1:=by omega
  have q0:=pt_len (l:=s.p.cs) (n:=s.cur) (v:=0) hcur.1 (by omega)
  simp[hx]
  (with_reducible repeat' first|refine Xk ?_<;>try simp|refine Xs ?_ ?_<;>intro h<;>(try intro h')<;>(try simp[h])<;>(try omega)|refine Xg ?_|omega)
  refine Yn (f91 s hsm (by omega)) ?_
  simp
  (with_reducible repeat' first|refine Xk ?_<;>try simp[q0]|refine Xs ?_ ?_<;>intro h<;>(try intro h')<;>(try simp[h,q0])<;>(try omega)|refine Xg ?_|omega)
  ·have hkp:=h
   rcases hs01 with e|e
   ·have ha:=hs.p.h0.at_ _ (by omega) (show manK (gt s.p.cs s.cur)<s.p.h0.length by omega)
    have q1:=gt_pt_eq (l:=s.p.h0) (n:=manK (gt s.p.cs s.cur)) (v:=gt s.p.h0 (manK (gt s.p.cs s.cur))+1) (by omega) (by omega)
    have q2:=pt_len (l:=s.p.h0) (n:=manK (gt s.p.cs s.cur)) (v:=gt s.p.h0 (manK (gt s.p.cs s.cur))+1) (by omega) (by omega)
    simp[e,q0,q1,q2]
    (with_reducible repeat' first|refine Xk ?_<;>try simp[q0,q1,q2]|refine Xs ?_ ?_<;>intro h<;>(try intro h')<;>(try simp[h,q0,q1,q2])<;>(try omega)|refine Xg ?_|omega)
    refine XTCall.c rfl rfl (f241 { p:={ s.p with cs:=pt s.p.cs s.cur 0,h0:=pt s.p.h0 (manK (gt s.p.cs s.cur)) (gt s.p.h0 (manK (gt s.p.cs s.cur))+1),side:=0 },kind:=s.kind,cur:=s.cur,took:=true } (decide (gt s.p.h0 (manK (gt s.p.cs s.cur))+1≤8))) (by simp[Sta.cells]) (by simp) ?_
    simp[takeS,hx,hkp,Pos.hand,Pos.putHand,e]
    done
   ·have ha:=hs.p.h1.at_ _ (by omega) (show manK (gt s.p.cs s.cur)<s.p.h1.length by omega)
    have q1:=gt_pt_eq (l:=s.p.h1) (n:=manK (gt s.p.cs s.cur)) (v:=gt s.p.h1 (manK (gt s.p.cs s.cur))+1) (by omega) (by omega)
    have q2:=pt_len (l:=s.p.h1) (n:=manK (gt s.p.cs s.cur)) (v:=gt s.p.h1 (manK (gt s.p.cs s.cur))+1) (by omega) (by omega)
    simp[e,q0,q1,q2]
    (with_reducible repeat' first|refine Xk ?_<;>try simp[q0,q1,q2]|refine Xs ?_ ?_<;>intro h<;>(try intro h')<;>(try simp[h,q0,q1,q2])<;>(try omega)|refine Xg ?_|omega)
    refine XTCall.c rfl rfl (f241 { p:={ s.p with cs:=pt s.p.cs s.cur 0,h1:=pt s.p.h1 (manK (gt s.p.cs s.cur)) (gt s.p.h1 (manK (gt s.p.cs s.cur))+1),side:=1 },kind:=s.kind,cur:=s.cur,took:=true } (decide (gt s.p.h1 (manK (gt s.p.cs s.cur))+1≤8))) (by simp[Sta.cells]) (by simp) ?_
    simp[takeS,hx,hkp,Pos.hand,Pos.putHand,e]
    done
  ·simp[takeS,hx,h,q0]
   rfl
 ·simp[hx]
  (with_reducible repeat' first|refine Xk ?_<;>try simp|refine Xs ?_ ?_<;>intro h<;>(try intro h')<;>(try simp[h])<;>(try omega)|refine Xg ?_|omega)
  rw[takeS,if_pos hx];rfl
set_option maxRecDepth 10000
set_option maxHeartbeats 4000000
theorem f259(g:Game)(s d c:Int):Wf T 259 [g.board,.i s,.i d,.i c] [] (Is (.fn (.func 265) [] [.fptr [.i g.size,.sl 1 (g.next.map fI),dI g.turn],.fptr [.i s],.fptr [.i d],.fptr [.i c]])):=by
 refine Yg F259 ?_
 simp[F259]
theorem f266(l:List Int)(n:Int)(hl:l.length<2 ^ 40):Wf T 266 [dI l,.i n] [] (Ey (fun r:Int=>.i r) fun r=>0≤r↔n∈l):=by
 refine Yg F266 ?_
 simp[F266]
 refine XLoop.e (0:Int) (fun y=>[(0,dI l),(1,.i n),(7,.i l.length),(8,.i y)]) (fun y=>[]) (fun y=>0≤y∧y≤l.length∧n ∉ l.take y.toNat) (fun y=>(l.length-y).toNat) ?_ ?_
 ·simp
 rintro i ⟨i0,i1,i2⟩
 by_cases hi:i<l.length
 ·simp[hi]
  (with_reducible repeat' first|refine Xk ?_<;>try simp|refine Xs ?_ ?_<;>intro h<;>(try intro h')<;>(try simp[h])<;>(try omega)|refine Xg ?_|omega)
  ·exact Ey.i i rfl rfl ⟨fun _=>by have:=gt_mem i0 hi;simp_all,fun _=>i0⟩
  ·refine LJ.e (i+1) ?_
   refine⟨by omega,by omega,by omega,?_⟩
   rw[take_gt i0 hi]
   simp[i2]
   omega
 ·simp[hi]
  rw[take_all (by omega)]at i2
  exact Ey.i (-1) rfl rfl ⟨fun h=>by omega,fun h=>absurd h i2⟩
theorem f260(l:List Int)(n:Int)(hl:l.length<2 ^ 40):Wf T 260 [dI l,.i n] [] (Is (.b (decide (n∈l)))):=by
 refine Yg F260 ?_
 simp[F260]
 refine Yq (f266 l n hl) fun r hr=>?_
 simp
 simp[hr]
theorem f266e(n:Int):Wf T 266 [.emp,.i n] [] (Is (.i (-1))):=by
 refine Yg F266 ?_
 simp[F266]
 refine XLoop.un ?_
 refine XLoopN.u ?_
 simp
theorem f260e(n:Int):Wf T 260 [.emp,.i n] [] (Is (.b false)):=by
 refine Yg F260 ?_
 simp[F260]
 refine Yc (f266e n) ?_
 simp
theorem f265(g:Game)(hg:BoardOK g)(s d c:Int):Wf T 265 [.yld 4,.fptr [.i g.size,.sl 1 (g.next.map fI),dI g.turn],.fptr [.i s],.fptr [.i d],.fptr [.i c]]
  [.row 37 0 [.i g.size,.sl 1 (g.next.map fI),dI g.turn],.row 3 0 [.i c],.row 33 0 [.emp],.dfr,.rcd 15488 [(7,.ptr 1 0 0),(9,.ptr 2 0 0)] .ready]
  (fun _ H'=>∃ st,(st = .ready∨st = .doneExit 0)∧H' = [.row 37 0 [.i g.size,.sl 1 (g.next.map fI),dI g.turn],.row 3 0 [.i c],.row 33 0 [if lineB g s d c = []then .emp else .osl 5 ((lineB g s d c).length-1) 1 0 (lineB g s d c).length],.dfr,.rcd 15488 [(7,.ptr 1 0 0),(9,.ptr 2 0 0)] st]++(if lineB g s d c = []then []else [.row 3 ((lineB g s d c).length-1) (cl f1 (lineB g s d c))])):=by
 have hb:=hg.size
 refine Yg F265 ?_
 simp[F265]
 refine Yr (f240 g hg s d c) ?_
 simp
 refine XLoop.e ((0,toB g s d c,[]):Nat×Int×List Int) (fun x=>[(0,.yld 4),(1,.fptr [.i g.size,.sl 1 (g.next.map fI),dI g.turn]),(2,.fptr [.i s]),(3,.fptr [.i d]),(6,.i x.2.1)]) (fun x=>[.row 37 0 [.i g.size,.sl 1 (g.next.map fI),dI g.turn],.row 3 0 [.i c],.row 33 0 [if x.2.2 = []then .emp else .osl 5 (x.2.2.length-1) 1 0 x.2.2.length],.dfr,.rcd 15488 [(7,.ptr 1 0 0),(9,.ptr 2 0 0)] .ready]++(if x.2.2 = []then []else [.row 3 (x.2.2.length-1) (cl f1 x.2.2)])) (fun x=>x.1=x.2.2.length∧x.2.1<g.size∧x.2.2.Nodup∧(∀ y∈x.2.2,0≤y∧y<g.size)∧lineB g s d c=lineF g s d c (10-x.1) x.2.1 x.2.2) (fun x=>10-x.1) ?_ ?_
 ·have:=hg.to s d c
  simp[lineB];omega
 rintro⟨m,x,out⟩ ⟨h0,h1,h2,h3,h4⟩
 dsimp only at h0 h1 h2 h3 h4 ⊢
 have hm:out.length≤9:=nodup_le 9 out h2 (fun y hy=>by have:=h3 y hy;omega)
 have e:=h4
 rw[show 10-m=(9-m)+1 by omega,lineF]at e
 have kx:=hg.to s d x
 by_cases ho:out = []
 ·subst ho
  by_cases hx:0≤x
  ·simp[hx]
   refine XYield.r (rf:=15488) (env0:=[(7,.ptr 1 0 0),(9,.ptr 2 0 0)]) (Rd:=R15488) (by simp) rfl rfl R15488.a R15488.b (unfz_no rfl) (unfz_no rfl) ?_
   simp[R15488]
   by_cases hc:x=c
   ·have e3:lineB g s d c = []:=by rw[e,if_neg (fun h=>h.2.1 hc)]
    simp[hc,e3]
   ·have e2:lineB g s d c=lineF g s d c (9-m) (toB g s d x) [x]:=by rw[e,if_pos ⟨hx,hc,by simp⟩];rfl
    simp[hc]
    refine Yc (f260e x) ?_
    simp
    (with_reducible repeat' first|refine Xk ?_<;>try simp|refine Xs ?_ ?_<;>intro h<;>(try intro h')<;>(try simp[h])<;>(try omega)|refine Xg ?_|omega)
    refine Yr (f240 g hg s d x) ?_
    simp
    refine LJ.i (m+1,toB g s d x,[x]) (by first|rfl|simp[cl_one]) (by first|rfl|simp[cl_one]) rfl rfl ?_
    dsimp only
    refine⟨by simp at h0;omega,by simp at h0;simp;omega,kx.2,by simp,by simp;omega,?_⟩
    rw[e2];congr 1;omega
  ·have e3:lineB g s d c = []:=by rw[e,if_neg (fun h=>hx h.1)]
   simp[hx,e3]
 ·simp only[if_neg ho,List.cons_append,List.nil_append]
  by_cases hx:0≤x
  ·simp[hx]
   refine XYield.r (rf:=15488) (env0:=[(7,.ptr 1 0 0),(9,.ptr 2 0 0)]) (Rd:=R15488) (by simp) rfl rfl R15488.a R15488.b (unfz_no rfl) (unfz_no rfl) ?_
   simp[R15488]
   by_cases hc:x=c
   ·have e3:lineB g s d c=out:=by rw[e,if_neg (fun h=>h.2.1 hc)]
    simp[hc,e3,ho]
   ·simp[hc]
    refine Yr (f260 out x (by omega)) ?_
    simp
    refine X2.z hc ?_
    simp
    by_cases hin:x∈out
    ·have e3:lineB g s d c=out:=by rw[e,if_neg (fun h=>h.2.2 hin)]
     simp[hin,e3,ho]
    ·have e2:lineB g s d c=lineF g s d c (9-m) (toB g s d x) (out ++ [x]):=by rw[e,if_pos ⟨hx,hc,hin⟩]
     have hl:0<out.length:=List.length_pos_iff.2 ho
     simp[hin]
     (with_reducible repeat' first|refine Xk ?_<;>try simp|refine Xs ?_ ?_<;>intro h<;>(try intro h')<;>(try simp[h])<;>(try omega)|refine Xg ?_|omega)
     refine Yr (f240 g hg s d x) ?_
     simp
     refine LJ.i (m+1,toB g s d x,out ++ [x]) (by first|rfl|simp[show out.length-1+1=out.length by omega]) (by first|rfl|simp[show out.length-1+1=out.length by omega]) rfl rfl ?_
     dsimp only
     refine⟨by omega,by simp;omega,kx.2,?_,fun y hy=>?_,?_⟩
     ·rw[List.nodup_append];exact⟨h2,by simp,fun a ha b hb=>by rw[List.mem_singleton.1 hb];rintro rfl;exact hin ha⟩
     ·rcases List.mem_append.1 hy with hy|hy
      ·exact h3 y hy
      ·rw[List.mem_singleton.1 hy];omega
     ·rw[e2];congr 1;omega
  ·have e3:lineB g s d c=out:=by rw[e,if_neg (fun h=>hx h.1)]
   simp[hx,e3,ho]
theorem f242(g:Game)(hg:BoardOK g)(s d c:Int):Wf T 242 [g.board,.i s,.i d,.i c] [] (Is (dN 1 f1 (lineB g s d c))):=by
 refine Yg F242 ?_
 simp[F242]
 refine Yc (f259 g s d c) ?_
 simp
 refine XRange.r (f:=265) (first:=[]) (cap:=[.fptr [.i g.size,.sl 1 (g.next.map fI),dI g.turn],.fptr [.i s],.fptr [.i d],.fptr [.i c]]) rfl rfl rfl rfl ?_
 simp
 refine Wf.mono (f265 g hg s d c) ?_
 rintro _ H' ⟨st,hst,rfl⟩
 refine⟨[(7,.ptr 1 0 0),(9,.ptr 2 0 0)],st,by simp,?_⟩
 by_cases h:lineB g s d c = []
 ·rcases hst with rfl|rfl
  ·simp[h]
   rfl
  ·simp[h]
   rfl
 ·have e:dI (lineB g s d c)=dN 1 f1 (lineB g s d c):=by
   revert h
   cases lineB g s d c with
   | nil=>intro h;exact absurd rfl h
   | cons a r=>intro _;rfl
  rcases hst with rfl|rfl
  ·simp[h,e]
  ·simp[h,e]
@[simp] theorem closed_dN1(l:List Int):closed (dN 1 f1 l)=true:=closed_dN (fun a=>by simp[closedL]) l
theorem dSt_dSn{l:List Sta}(h:l≠[]):dSt l=dSn l:=by
 cases l with
 | nil=>exact absurd rfl h
 | cons a r=>rfl
theorem f200(g:Game)(hg:GameOK g)(s:Sta)(hs:StaOK g s)(n:Int):Wf T 200 [.agg s.cells,dG g,.i n] [] (Is (dSn (stepL g s (2,n)))):=by
 have hsz:=hs.p.size
 have hbs:=hg.board.size
 have e:stepL g s (2,n)=lineSt s (lineB g s.p.side n s.cur):=by simp[stepL]
 have hin:∀ y∈lineB g s.p.side n s.cur,0≤y∧y<g.size:=fun y hy=>lineB_in hg.board hy
 have hlen:(lineB g s.p.side n s.cur).length≤10:=lineB_len
 rw[e]
 refine Yg F200 ?_
 simp[F200,Sta.cells]
 refine Yc (f242 g hg.board s.p.side n s.cur) ?_
 simp
 generalize lineB g s.p.side n s.cur=l at *
 refine XLoop.e ((0,[]):Int×List Sta) (fun y=>[(3,.ptr 0 0 0),(7,if y.1=0 then .emp else .osl 2 (y.2.length-1) 8 0 y.2.length),(19,dN 1 f1 l),(20,.i l.length),(21,.i y.1)]) (fun y=>.row 171 0 s.cells :: .row 41 0 g.cells::(if y.1=0 then []else [.row 171 (y.2.length-1) (cl Sta.cells y.2)])) (fun y=>0≤y.1∧y.1≤l.length∧y.2.length=y.1.toNat∧lineSt s l=y.2++lineSt s (l.drop y.1.toNat)) (fun y=>(l.length-y.1).toNat) ?_ ?_
 ·simp
 rintro⟨i,st⟩ ⟨i0,i1,i2,i3⟩
 dsimp only at i0 i1 i2 i3 ⊢
 by_cases hi:i<l.length
 ·have hc:=hin _ (gt_mem i0 hi)
  rw[drop_gt i0 hi,lineSt]at i3
  by_cases hz:i=0
  ·have:st = []:=List.length_eq_zero_iff.1 (by omega)
   subst hz;subst this
   simp[hi,Sta.cells]
   (with_reducible repeat' first|refine Xk ?_<;>try simp|refine Xs ?_ ?_<;>intro h<;>(try intro h')<;>(try simp[h])<;>(try omega)|refine Xg ?_|omega)
   ·refine LJ.i (1,[{ s with cur:=gt l 0 }]) (by first|rfl|simp[cl_one,Sta.cells]) (by first|rfl|simp[cl_one,Sta.cells]) rfl rfl ?_
    refine⟨by dsimp only;omega,by dsimp only;omega,by dsimp only;omega,rfl,?_⟩
    rw[i3,if_pos h];rfl
   ·rw[i3,if_neg h];rfl
  ·have hl:0<st.length:=by omega
   rw[if_neg hz,if_neg hz]
   simp[hi,Sta.cells]
   (with_reducible repeat' first|refine Xk ?_<;>try simp|refine Xs ?_ ?_<;>intro h<;>(try intro h')<;>(try simp[h])<;>(try omega)|refine Xg ?_|omega)
   ·refine LJ.i (i+1,st ++ [{ s with cur:=gt l i }]) (by first|rfl|simp[show ¬ (i+1=0)by omega,show st.length-1+1=st.length by omega,Sta.cells]) (by first|rfl|simp[show ¬ (i+1=0)by omega,show st.length-1+1=st.length by omega,Sta.cells]) rfl rfl ?_
    refine⟨by dsimp only;omega,by dsimp only;omega,by dsimp only;omega,by simp;omega,?_⟩
    rw[i3,if_pos h,show(i+1).toNat=i.toNat+1 by omega];simp
   ·rw[i3,if_neg h,← dSt_dSn (by simp)]
    simp[dSt,Sta.cells]
 ·rw[List.drop_eq_nil_of_le (by omega),lineSt,List.append_nil]at i3
  by_cases hz:i=0
  ·have:st = []:=List.length_eq_zero_iff.1 (by omega)
   subst hz;subst this
   simp[show ¬ 0<l.length by omega,Sta.cells]
   rw[i3];rfl
  ·rw[if_neg hz,if_neg hz]
   simp[hi,Sta.cells]
   rw[i3,dSt_dSn (by intro h;rw[h]at i2;simp at i2;omega)]
set_option maxRecDepth 10000
set_option maxHeartbeats 4000000
theorem f164(g:Game)(hg:GameOK g)(s:Sta)(hs:StaOK g s)(x:Stp)(hx:StepOK g x):Wf T 164 [dG g,.agg s.cells,.agg [.i x.1,.i x.2]] [] (Is (dSn (stepL g s x))):=by
 obtain⟨k,n⟩:=x
 have hx2:=hx.ok
 dsimp only at hx2 ⊢
 rcases(show k=1∨k=2∨k=3∨k=4∨k=5∨k=6∨k=7∨k=8∨k=9∨k=10 by omega)with rfl|rfl|rfl|rfl|rfl|rfl|rfl|rfl|rfl|rfl
 all_goals
  refine Yg F164 ?_
  simp[F164,Sta.cells]
 ·refine XTCall.c rfl rfl (f199 g hg s hs n) (by simp) (by simp) ?_
  simp
 ·refine XTCall.c rfl rfl (f200 g hg s hs n) (by simp) (by simp) ?_
  simp
 ·refine XTCall.c rfl rfl (f201 g hg s hs n) (by simp) (by simp) ?_
  simp
 ·refine XTCall.c rfl rfl (f202 g hg s hs n) (by simp) (by simp) ?_
  simp
 ·refine XTCall.c rfl rfl (f203 g hg s hs n) (by simp) (by simp) ?_
  simp
 ·refine XTCall.c rfl rfl (f204 g hg s hs n) (by simp) (by simp) ?_
  simp
 ·refine XTCall.c rfl rfl (f205 g hg s hs n) (by simp) (by simp) ?_
  simp
 ·refine XTCall.c rfl rfl (f206 g s n) (by simp) (by simp) ?_
  simp
 ·refine XTCall.c rfl rfl (f207 g hg s hs n (by omega)) (by simp) (by simp) ?_
  simp
 ·refine XTCall.c rfl rfl (f208 g hg s hs n (by omega)) (by simp) (by simp) ?_
  simp
set_option maxRecDepth 10000
set_option maxHeartbeats 4000000
@[simp] theorem appZ_emp(t sz bytes:Nat)(z:List D)(m:Int)(vn:Nat):appZO t sz bytes z .emp (.val (.int .i64 m)) vn=if 0<m∧leK (m*bytes) 140737488355328∧leK m 9223372036854775807 then some (.osl vn 0 sz 0 m.toNat,.new (.row t 0 (List.replicate m.toNat z).flatten))else none:=rfl
theorem f191(n:Int)(hn:0<n∧n<1000):Wf T 191 [.emp,.i n] [] (fun d H=>d = .osl 0 0 1 0 0∧H = [.row 3 0 (cl f1 (List.replicate n.toNat 0))]):=by
 refine Yg F191 ?_
 simp[F191]
 (with_reducible repeat' first|refine Xk ?_<;>try simp|refine Xs ?_ ?_<;>intro h<;>(try intro h')<;>(try simp[h])<;>(try omega)|refine Xg ?_|omega)
@[irreducible] def fl(l:List (List Int)):List Int:=l.flatten
theorem fl_def(l:List (List Int)):fl l=l.flatten:=by unfold fl;rfl
@[simp] theorem fl_nil:fl [] = []:=by simp[fl_def]
theorem flat_take{l:List (List Int)}{i:Int}(h0:0≤i)(h:i<l.length):fl (l.take (i+1).toNat)=fl (l.take i.toNat)++gt l i:=by
 rw[take_gt h0 h];simp[fl_def]
theorem flat_le(l:List (List Int))(n:Nat):(fl (l.take n)).length≤(fl l).length:=by
 simp only[fl_def]
 conv=>rhs;rw[← List.take_append_drop n l]
 simp only[List.flatten_append,List.length_append]
 omega
theorem f148(l:List (List Int))(hl:l.length≤10)(hn:0<(fl l).length∧(fl l).length<1000):Wf T 148 [.sl 1 (l.map fI)] [] (fun d H=>d = .osl 0 l.length 1 0 (fl l).length∧H = [.row 3 l.length (cl f1 (fl l))]):=by
 have hne:0<l.length:=by
  cases l with
  | nil=>simp at hn
  | cons a r=>simp
 refine Yg F148 ?_
 simp[F148]
 refine XLoop.e (0:Int) (fun i=>[(0,.sl 1 (l.map fI)),(3,.i (fl (l.take i.toNat)).length),(9,.sl 1 (l.map fI)),(10,.i l.length),(11,.i i)]) (fun i=>[]) (fun i=>0≤i∧i≤l.length) (fun i=>(l.length-i).toNat) ?_ ?_
 ·simp
 rintro i ⟨i0,i1⟩
 by_cases hi:i<l.length
 ·have h1:=flat_take i0 hi
  have h2:=flat_le l (i+1).toNat
  rw[h1,List.length_append]at h2
  simp[hi]
  (with_reducible repeat' first|refine Xk ?_<;>try simp|refine Xs ?_ ?_<;>intro h<;>(try intro h')<;>(try simp[h])<;>(try omega)|refine Xg ?_|omega)
  refine LJ.i (i+1) (by first|rfl|simp[h1]) (by first|rfl|simp[h1]) rfl rfl ?_
  exact⟨by omega,by omega,by omega⟩
 ·have e1:(l.take i.toNat)=l:=take_all (by omega)
  simp[hi,e1]
  refine Yn (f191 (fl l).length (by omega)) ?_
  simp
  refine XLoop.e (0:Int) (fun j=>[(6,.osl 0 j.toNat 1 0 (fl (l.take j.toNat)).length),(25,.sl 1 (l.map fI)),(26,.i l.length),(27,.i j)]) (fun j=>[.row 3 j.toNat (if j=0 then cl f1 (List.replicate (fl l).length 0)else cl f1 (fl (l.take j.toNat)))]) (fun j=>0≤j∧j≤l.length) (fun j=>(l.length-j).toNat) ?_ ?_
  ·simp
  rintro j ⟨j0,j1⟩
  by_cases hj:j<l.length
  ·have h1:=flat_take j0 hj
   have h2:=flat_le l (j+1).toNat
   rw[h1,List.length_append]at h2
   by_cases hz:j=0
   ·subst hz
    simp at h1 h2
    simp[hj]
    (with_reducible repeat' first|refine Xk ?_<;>try simp|refine Xs ?_ ?_<;>intro h<;>(try intro h')<;>(try simp[h])<;>(try omega)|refine Xg ?_|omega)
    refine LJ.i (1) (by first|rfl|simp[h1]) (by first|rfl|simp[h1]) rfl rfl ?_
    exact⟨by omega,by omega,by omega⟩
   ·rw[if_neg hz]
    simp[hj]
    (with_reducible repeat' first|refine Xk ?_<;>try simp|refine Xs ?_ ?_<;>intro h<;>(try intro h')<;>(try simp[h])<;>(try omega)|refine Xg ?_|omega)
    have e2:(j+1).toNat=j.toNat+1:=by omega
    rw[e2]at h1
    refine LJ.i (j+1) (by first|rfl|simp[h1,e2,show ¬ (j+1=0)by omega]) (by first|rfl|simp[h1,e2,show ¬ (j+1=0)by omega]) rfl rfl ?_
    exact⟨by omega,by omega,by omega⟩
  ·have e1:(l.take j.toNat)=l:=take_all (by omega)
   have hjl:j.toNat=l.length:=by omega
   rw[if_neg (by omega)]
   simp[hj,e1,hjl]
@[irreducible] def keyL(p:Pos):List Int:=fl [p.cs,p.h0,p.h1,[p.rights,p.side]]
theorem keyL_def(p:Pos):keyL p=fl [p.cs,p.h0,p.h1,[p.rights,p.side]]:=by unfold keyL;rfl
def keyB(p:Pos):ByteArray:=((keyL p).map fun n=>IntKind.u8.wrap n).foldl (fun r n=>r.push (UInt8.ofNat n.toNat)) ByteArray.empty
@[simp] theorem clU_snoc(l:List Int)(n:Int):cl fU l ++ [.val (.int .u8 n)]=cl fU (l ++ [n]):=by rw[← cl_snoc,fU_def]
@[simp] theorem bytesOf_clU:∀ l:List Int,bytesOf (cl fU l)=some l
 | []=>by simp[bytesOf]
 | a::r=>by rw[cl_cons,fU_def,List.singleton_append,bytesOf,bytesOf_clU r]
theorem f101(p:Pos)(h:0<p.cs.length)(hl:(keyL p).length<1000):Wf T 101 [dP p] [] (Is (.val (.string (keyB p)))):=by
 have hk:0<(keyL p).length:=by simp[keyL_def,fl_def];omega
 have hc:=f148 [p.cs,p.h0,p.h1,[p.rights,p.side]] (by simp) (by rw[← keyL_def];exact⟨hk,hl⟩)
 rw[← keyL_def]at hc
 refine Yg F101 ?_
 simp[F101]
 refine XCall.nr rfl rfl hc (by simp[fzR,chunks];unfold dI;simp only[List.map_cons,List.map_nil,f1_def]) (by simp) (by simp) ?_
 simp
 refine XLoop.e (0:Int) (fun y=>[(3,if y=0 then .emp else .osl 4 (y.toNat-1) 1 0 y.toNat),(20,.osl 3 4 1 0 (keyL p).length),(21,.i (keyL p).length),(22,.i y)]) (fun y=>[.row 44 0 p.cells,.row 3 0 [.i p.rights,.i p.side],.row 33 0 [dI p.cs,dI p.h0,dI p.h1,.osl 1 0 1 0 2],.row 3 4 (cl f1 (keyL p))]++(if y=0 then []else [.row 5 (y.toNat-1) (cl fU (((keyL p).take y.toNat).map fun n=>IntKind.u8.wrap n))])) (fun y=>0≤y∧y≤(keyL p).length) (fun y=>((keyL p).length-y).toNat) ?_ ?_
 ·simp
 rintro i ⟨i0,i1⟩
 by_cases hi:i<(keyL p).length
 ·have hT:(List.take (i.toNat+1) (keyL p)).map (fun n=>IntKind.u8.wrap n)=(List.take i.toNat (keyL p)).map (fun n=>IntKind.u8.wrap n) ++ [IntKind.u8.wrap (gt (keyL p) i)]:=by
   rw[← show(i+1).toNat=i.toNat+1 by omega,take_gt i0 hi];simp
  have e1:(i+1).toNat=i.toNat+1:=by omega
  by_cases hz:i=0
  ·rw[if_pos hz,if_pos hz]
   have ez:i.toNat=0:=by omega
   rw[ez]at hT e1
   simp at hT
   simp[hi]
   (with_reducible repeat' first|refine Xk ?_<;>try simp|refine Xs ?_ ?_<;>intro h<;>(try intro h')<;>(try simp[h])<;>(try omega)|refine Xg ?_|omega)
   refine LJ.i (i+1) (by first|rfl|simp[show ¬ (i+1=0)by omega,e1,hT,cl_one]) (by first|rfl|simp[show ¬ (i+1=0)by omega,e1,hT,cl_one]) rfl rfl ?_
   exact⟨by omega,by omega,by omega⟩
  ·rw[if_neg hz,if_neg hz]
   simp[hi]
   (with_reducible repeat' first|refine Xk ?_<;>try simp|refine Xs ?_ ?_<;>intro h<;>(try intro h')<;>(try simp[h])<;>(try omega)|refine Xg ?_|omega)
   have e2:i.toNat-1+1=i.toNat:=by omega
   simp at hT
   refine LJ.i (i+1) (by first|rfl|simp[show ¬ (i+1=0)by omega,e1,hT,e2,List.take_take]) (by first|rfl|simp[show ¬ (i+1=0)by omega,e1,hT,e2,List.take_take]) rfl rfl ?_
   exact⟨by omega,by omega,by omega⟩
 ·rw[if_neg (by omega),if_neg (by omega)]
  have e3:i.toNat=(keyL p).length:=by omega
  simp[hi,b2sO,e3]
  rfl
end Go.Proofs.YtnaefnajkaohgaaGreatDoor
