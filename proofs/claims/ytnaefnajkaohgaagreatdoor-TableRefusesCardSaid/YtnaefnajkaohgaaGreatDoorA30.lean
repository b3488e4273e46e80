/- Part 30 of the proof of skewer.skewerlaw15.TableRefuses. -/
import Derived.Test.YtnaefnajkaohgaaGreatDoorA15
import Derived.Test.YtnaefnajkaohgaaGreatDoorA29
set_option linter.all false
namespace Go.Proofs.YtnaefnajkaohgaaGreatDoor
open Go Go.AL Classical
set_option maxRecDepth 10000
set_option maxHeartbeats 4000000
def dSn(l:List Sta):D:=dN 8 Sta.cells l
@[simp] theorem closed_dSn(l:List Sta):closed (dSn l)=true:=closed_dN (fun a=>by simp[Sta.cells,closedL]) l
theorem f132(l:List Int)(h:0<l.length)(h2:l.length<2 ^ 40):Wf T 132 [dI l] [] (fun d H=>d = .osl 0 1 1 0 l.length∧H = [.row 3 1 (cl f1 l)]):=by
 refine Wf.x (fn:=F132) rfl (by simp[F132]) ?_
 simp[F132]
 refine oA.i (a:=.b false) (by cases l with|nil=>exact absurd h (by simp)|cons a r=>rfl) ?_
 simp
 (with_reducible repeat' first|(first|refine Xy ?_|refine Xz ?_|refine Xu ?_|refine Xv ?_)<;>try simp|(first|refine Xa (fun h h'=>?_) (fun h=>?_)|(first|refine Xd ?_ ?_|refine Xo ?_ ?_|refine Xb ?_ ?_)<;>intro h)<;>(try simp[h])<;>(try (exfalso;omega))|refine Xg ?_|omega)
theorem f91(s:Sta)(hs:Small s.p)(h0:0<s.p.cs.length∧0<s.p.h0.length∧0<s.p.h1.length):Wf T 91 [.agg s.cells] [] (fun d H=>d = .agg [.osl 0 1 1 0 s.p.cs.length,.osl 1 1 1 0 s.p.h0.length,.osl 2 1 1 0 s.p.h1.length,.i s.p.rights,.i s.p.side,.i s.kind,.i s.cur,.b s.took]∧H = [.row 3 1 (cl f1 s.p.cs),.row 3 1 (cl f1 s.p.h0),.row 3 1 (cl f1 s.p.h1)]):=by
 refine Wf.x (fn:=F91) rfl (by simp[F91]) ?_
 simp[F91,Sta.cells]
 refine XCall.n rfl rfl (f132 s.p.cs h0.1 hs.1) (by simp) (by simp) ?_
 simp
 refine XTCallN.n rfl rfl (f132 s.p.h0 h0.2.1 hs.2.1) (by simp) (by simp) ?_
 simp
 refine XTCallN.n rfl rfl (f132 s.p.h1 h0.2.2 hs.2.2) (by simp) (by simp) ?_
 simp
theorem f241(s:Sta)(b:Bool):Wf T 241 [.agg s.cells,.b b] [] (Is (dSn (if b then [s]else []))):=by
 refine Wf.x (fn:=F241) rfl (by simp[F241]) ?_
 simp[F241,Sta.cells]
 cases b
 ·simp
  rfl
 ·simp
  rfl
theorem f243(s:Sta)(h:0≤s.cur∧s.cur<s.p.cs.length)(hs:Small s.p):Wf T 243 [.agg s.cells] [] (Is (.tup [.i (manK (gt s.p.cs s.cur)),.i (manS (gt s.p.cs s.cur))])):=by
 refine Wf.x (fn:=F243) rfl (by simp[F243]) ?_
 simp[F243,Sta.cells]
 (with_reducible repeat' first|(first|refine Xy ?_|refine Xz ?_|refine Xu ?_|refine Xv ?_)<;>try simp|(first|refine Xa (fun h h'=>?_) (fun h=>?_)|(first|refine Xd ?_ ?_|refine Xo ?_ ?_|refine Xb ?_ ?_)<;>intro h)<;>(try simp[h])<;>(try (exfalso;omega))|refine Xg ?_|omega)
 refine XCall.c rfl rfl (f84 _) (by simp) (by simp) ?_
 simp
theorem f199(g:Game)(hg:GameOK g)(s:Sta)(hs:StaOK g s)(n:Int):Wf T 199 [.agg s.cells,dG g,.i n] [] (Is (dSn (stepL g s (1,n)))):=by
 refine Wf.x (fn:=F199) rfl (by simp[F199]) ?_
 simp[F199,Sta.cells]
 refine XCall.c rfl rfl (f240 g hg.board s.p.side n s.cur) (by simp) (by simp) ?_
 simp
 refine XCall.c rfl rfl (f241 { s with cur:=toB g s.p.side n s.cur } (decide (0≤toB g s.p.side n s.cur))) (by simp[Sta.cells]) (by simp) ?_
 simp[stepL]
theorem f201(g:Game)(hg:GameOK g)(s:Sta)(hs:StaOK g s)(n:Int):Wf T 201 [.agg s.cells,dG g,.i n] [] (Is (dSn (stepL g s (3,n)))):=by
 have hsz:=hs.p.size
 have hcur:=hs.cur
 refine Wf.x (fn:=F201) rfl (by simp[F201]) ?_
 simp[F201,Sta.cells]
 (with_reducible repeat' first|(first|refine Xy ?_|refine Xz ?_|refine Xu ?_|refine Xv ?_)<;>try simp|(first|refine Xa (fun h h'=>?_) (fun h=>?_)|(first|refine Xd ?_ ?_|refine Xo ?_ ?_|refine Xb ?_ ?_)<;>intro h)<;>(try simp[h])<;>(try (exfalso;omega))|refine Xg ?_|omega)
 refine XTCall.c rfl rfl (f241 s (decide (gt s.p.cs s.cur=0))) (by simp[Sta.cells]) (by simp) ?_
 simp[stepL]
theorem f202(g:Game)(hg:GameOK g)(s:Sta)(hs:StaOK g s)(n:Int):Wf T 202 [.agg s.cells,dG g,.i n] [] (Is (dSn (stepL g s (4,n)))):=by
 have hsz:=hs.p.size
 have hcur:=hs.cur
 have hsd:=hs.p.side
 refine Wf.x (fn:=F202) rfl (by simp[F202]) ?_
 simp[F202,Sta.cells]
 refine XCall.c rfl rfl (f243 s (by omega) (hs.p.small hg)) (by simp[Sta.cells]) (by simp) ?_
 simp
 (with_reducible repeat' first|(first|refine Xy ?_|refine Xz ?_|refine Xu ?_|refine Xv ?_)<;>try simp|(first|refine Xa (fun h h'=>?_) (fun h=>?_)|(first|refine Xd ?_ ?_|refine Xo ?_ ?_|refine Xb ?_ ?_)<;>intro h)<;>(try simp[h])<;>(try (exfalso;omega))|refine Xg ?_|omega)
 refine XCall.c rfl rfl (f241 s (decide (manS (gt s.p.cs s.cur)=1-s.p.side))) (by simp[Sta.cells]) (by simp) ?_
 simp[stepL]
theorem f203(g:Game)(hg:GameOK g)(s:Sta)(hs:StaOK g s)(n:Int):Wf T 203 [.agg s.cells,dG g,.i n] [] (Is (dSn (stepL g s (5,n)))):=by
 have hsz:=hs.p.size
 have hcur:=hs.cur
 refine Wf.x (fn:=F203) rfl (by simp[F203]) ?_
 simp[F203,Sta.cells]
 refine XCall.c rfl rfl (f243 s (by omega) (hs.p.small hg)) (by simp[Sta.cells]) (by simp) ?_
 simp
 refine XCall.c rfl rfl (f241 s (decide (manS (gt s.p.cs s.cur)=s.p.side))) (by simp[Sta.cells]) (by simp) ?_
 simp[stepL]
theorem f206(g:Game)(s:Sta)(n:Int):Wf T 206 [.agg s.cells,dG g,.i n] [] (Is (dSn (stepL g s (8,n)))):=by
 refine Wf.x (fn:=F206) rfl (by simp[F206]) ?_
 simp[F206,Sta.cells]
 rfl
theorem f207(g:Game)(hg:GameOK g)(s:Sta)(hs:StaOK g s)(n:Int)(hn:0≤n∧n<g.rights):Wf T 207 [.agg s.cells,dG g,.i n] [] (Is (dSn (stepL g s (9,n)))):=by
 have hr:=hs.p.rights
 have hgr:=hg.rights
 have h5:=pow_small hgr.1 (by omega)
 have ha:=right_and (r:=s.p.rights) (n:=n) hr.1 (by omega) hn.1 (by omega)
 refine Wf.x (fn:=F207) rfl (by simp[F207]) ?_
 simp[F207,Sta.cells]
 (with_reducible repeat' first|(first|refine Xy ?_|refine Xz ?_|refine Xu ?_|refine Xv ?_)<;>try simp|(first|refine Xa (fun h h'=>?_) (fun h=>?_)|(first|refine Xd ?_ ?_|refine Xo ?_ ?_|refine Xb ?_ ?_)<;>intro h)<;>(try simp[h])<;>(try (exfalso;omega))|refine Xg ?_|omega)
 refine XTCall.c rfl rfl (f241 s (decide (bits BinOp.and IntKind.i64 (shrK IntKind.i64 s.p.rights n) 1=1))) (by simp[Sta.cells]) (by simp) ?_
 simp[stepL,ha]
theorem f208(g:Game)(hg:GameOK g)(s:Sta)(hs:StaOK g s)(n:Int)(hn:0≤n∧n<g.rights):Wf T 208 [.agg s.cells,dG g,.i n] [] (Is (dSn (stepL g s (10,n)))):=by
 have hr:=hs.p.rights
 have hgr:=hg.rights
 have h5:=pow_small hgr.1 (by omega)
 have ha:=right_drop (r:=s.p.rights) (n:=n) hr.1 (by omega) hn.1 (by omega)
 refine Wf.x (fn:=F208) rfl (by simp[F208]) ?_
 simp[F208,Sta.cells,ha]
 (with_reducible repeat' first|(first|refine Xy ?_|refine Xz ?_|refine Xu ?_|refine Xv ?_)<;>try simp[ha]|(first|refine Xa (fun h h'=>?_) (fun h=>?_)|(first|refine Xd ?_ ?_|refine Xo ?_ ?_|refine Xb ?_ ?_)<;>intro h)<;>(try simp[h,ha])<;>(try (exfalso;omega))|refine Xg ?_|omega)
 rfl
theorem f205(g:Game)(hg:GameOK g)(s:Sta)(hs:StaOK g s)(n:Int):Wf T 205 [.agg s.cells,dG g,.i n] [] (Is (dSn (stepL g s (7,n)))):=by
 have hsz:=hs.p.size
 have hcur:=hs.cur
 have hsm:=hs.p.small hg
 have hbs:=hg.board.size
 have hk:=hg.kinds
 have l0:=hs.p.h0.len
 have l1:=hs.p.h1.len
 have ht:=hg.board.to s.p.side n s.cur
 have e:stepL g s (7,n)=pushS g s n:=by simp[stepL]
 rw[e]
 refine Wf.x (fn:=F205) rfl (by simp[F205]) ?_
 simp[F205,Sta.cells]
 refine XCall.c rfl rfl (f240 g hg.board s.p.side n s.cur) (by simp) (by simp) ?_
 simp
 (with_reducible repeat' first|(first|refine Xy ?_|refine Xz ?_|refine Xu ?_|refine Xv ?_)<;>try simp|(first|refine Xa (fun h h'=>?_) (fun h=>?_)|(first|refine Xd ?_ ?_|refine Xo ?_ ?_|refine Xb ?_ ?_)<;>intro h)<;>(try simp[h])<;>(try (exfalso;omega))|refine Xg ?_|omega)
 ·rw[pushS,if_pos (by simp_all)];rfl
 ·rw[pushS,if_pos (by simp_all)];rfl
 ·have q0:=pt_len (l:=s.p.cs) (n:=toB g s.p.side n s.cur) (v:=gt s.p.cs s.cur) (by omega) (by omega)
  have q1:=pt_len (l:=pt s.p.cs (toB g s.p.side n s.cur) (gt s.p.cs s.cur)) (n:=s.cur) (v:=0) hcur.1 (by omega)
  refine XCall.n rfl rfl (f91 s hsm (by omega)) (by simp) (by simp) ?_
  simp
  (with_reducible repeat' first|(first|refine Xy ?_|refine Xz ?_|refine Xu ?_|refine Xv ?_)<;>try simp[q0,q1]|(first|refine Xa (fun h h'=>?_) (fun h=>?_)|(first|refine Xd ?_ ?_|refine Xo ?_ ?_|refine Xb ?_ ?_)<;>intro h)<;>(try simp[h,q0,q1])<;>(try (exfalso;omega))|refine Xg ?_|omega)
  simp[pushS, *]
  rfl
 ·rw[pushS,if_pos (by simp_all)];rfl
theorem f204(g:Game)(hg:GameOK g)(s:Sta)(hs:StaOK g s)(n:Int):Wf T 204 [.agg s.cells,dG g,.i n] [] (Is (dSn (stepL g s (6,n)))):=by
 have hsz:=hs.p.size
 have hcur:=hs.cur
 have hsm:=hs.p.small hg
 have hbs:=hg.board.size
 have hk1:=hg.kinds
 have l0:=hs.p.h0.len
 have l1:=hs.p.h1.len
 have hcs:=hs.p.cs _ (gt_mem hcur.1 (by omega))
 have hsd:=hs.p.side
 have e:stepL g s (6,n)=takeS g s:=by simp[stepL]
 rw[e]
 refine Wf.xz (fn:=F204) (F204.own) (insB 52 [2,3,4] F204.body) rfl (by simp[F204]) (by simp only[unfz_ins,unfz_insC];exact unfz_no rfl) ?_
 simp[F204,insB,insC,befK,froK,hasK,headIs,Sta.cells]
 refine XCall.c rfl rfl (f243 s (by omega) hsm) (by simp[Sta.cells]) (by simp) ?_
 simp
 by_cases hx:manS (gt s.p.cs s.cur)=1-s.p.side
 ·have hm0:0≤manK (gt s.p.cs s.cur):=by
   unfold manS at hx;unfold manK
   split at hx<;>rename_i h5
   ·rw[if_pos h5];omega
   ·omega
  have hm:manK (gt s.p.cs s.cur)<g.kinds.length:=manK_le hcs.2 hk1.1
  have hs01:s.p.side=0∨s.p.side=1:=by omega
  have q0:=pt_len (l:=s.p.cs) (n:=s.cur) (v:=0) hcur.1 (by omega)
  simp[hx]
  (with_reducible repeat' first|(first|refine Xy ?_|refine Xz ?_|refine Xu ?_|refine Xv ?_)<;>try simp|(first|refine Xa (fun h h'=>?_) (fun h=>?_)|(first|refine Xd ?_ ?_|refine Xo ?_ ?_|refine Xb ?_ ?_)<;>intro h)<;>(try simp[h])<;>(try (exfalso;omega))|refine Xg ?_|omega)
  refine XCall.n rfl rfl (f91 s hsm (by omega)) (by simp) (by simp) ?_
  simp
  (with_reducible repeat' first|(first|refine Xy ?_|refine Xz ?_|refine Xu ?_|refine Xv ?_)<;>try simp[q0]|(first|refine Xa (fun h h'=>?_) (fun h=>?_)|(first|refine Xd ?_ ?_|refine Xo ?_ ?_|refine Xb ?_ ?_)<;>intro h)<;>(try simp[h,q0])<;>(try (exfalso;omega))|refine Xg ?_|omega)
  ·have hkp:=h
   rcases hs01 with e|e
   ·have ha:=hs.p.h0.at_ _ (by omega) (show manK (gt s.p.cs s.cur)<s.p.h0.length by omega)
    have q1:=gt_pt_eq (l:=s.p.h0) (n:=manK (gt s.p.cs s.cur)) (v:=gt s.p.h0 (manK (gt s.p.cs s.cur))+1) (by omega) (by omega)
    have q2:=pt_len (l:=s.p.h0) (n:=manK (gt s.p.cs s.cur)) (v:=gt s.p.h0 (manK (gt s.p.cs s.cur))+1) (by omega) (by omega)
    simp[e,q0,q1,q2]
    (with_reducible repeat' first|(first|refine Xy ?_|refine Xz ?_|refine Xu ?_|refine Xv ?_)<;>try simp[q0,q1,q2]|(first|refine Xa (fun h h'=>?_) (fun h=>?_)|(first|refine Xd ?_ ?_|refine Xo ?_ ?_|refine Xb ?_ ?_)<;>intro h)<;>(try simp[h,q0,q1,q2])<;>(try (exfalso;omega))|refine Xg ?_|omega)
    refine XTCall.c rfl rfl (f241 { p:={ s.p with cs:=pt s.p.cs s.cur 0,h0:=pt s.p.h0 (manK (gt s.p.cs s.cur)) (gt s.p.h0 (manK (gt s.p.cs s.cur))+1),side:=0 },kind:=s.kind,cur:=s.cur,took:=true } (decide (gt s.p.h0 (manK (gt s.p.cs s.cur))+1≤8))) (by simp[Sta.cells]) (by simp) ?_
    simp[takeS,hx,hkp,Pos.hand,Pos.putHand,e]
    done
   ·have ha:=hs.p.h1.at_ _ (by omega) (show manK (gt s.p.cs s.cur)<s.p.h1.length by omega)
    have q1:=gt_pt_eq (l:=s.p.h1) (n:=manK (gt s.p.cs s.cur)) (v:=gt s.p.h1 (manK (gt s.p.cs s.cur))+1) (by omega) (by omega)
    have q2:=pt_len (l:=s.p.h1) (n:=manK (gt s.p.cs s.cur)) (v:=gt s.p.h1 (manK (gt s.p.cs s.cur))+1) (by omega) (by omega)
    simp[e,q0,q1,q2]
    (with_reducible repeat' first|(first|refine Xy ?_|refine Xz ?_|refine Xu ?_|refine Xv ?_)<;>try simp[q0,q1,q2]|(first|refine Xa (fun h h'=>?_) (fun h=>?_)|(first|refine Xd ?_ ?_|refine Xo ?_ ?_|refine Xb ?_ ?_)<;>intro h)<;>(try simp[h,q0,q1,q2])<;>(try (exfalso;omega))|refine Xg ?_|omega)
    refine XTCall.c rfl rfl (f241 { p:={ s.p with cs:=pt s.p.cs s.cur 0,h1:=pt s.p.h1 (manK (gt s.p.cs s.cur)) (gt s.p.h1 (manK (gt s.p.cs s.cur))+1),side:=1 },kind:=s.kind,cur:=s.cur,took:=true } (decide (gt s.p.h1 (manK (gt s.p.cs s.cur))+1≤8))) (by simp[Sta.cells]) (by simp) ?_
    simp[takeS,hx,hkp,Pos.hand,Pos.putHand,e]
    done
  ·simp[takeS,hx,h,q0]
   rfl
 ·simp[hx]
  (with_reducible repeat' first|(first|refine Xy ?_|refine Xz ?_|refine Xu ?_|refine Xv ?_)<;>try simp|(first|refine Xa (fun h h'=>?_) (fun h=>?_)|(first|refine Xd ?_ ?_|refine Xo ?_ ?_|refine Xb ?_ ?_)<;>intro h)<;>(try simp[h])<;>(try (exfalso;omega))|refine Xg ?_|omega)
  rw[takeS,if_pos hx];rfl
end Go.Proofs.YtnaefnajkaohgaaGreatDoor
