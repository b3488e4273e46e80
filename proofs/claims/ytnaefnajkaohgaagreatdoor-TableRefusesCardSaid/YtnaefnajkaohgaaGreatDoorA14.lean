/- Part 14 of the proof of skewer.skewerlaw15.TableRefuses. -/
import Derived.Test.YtnaefnajkaohgaaGreatDoorA13
set_option linter.all false
namespace Go.AL
open Go
def leaveB(H:Heap)(d:D)(ks:Keep):D×Heap:=(shed (rho ks) H 40 d,ks.map fun p=>if p.2 then shedAt (rho ks) H H[p.1]? else .dead)
@[simp] theorem leaveB_def(H:Heap)(d:D)(ks:Keep):leaveB H d ks=(shed (rho ks) H 40 d,ks.map fun p=>if p.2 then shedAt (rho ks) H H[p.1]? else .dead):=rfl
def ownB(own n:Nat)(H:Heap)(d:D):List Nat:=match own with|0=>[]|1=>ownRefs n d|3=>((refsD H 40 d).filter (n≤·)).take 1|_=>(refsD H 40 d).filter (n≤·)
@[simp] theorem ownB_0(n:Nat)(H:Heap)(d:D):ownB 0 n H d = []:=rfl
@[simp] theorem ownB_1(n:Nat)(H:Heap)(d:D):ownB 1 n H d=ownRefs n d:=rfl
@[simp] theorem ownB_2(n:Nat)(H:Heap)(d:D):ownB 2 n H d=(refsD H 40 d).filter (n≤·):=rfl
@[simp] theorem ownB_3(n:Nat)(H:Heap)(d:D):ownB 3 n H d=((refsD H 40 d).filter (n≤·)).take 1:=rfl
@[simp low] theorem leave_B{own n:Nat}{H:Heap}{d:D}(h:¬ H.length≤n):leave own n H d=leaveB H d (keepOf n (dedup ((ownB own n H d++((H.take n).map (obRefs n)).flatten).filter (· < H.length)))):=by
 unfold leave leaveB ownB
 rw[if_neg h]
 rfl
@[simp] theorem ownRefs_osl(n v g sz len:Nat):ownRefs n (.osl v g sz 0 len)=if n≤v then [v]else []:=rfl
theorem refsD_closed{H:Heap}{k:Nat}{d:D}(h:closed d=true):refsD H k d = []:=by
 cases k with
 | zero=>rfl
 | succ k=>unfold refsD;exact if_pos h
theorem refsD_closedL{H:Heap}{k:Nat}{cs:List D}(h:closedL cs=true):(cs.map (refsD H k)).flatten = []:=by
 induction cs with
 | nil=>rfl
 | cons d r ih=>
  simp only[closedL,Bool.and_eq_true]at h
  simp[refsD_closed h.1,ih h.2]
@[simp] theorem refsD_cl{H:Heap}{k:Nat}{d:D}(h:closed d=true):refsD H k d = []:=refsD_closed h
@[simp] theorem refsD_agg(H:Heap)(k:Nat)(cs:List D):refsD H (k+1) (.agg cs)=(cs.map (refsD H k)).flatten:=by
 by_cases h:closed (.agg cs)=true
 ·rw[refsD_closed h,refsD_closedL (by simpa using h)]
 ·rw[refsD,if_neg h]
@[simp] theorem refsD_tup(H:Heap)(k:Nat)(cs:List D):refsD H (k+1) (.tup cs)=(cs.map (refsD H k)).flatten:=by
 by_cases h:closed (.tup cs)=true
 ·rw[refsD_closed h,refsD_closedL (by simpa using h)]
 ·rw[refsD,if_neg h]
def refsO(H:Heap)(k:Nat):Option Ob→List Nat
 | some (.row _ _ cs)=>(cs.map (refsD H k)).flatten
 | _=>[]
@[simp] theorem refsO_row(H:Heap)(k t g:Nat)(cs:List D):refsO H k (some (.row t g cs))=(cs.map (refsD H k)).flatten:=rfl
@[simp] theorem refsO_map(H:Heap)(k:Nat)(kk:KK)(es:List (Value×D)):refsO H k (some (.map kk es)) = []:=rfl
theorem refsO_of(H:Heap)(k v:Nat):(match rowsOf H v with|some (_,_,cs)=>(cs.map (refsD H k)).flatten|none=>[])=refsO H k H[v]? := by
 unfold rowsOf refsO
 cases h:H[v]? with
 | none=>rfl
 | some o=>cases o<;>rfl
@[simp] theorem refsD_osl(H:Heap)(k v g sz off n:Nat):refsD H (k+1) (.osl v g sz off n)=v::refsO H k H[v]? := by
 rw[refsD,if_neg (by simp)]
 exact congrArg _ (refsO_of H k v)
@[simp] theorem refsD_ptr(H:Heap)(k v g off:Nat):refsD H (k+1) (.ptr v g off)=v::refsO H k H[v]? := by
 rw[refsD,if_neg (by simp)]
 exact congrArg _ (refsO_of H k v)
@[simp] theorem refsD_omap(H:Heap)(k v:Nat):refsD H (k+1) (.omap v) = [v]:=by
 rw[refsD,if_neg (by simp)]
@[simp] theorem refsD_row{H:Heap}{k:Nat}{α:Type}{f:α→List D}{sz:Nat}[F:Fl f sz](l:List α):((cl f l).map (refsD H k)).flatten = []:=refsD_closedL (cl_closed l)
@[simp low] theorem fzR_1{ρ:Nat→Option Nat}{H:Heap}{k sz:Nat}{t:TypeId}{cs:List D}(h:cs.length=sz):fzR ρ H k sz 0 1 (some (t,cs)) = .sl sz [cs.map (shed ρ H k)]:=by
 subst h
 unfold fzR
 simp[chunks,List.take_of_length_le]
@[simp] theorem sl_sta{a b c:List Int}{r q w u:Int}{o:Bool}:D.sl 8 [[dI a,dI b,dI c,.i r,.i q,.i w,.i u,.b o]]=dSt [⟨⟨a,b,c,r,q⟩,w,u,o⟩]:=by unfold dSt;rfl
@[simp] theorem sl_outc{a b c:List Int}{r q:Int}{o:Bool}:D.sl 6 [[dI a,dI b,dI c,.i r,.i q,.b o]]=dOut [⟨⟨a,b,c,r,q⟩,o⟩]:=by unfold dOut;rfl
@[simp] theorem sl_pos{a b c:List Int}{r q:Int}:D.sl 5 [[dI a,dI b,dI c,.i r,.i q]]=dPs [⟨a,b,c,r,q⟩]:=by unfold dPs;rfl
end Go.AL
namespace Go.Proofs.YtnaefnajkaohgaaGreatDoor
open Go Go.AL Classical
set_option maxRecDepth 10000
set_option maxHeartbeats 1000000
theorem f155o(p:Pos)(hp:Small p):Wf T 155 [dP p] [] (fun d H=>d = .agg [.osl 0 1 1 0 p.cs.length,.osl 1 1 1 0 p.h0.length,.osl 2 1 1 0 p.h1.length,.i p.rights,.i p.side]∧H = [.row 3 1 (cl f1 p.cs),.row 3 1 (cl f1 p.h0),.row 3 1 (cl f1 p.h1)]):=by
 obtain⟨h1,h2,h3⟩:=hp
 refine Wf.xo 2 (fn:=F155) rfl (by simp[F155]) ?_
 simp[F155]
 (with_reducible repeat' first|(first|refine Xy ?_|refine Xz ?_|refine Xu ?_|refine Xv ?_)<;>try simp|(first|refine Xa (fun h h'=>?_) (fun h=>?_)|(first|refine Xd ?_ ?_|refine Xo ?_ ?_|refine Xb ?_ ?_)<;>intro h)<;>(try simp[h])<;>(try (exfalso;omega))|refine Xg ?_|omega)
 all_goals trace_state
theorem f250(a b:Sta)(ha:Small a.p)(hb:Small b.p):Wf T 250 [.agg a.cells,.agg b.cells] [] (Is (.b (decide (a=b)))):=by
 have e:(a=b)↔a.p=b.p∧a.kind=b.kind∧a.cur=b.cur∧a.took=b.took:=by cases a;cases b;simp
 have e2:decide (a=b)=decide (a.p=b.p∧a.kind=b.kind∧a.cur=b.cur∧a.took=b.took):=decide_eq_decide.2 e
 rw[e2]
 refine Wf.x (fn:=F250) rfl (by simp[F250]) ?_
 simp[F250]
 (with_reducible repeat' first|(first|refine Xy ?_|refine Xz ?_|refine Xu ?_|refine Xv ?_)<;>try simp|(first|refine Xa (fun h h'=>?_) (fun h=>?_)|(first|refine Xd ?_ ?_|refine Xo ?_ ?_|refine Xb ?_ ?_)<;>intro h)<;>(try simp[h])<;>(try (exfalso;omega))|refine Xg ?_|omega)
 ·refine XCall.c rfl rfl (f50 _ _ ha hb) (by simp) (by simp) ?_
  simp
  simp_all [cmpP_zero]
 all_goals (intros;simp_all)
theorem f252(s:Sta)(b:Bool):Wf T 252 [.agg s.cells,.b b] [] (Is (dSt (if b then [s]else []))):=by
 refine Wf.x (fn:=F252) rfl (by simp[F252]) ?_
 simp[F252]
 (with_reducible repeat' first|(first|refine Xy ?_|refine Xz ?_|refine Xu ?_|refine Xv ?_)<;>try simp|(first|refine Xa (fun h h'=>?_) (fun h=>?_)|(first|refine Xd ?_ ?_|refine Xo ?_ ?_|refine Xb ?_ ?_)<;>intro h)<;>(try simp[h])<;>(try (exfalso;omega))|refine Xg ?_|omega)
def lessO(a b:Outc):Prop:=cmpP a.p b.p<0∨(cmpP a.p b.p=0∧a.took=false∧b.took=true)
theorem f229(a b:Outc)(ha:Small a.p)(hb:Small b.p):Wf T 229 [.agg a.cells,.agg b.cells] [] (Is (.b (decide (lessO a b)))):=by
 refine Wf.x (fn:=F229) rfl (by simp[F229]) ?_
 simp[F229]
 refine XCall.c rfl rfl (f50 _ _ ha hb) (by simp) (by simp) ?_
 simp
 (with_reducible repeat' first|(first|refine Xy ?_|refine Xz ?_|refine Xu ?_|refine Xv ?_)<;>try simp|(first|refine Xa (fun h h'=>?_) (fun h=>?_)|(first|refine Xd ?_ ?_|refine Xo ?_ ?_|refine Xb ?_ ?_)<;>intro h)<;>(try simp[h])<;>(try (exfalso;omega))|refine Xg ?_|omega)
 all_goals by_cases hc:cmpP a.p b.p<0<;>simp[*,lessO]at *
theorem f263(g:Game)(hg:BoardOK g)(s d c:Int):Wf T 263 [g.board,.i s,.i d,.i c] [] (Is (dI (lineB g s d c))):=by
 have hb:=hg.size
 refine Wf.x (fn:=F263) rfl (by simp[F263]) ?_
 simp[F263]
 refine XCall.c rfl rfl (f251 g hg s d c) (by simp) (by simp) ?_
 simp
 refine XLoop.j ((0,toB g s d c,[]):Nat×Int×List Int) (fun x=>[(1,.i s),(2,.i d),(3,.i c),(4,.ptr 0 0 0),(9,.osl 1 x.2.2.length 1 0 x.2.2.length),(10,.i x.2.1)]) (fun x=>[.row 37 0 [.i g.size,.sl 1 (g.next.map fI),dI g.turn],.row 3 x.2.2.length (cl f1 x.2.2)]) (fun x=>x.1=x.2.2.length∧x.2.1<g.size∧x.2.2.Nodup∧(∀ y∈x.2.2,0≤y∧y<g.size)∧lineB g s d c=lineF g s d c (10-x.1) x.2.1 x.2.2) (fun x=>10-x.1) ?_ (by simp) (by first|rfl|simp) rfl ?_
 ·have:=hg.to s d c
  simp[lineB];omega
 rintro⟨m,x,out⟩ ⟨h0,h1,h2,h3,h4⟩
 dsimp only at h0 h1 h2 h3 h4 ⊢
 have hm:out.length≤9:=nodup_le 9 out h2 (fun y hy=>by have:=h3 y hy;omega)
 have e:=h4
 rw[show 10-m=(9-m)+1 by omega,lineF]at e
 simp
 (with_reducible repeat' first|(first|refine Xy ?_|refine Xz ?_|refine Xu ?_|refine Xv ?_)<;>try simp|(first|refine Xa (fun h h'=>?_) (fun h=>?_)|(first|refine Xd ?_ ?_|refine Xo ?_ ?_|refine Xb ?_ ?_)<;>intro h)<;>(try simp[h])<;>(try (exfalso;omega))|refine Xg ?_|omega)
 ·rw[e,if_neg (by omega)]
 ·refine XCall.r rfl rfl (f25 out x (by omega)) (by simp) rfl (by simp) ?_
  simp
  (with_reducible repeat' first|(first|refine Xy ?_|refine Xz ?_|refine Xu ?_|refine Xv ?_)<;>try simp|(first|refine Xa (fun h h'=>?_) (fun h=>?_)|(first|refine Xd ?_ ?_|refine Xo ?_ ?_|refine Xb ?_ ?_)<;>intro h)<;>(try simp[h])<;>(try (exfalso;omega))|refine Xg ?_|omega)
  ·rw[e,if_neg (by rintro⟨_,_,hh⟩;exact hh ‹_›)]
  ·refine XCall.c rfl rfl (f251 g hg s d x) (by simp) (by simp) ?_
   simp
   refine⟨out.length+1,_,out ++ [x],by simp,rfl,by simp,rfl,by omega,by simp,(hg.to _ _ _).2,?_,?_,?_⟩
   ·rw[List.nodup_append]
    refine⟨h2,by simp,fun y hy z hz=>?_⟩
    simp at hz
    subst hz
    intro e3
    subst e3
    exact absurd hy ‹_›
   ·intro y hy
    simp at hy
    rcases hy with hy|rfl
    ·exact h3 y hy
    ·omega
   ·rw[e,if_pos ⟨by omega,by omega,by assumption⟩,h0,show 9-out.length=10-(out.length+1)by omega]
 ·rw[e,if_neg (by omega)]
set_option maxRecDepth 10000
set_option maxHeartbeats 1000000
theorem f253(g:Game)(hg:GameOK g)(s:Sta)(hs:StaOK g s)(n:Int):Wf T 253 [dG g,.agg s.cells,.i n] [] (Is (dSt (lineSt s (lineB g s.p.side n s.cur)))):=by
 have hl:=lineB_len (g:=g) (s:=s.p.side) (d:=n) (c:=s.cur)
 have hsz:=hs.p.size
 refine Wf.x (fn:=F253) rfl (by simp[F253]) ?_
 simp[F253]
 refine XCall.c rfl rfl (f263 g hg.board s.p.side n s.cur) (by simp) (by simp) ?_
 simp
 generalize hL:lineB g s.p.side n s.cur=L at *
 have hin:∀ y∈L,0≤y∧y<g.size:=fun y hy=>lineB_in hg.board (hL▸hy)
 refine XLoop.j ((0,[]):Int×List Sta) (fun x=>[(4,.ptr 1 0 0),(7,.osl 2 x.2.length 8 0 x.2.length),(8,dI L),(9,.i x.1)]) (fun x=>[.row 41 0 g.cells,.row 282 0 s.cells,.row 282 x.2.length (cl Sta.cells x.2)]) (fun x=>0≤x.1∧x.1≤L.length∧x.2.length=x.1.toNat∧lineSt s L=x.2++lineSt s (L.drop x.1.toNat)) (fun x=>L.length-x.1.toNat) ?_ (by simp) (by first|rfl|simp) rfl ?_
 ·simp
 rintro⟨i,out⟩ ⟨h0,h1,h2,h3⟩
 dsimp only at h0 h1 h2 h3 ⊢
 simp
 (with_reducible repeat' first|(first|refine Xy ?_|refine Xz ?_|refine Xu ?_|refine Xv ?_)<;>try simp|(first|refine Xa (fun h h'=>?_) (fun h=>?_)|(first|refine Xd ?_ ?_|refine Xo ?_ ?_|refine Xb ?_ ?_)<;>intro h)<;>(try simp[h])<;>(try (exfalso;omega))|refine Xg ?_|omega)
 ·have hc:=hin _ (gt_mem h0 ‹_›)
  rw[drop_gt h0 ‹_›,lineSt]at h3
  (with_reducible repeat' first|(first|refine Xy ?_|refine Xz ?_|refine Xu ?_|refine Xv ?_)<;>try simp|(first|refine Xa (fun h h'=>?_) (fun h=>?_)|(first|refine Xd ?_ ?_|refine Xo ?_ ?_|refine Xb ?_ ?_)<;>intro h)<;>(try simp[h])<;>(try (exfalso;omega))|refine Xg ?_|omega)
  ·refine⟨i+1,out ++ [{ s with cur:=gt L i }],by simp,rfl,by simp,by rw[← cl_snoc],by omega,by omega,by omega,by simp[h2];omega,?_⟩
   rw[h3,if_pos ‹_›,show(i+1).toNat=i.toNat+1 by omega];simp
  ·rw[if_neg ‹_›]at h3
   rw[h3]
   simp[dSt]
 ·rw[List.drop_of_length_le (by omega)]at h3
  rw[h3];simp[lineSt]
theorem manS_other{n s:Int}(_:0≤n)(hk:0≤manK n)(h:manS n≠s)(hs:0≤s∧s≤1):manS n=1-s:=by
 unfold manK manS at *
 split at hk
 ·rename_i e;rw[if_pos e]at h ⊢;omega
 ·omega
theorem f254(g:Game)(hg:GameOK g)(s:Sta)(hs:StaOK g s):Wf T 254 [dG g,.agg s.cells] [] (Is (dSt (takeS g s))):=by
 have hsz:=hs.p.size
 have hcur:=hs.cur
 have hsm:=hs.p.small hg
 refine Wf.x (fn:=F254) rfl (by simp[F254]) ?_
 simp[F254]
 (with_reducible repeat' first|(first|refine Xy ?_|refine Xz ?_|refine Xu ?_|refine Xv ?_)<;>try simp|(first|refine Xa (fun h h'=>?_) (fun h=>?_)|(first|refine Xd ?_ ?_|refine Xo ?_ ?_|refine Xb ?_ ?_)<;>intro h)<;>(try simp[h])<;>(try (exfalso;omega))|refine Xg ?_|omega)
 refine XCall.c rfl rfl (f51 _) (by simp) (by simp) ?_
 simp
 have hcs:=hs.p.cs _ (gt_mem hcur.1 (by omega))
 have hk1:=hg.kinds
 have hsd:=hs.p.side
 (with_reducible repeat' first|(first|refine Xy ?_|refine Xz ?_|refine Xu ?_|refine Xv ?_)<;>try simp|(first|refine Xa (fun h h'=>?_) (fun h=>?_)|(first|refine Xd ?_ ?_|refine Xo ?_ ?_|refine Xb ?_ ?_)<;>intro h)<;>(try simp[h])<;>(try (exfalso;omega))|refine Xg ?_|omega)
 ·rw[takeS,if_pos]
  unfold manK at *;unfold manS
  split at h<;>rename_i h5
  ·omega
  ·rw[if_neg h5];omega
 ·rw[takeS,if_pos (by omega)]
 ·have hm:manK (gt s.p.cs s.cur)<g.kinds.length:=manK_le hcs.2 hk1.1
  have hs01:s.p.side=0∨s.p.side=1:=by omega
  have l0:=hs.p.h0.len
  have l1:=hs.p.h1.len
  have q0:=pt_len (l:=s.p.cs) (n:=s.cur) (v:=0) hcur.1 (by omega)
  refine XCall.n rfl rfl (f155o s.p hsm) (by simp) (by simp) ?_
  simp
  (with_reducible repeat' first|(first|refine Xy ?_|refine Xz ?_|refine Xu ?_|refine Xv ?_)<;>try simp[q0]|(first|refine Xa (fun h h'=>?_) (fun h=>?_)|(first|refine Xd ?_ ?_|refine Xo ?_ ?_|refine Xb ?_ ?_)<;>intro h)<;>(try simp[h,q0])<;>(try (exfalso;omega))|refine Xg ?_|omega)
  ·have hx:manS (gt s.p.cs s.cur)=1-s.p.side:=manS_other hcs.1 (by omega) (by assumption) hsd
   have hkp:=h
   rcases hs01 with e|e
   ·have ha:=hs.p.h0.at_ _ (by omega) (show manK (gt s.p.cs s.cur)<s.p.h0.length by omega)
    have q1:=gt_pt_eq (l:=s.p.h0) (n:=manK (gt s.p.cs s.cur)) (v:=gt s.p.h0 (manK (gt s.p.cs s.cur))+1) (by omega) (by omega)
    have q2:=pt_len (l:=s.p.h0) (n:=manK (gt s.p.cs s.cur)) (v:=gt s.p.h0 (manK (gt s.p.cs s.cur))+1) (by omega) (by omega)
    simp[e,q1,q2]
    (with_reducible repeat' first|(first|refine Xy ?_|refine Xz ?_|refine Xu ?_|refine Xv ?_)<;>try simp|(first|refine Xa (fun h h'=>?_) (fun h=>?_)|(first|refine Xd ?_ ?_|refine Xo ?_ ?_|refine Xb ?_ ?_)<;>intro h)<;>(try simp[h])<;>(try (exfalso;omega))|refine Xg ?_|omega)
    all_goals simp[takeS,hx,hkp,Pos.hand,Pos.putHand,e,q0,q2]
    ·rw[if_neg (by omega)]
    ·rw[if_pos (by omega)]
   ·have ha:=hs.p.h1.at_ _ (by omega) (show manK (gt s.p.cs s.cur)<s.p.h1.length by omega)
    have q1:=gt_pt_eq (l:=s.p.h1) (n:=manK (gt s.p.cs s.cur)) (v:=gt s.p.h1 (manK (gt s.p.cs s.cur))+1) (by omega) (by omega)
    have q2:=pt_len (l:=s.p.h1) (n:=manK (gt s.p.cs s.cur)) (v:=gt s.p.h1 (manK (gt s.p.cs s.cur))+1) (by omega) (by omega)
    simp[e,q1,q2]
    (with_reducible repeat' first|(first|refine Xy ?_|refine Xz ?_|refine Xu ?_|refine Xv ?_)<;>try simp|(first|refine Xa (fun h h'=>?_) (fun h=>?_)|(first|refine Xd ?_ ?_|refine Xo ?_ ?_|refine Xb ?_ ?_)<;>intro h)<;>(try simp[h])<;>(try (exfalso;omega))|refine Xg ?_|omega)
    all_goals simp[takeS,hx,hkp,Pos.hand,Pos.putHand,e,q0,q2]
    ·rw[if_neg (by omega)]
    ·rw[if_pos (by omega)]
  ·have hx:manS (gt s.p.cs s.cur)=1-s.p.side:=manS_other hcs.1 (by omega) (by assumption) hsd
   simp[takeS,hx,h,q0]
theorem f255(g:Game)(hg:GameOK g)(s:Sta)(hs:StaOK g s)(n:Int):Wf T 255 [dG g,.agg s.cells,.i n] [] (Is (dSt (pushS g s n))):=by
 have hsz:=hs.p.size
 have hcur:=hs.cur
 have hsm:=hs.p.small hg
 have ht:=hg.board.to s.p.side n s.cur
 refine Wf.x (fn:=F255) rfl (by simp[F255]) ?_
 simp[F255]
 refine XCall.c rfl rfl (f251 g hg.board s.p.side n s.cur) (by simp) (by simp) ?_
 simp
 (with_reducible repeat' first|(first|refine Xy ?_|refine Xz ?_|refine Xu ?_|refine Xv ?_)<;>try simp|(first|refine Xa (fun h h'=>?_) (fun h=>?_)|(first|refine Xd ?_ ?_|refine Xo ?_ ?_|refine Xb ?_ ?_)<;>intro h)<;>(try simp[h])<;>(try (exfalso;omega))|refine Xg ?_|omega)
 ·rw[pushS,if_pos (by simp_all)]
 ·rw[pushS,if_pos (by simp_all)]
 ·have q0:=pt_len (l:=s.p.cs) (n:=toB g s.p.side n s.cur) (v:=gt s.p.cs s.cur) (by omega) (by omega)
  have q1:=pt_len (l:=pt s.p.cs (toB g s.p.side n s.cur) (gt s.p.cs s.cur)) (n:=s.cur) (v:=0) hcur.1 (by omega)
  refine XCall.n rfl rfl (f155o s.p hsm) (by simp) (by simp) ?_
  simp
  (with_reducible repeat' first|(first|refine Xy ?_|refine Xz ?_|refine Xu ?_|refine Xv ?_)<;>try simp[q0,q1]|(first|refine Xa (fun h h'=>?_) (fun h=>?_)|(first|refine Xd ?_ ?_|refine Xo ?_ ?_|refine Xb ?_ ?_)<;>intro h)<;>(try simp[h,q0,q1])<;>(try (exfalso;omega))|refine Xg ?_|omega)
  simp[pushS, *]
 ·rw[pushS,if_pos (by simp_all)]
end Go.Proofs.YtnaefnajkaohgaaGreatDoor
