/- Part 31 of the proof of skewer.skewerlaw15.TableRefuses. -/
import Derived.Test.YtnaefnajkaohgaaGreatDoorA30
set_option linter.all false
namespace Go.Proofs.YtnaefnajkaohgaaGreatDoor
open Go Go.AL Classical
set_option maxRecDepth 10000
set_option maxHeartbeats 4000000
theorem f259(g:Game)(s d c:Int):Wf T 259 [g.board,.i s,.i d,.i c] [] (Is (.fn (.func 265) [] [.fptr [.i g.size,.sl 1 (g.next.map fI),dI g.turn],.fptr [.i s],.fptr [.i d],.fptr [.i c]])):=by
 refine Wf.x (fn:=F259) rfl (by simp[F259]) ?_
 simp[F259]
theorem f266(l:List Int)(n:Int)(hl:l.length<2 ^ 40):Wf T 266 [dI l,.i n] [] (Ey (fun r:Int=>.i r) fun r=>0≤r↔n∈l):=by
 refine Wf.x (fn:=F266) rfl (by simp[F266]) ?_
 simp[F266]
 refine XLoop.e (0:Int) (fun y=>[(0,dI l),(1,.i n),(7,.i l.length),(8,.i y)]) (fun y=>[]) (fun y=>0≤y∧y≤l.length∧n ∉ l.take y.toNat) (fun y=>(l.length-y).toNat) ?_ ?_
 ·simp
 rintro i ⟨i0,i1,i2⟩
 by_cases hi:i<l.length
 ·simp[hi]
  (with_reducible repeat' first|(first|refine Xy ?_|refine Xz ?_|refine Xu ?_|refine Xv ?_)<;>try simp|(first|refine Xa (fun h h'=>?_) (fun h=>?_)|(first|refine Xd ?_ ?_|refine Xo ?_ ?_|refine Xb ?_ ?_)<;>intro h)<;>(try simp[h])<;>(try (exfalso;omega))|refine Xg ?_|omega)
  ·exact Ey.i i rfl rfl ⟨fun _=>by have:=gt_mem i0 hi;simp_all,fun _=>i0⟩
  ·refine LJ.e (i+1) ?_
   refine⟨by omega,by omega,by omega,?_⟩
   rw[take_gt i0 hi]
   simp[i2]
   omega
 ·simp[hi]
  rw[take_all (by omega)]at i2
  exact Ey.i (-1) rfl rfl ⟨fun h=>by omega,fun h=>absurd h i2⟩
theorem f260(l:List Int)(n:Int)(hl:l.length<2 ^ 40):Wf T 260 [dI l,.i n] [] (Is (.b (decide (n∈l)))):=by
 refine Wf.x (fn:=F260) rfl (by simp[F260]) ?_
 simp[F260]
 refine XCall.q rfl rfl (f266 l n hl) (by simp) (fun _=>by simp) ?_
 intro r hr
 simp
 simp[hr]
theorem f266e(n:Int):Wf T 266 [.emp,.i n] [] (Is (.i (-1))):=by
 refine Wf.x (fn:=F266) rfl (by simp[F266]) ?_
 simp[F266]
 refine XLoop.un ?_
 refine XLoopN.u ?_
 simp
theorem f260e(n:Int):Wf T 260 [.emp,.i n] [] (Is (.b false)):=by
 refine Wf.x (fn:=F260) rfl (by simp[F260]) ?_
 simp[F260]
 refine XCall.c rfl rfl (f266e n) (by simp) (by simp) ?_
 simp
theorem f265(g:Game)(hg:BoardOK g)(s d c:Int):Wf T 265 [.yld 4,.fptr [.i g.size,.sl 1 (g.next.map fI),dI g.turn],.fptr [.i s],.fptr [.i d],.fptr [.i c]]
  [.row 37 0 [.i g.size,.sl 1 (g.next.map fI),dI g.turn],.row 3 0 [.i c],.row 33 0 [.emp],.dfr,.rcd 15488 [(7,.ptr 1 0 0),(9,.ptr 2 0 0)] .ready]
  (fun _ H'=>∃ st,(st = .ready∨st = .doneExit 0)∧H' = [.row 37 0 [.i g.size,.sl 1 (g.next.map fI),dI g.turn],.row 3 0 [.i c],.row 33 0 [if lineB g s d c = []then .emp else .osl 5 ((lineB g s d c).length-1) 1 0 (lineB g s d c).length],.dfr,.rcd 15488 [(7,.ptr 1 0 0),(9,.ptr 2 0 0)] st]++(if lineB g s d c = []then []else [.row 3 ((lineB g s d c).length-1) (cl f1 (lineB g s d c))])):=by
 have hb:=hg.size
 refine Wf.x (fn:=F265) rfl (by simp[F265]) ?_
 simp[F265]
 refine XCall.r rfl rfl (f240 g hg s d c) (by simp) (by simp[flat]) (by simp) ?_
 simp
 refine XLoop.e ((0,toB g s d c,[]):Nat×Int×List Int) (fun x=>[(0,.yld 4),(1,.fptr [.i g.size,.sl 1 (g.next.map fI),dI g.turn]),(2,.fptr [.i s]),(3,.fptr [.i d]),(6,.i x.2.1)]) (fun x=>[.row 37 0 [.i g.size,.sl 1 (g.next.map fI),dI g.turn],.row 3 0 [.i c],.row 33 0 [if x.2.2 = []then .emp else .osl 5 (x.2.2.length-1) 1 0 x.2.2.length],.dfr,.rcd 15488 [(7,.ptr 1 0 0),(9,.ptr 2 0 0)] .ready]++(if x.2.2 = []then []else [.row 3 (x.2.2.length-1) (cl f1 x.2.2)])) (fun x=>x.1=x.2.2.length∧x.2.1<g.size∧x.2.2.Nodup∧(∀ y∈x.2.2,0≤y∧y<g.size)∧lineB g s d c=lineF g s d c (10-x.1) x.2.1 x.2.2) (fun x=>10-x.1) ?_ ?_
 ·have:=hg.to s d c
  simp[lineB];omega
 rintro⟨m,x,out⟩ ⟨h0,h1,h2,h3,h4⟩
 dsimp only at h0 h1 h2 h3 h4 ⊢
 have hm:out.length≤9:=nodup_le 9 out h2 (fun y hy=>by have:=h3 y hy;omega)
 have e:=h4
 rw[show 10-m=(9-m)+1 by omega,lineF]at e
 have kx:=hg.to s d x
 by_cases ho:out = []
 ·subst ho
  by_cases hx:0≤x
  ·simp[hx]
   refine XYield.r (rf:=15488) (env0:=[(7,.ptr 1 0 0),(9,.ptr 2 0 0)]) (Rd:=R15488) (by simp) rfl rfl R15488.a R15488.b (unfz_no rfl) (unfz_no rfl) ?_
   simp[R15488]
   by_cases hc:x=c
   ·have e3:lineB g s d c = []:=by rw[e,if_neg (fun h=>h.2.1 hc)]
    simp[hc,e3]
   ·have e2:lineB g s d c=lineF g s d c (9-m) (toB g s d x) [x]:=by rw[e,if_pos ⟨hx,hc,by simp⟩];rfl
    simp[hc]
    refine XCall.c rfl rfl (f260e x) (by simp) (by simp) ?_
    simp
    (with_reducible repeat' first|(first|refine Xy ?_|refine Xz ?_|refine Xu ?_|refine Xv ?_)<;>try simp|(first|refine Xa (fun h h'=>?_) (fun h=>?_)|(first|refine Xd ?_ ?_|refine Xo ?_ ?_|refine Xb ?_ ?_)<;>intro h)<;>(try simp[h])<;>(try (exfalso;omega))|refine Xg ?_|omega)
    refine XCall.r rfl rfl (f240 g hg s d x) (by simp) (by simp[flat]) (by simp) ?_
    simp
    refine LJ.i (m+1,toB g s d x,[x]) (by first|rfl|simp[cl_one]) (by first|rfl|simp[cl_one]) rfl rfl ?_
    dsimp only
    refine⟨by simp at h0;omega,by simp at h0;simp;omega,kx.2,by simp,by simp;omega,?_⟩
    rw[e2];congr 1;omega
  ·have e3:lineB g s d c = []:=by rw[e,if_neg (fun h=>hx h.1)]
   simp[hx,e3]
 ·simp only[if_neg ho,List.cons_append,List.nil_append]
  by_cases hx:0≤x
  ·simp[hx]
   refine XYield.r (rf:=15488) (env0:=[(7,.ptr 1 0 0),(9,.ptr 2 0 0)]) (Rd:=R15488) (by simp) rfl rfl R15488.a R15488.b (unfz_no rfl) (unfz_no rfl) ?_
   simp[R15488]
   by_cases hc:x=c
   ·have e3:lineB g s d c=out:=by rw[e,if_neg (fun h=>h.2.1 hc)]
    simp[hc,e3,ho]
   ·simp[hc]
    refine XCall.r rfl rfl (f260 out x (by omega)) (by simp) (by simp[flat]) (by simp) ?_
    simp
    refine X2.z hc ?_
    simp
    by_cases hin:x∈out
    ·have e3:lineB g s d c=out:=by rw[e,if_neg (fun h=>h.2.2 hin)]
     simp[hin,e3,ho]
    ·have e2:lineB g s d c=lineF g s d c (9-m) (toB g s d x) (out ++ [x]):=by rw[e,if_pos ⟨hx,hc,hin⟩]
     have hl:0<out.length:=List.length_pos_iff.2 ho
     simp[hin]
     (with_reducible repeat' first|(first|refine Xy ?_|refine Xz ?_|refine Xu ?_|refine Xv ?_)<;>try simp|(first|refine Xa (fun h h'=>?_) (fun h=>?_)|(first|refine Xd ?_ ?_|refine Xo ?_ ?_|refine Xb ?_ ?_)<;>intro h)<;>(try simp[h])<;>(try (exfalso;omega))|refine Xg ?_|omega)
     refine XCall.r rfl rfl (f240 g hg s d x) (by simp) (by simp[flat]) (by simp) ?_
     simp
     refine LJ.i (m+1,toB g s d x,out ++ [x]) (by first|rfl|simp[show out.length-1+1=out.length by omega]) (by first|rfl|simp[show out.length-1+1=out.length by omega]) rfl rfl ?_
     dsimp only
     refine⟨by omega,by simp;omega,kx.2,?_,fun y hy=>?_,?_⟩
     ·rw[List.nodup_append];exact⟨h2,by simp,fun a ha b hb=>by rw[List.mem_singleton.1 hb];rintro rfl;exact hin ha⟩
     ·rcases List.mem_append.1 hy with hy|hy
      ·exact h3 y hy
      ·rw[List.mem_singleton.1 hy];omega
     ·rw[e2];congr 1;omega
  ·have e3:lineB g s d c=out:=by rw[e,if_neg (fun h=>hx h.1)]
   simp[hx,e3,ho]
theorem f242(g:Game)(hg:BoardOK g)(s d c:Int):Wf T 242 [g.board,.i s,.i d,.i c] [] (Is (dN 1 f1 (lineB g s d c))):=by
 refine Wf.x (fn:=F242) rfl (by simp[F242]) ?_
 simp[F242]
 refine XCall.c rfl rfl (f259 g s d c) (by simp) (by simp) ?_
 simp
 refine XRange.r (f:=265) (first:=[]) (cap:=[.fptr [.i g.size,.sl 1 (g.next.map fI),dI g.turn],.fptr [.i s],.fptr [.i d],.fptr [.i c]]) rfl rfl rfl rfl ?_
 simp
 refine Wf.mono (f265 g hg s d c) ?_
 rintro _ H' ⟨st,hst,rfl⟩
 refine⟨[(7,.ptr 1 0 0),(9,.ptr 2 0 0)],st,by simp,?_⟩
 by_cases h:lineB g s d c = []
 ·rcases hst with rfl|rfl
  ·simp[h]
   rfl
  ·simp[h]
   rfl
 ·have e:dI (lineB g s d c)=dN 1 f1 (lineB g s d c):=by
   revert h
   cases lineB g s d c with
   | nil=>intro h;exact absurd rfl h
   | cons a r=>intro _;rfl
  rcases hst with rfl|rfl
  ·simp[h,e]
  ·simp[h,e]
@[simp] theorem closed_dN1(l:List Int):closed (dN 1 f1 l)=true:=closed_dN (fun a=>by simp[closedL]) l
theorem dSt_dSn{l:List Sta}(h:l≠[]):dSt l=dSn l:=by
 cases l with
 | nil=>exact absurd rfl h
 | cons a r=>rfl
theorem f200(g:Game)(hg:GameOK g)(s:Sta)(hs:StaOK g s)(n:Int):Wf T 200 [.agg s.cells,dG g,.i n] [] (Is (dSn (stepL g s (2,n)))):=by
 have hsz:=hs.p.size
 have hbs:=hg.board.size
 have e:stepL g s (2,n)=lineSt s (lineB g s.p.side n s.cur):=by simp[stepL]
 have hin:∀ y∈lineB g s.p.side n s.cur,0≤y∧y<g.size:=fun y hy=>lineB_in hg.board hy
 have hlen:(lineB g s.p.side n s.cur).length≤10:=lineB_len
 rw[e]
 refine Wf.x (fn:=F200) rfl (by simp[F200]) ?_
 simp[F200,Sta.cells]
 refine XCall.c rfl rfl (f242 g hg.board s.p.side n s.cur) (by simp) (by simp) ?_
 simp
 generalize lineB g s.p.side n s.cur=l at *
 refine XLoop.e ((0,[]):Int×List Sta) (fun y=>[(3,.ptr 0 0 0),(7,if y.1=0 then .emp else .osl 2 (y.2.length-1) 8 0 y.2.length),(19,dN 1 f1 l),(20,.i l.length),(21,.i y.1)]) (fun y=>.row 171 0 s.cells :: .row 41 0 g.cells::(if y.1=0 then []else [.row 171 (y.2.length-1) (cl Sta.cells y.2)])) (fun y=>0≤y.1∧y.1≤l.length∧y.2.length=y.1.toNat∧lineSt s l=y.2++lineSt s (l.drop y.1.toNat)) (fun y=>(l.length-y.1).toNat) ?_ ?_
 ·simp
 rintro⟨i,st⟩ ⟨i0,i1,i2,i3⟩
 dsimp only at i0 i1 i2 i3 ⊢
 by_cases hi:i<l.length
 ·have hc:=hin _ (gt_mem i0 hi)
  rw[drop_gt i0 hi,lineSt]at i3
  by_cases hz:i=0
  ·have:st = []:=List.length_eq_zero_iff.1 (by omega)
   subst hz;subst this
   simp[hi,Sta.cells]
   (with_reducible repeat' first|(first|refine Xy ?_|refine Xz ?_|refine Xu ?_|refine Xv ?_)<;>try simp|(first|refine Xa (fun h h'=>?_) (fun h=>?_)|(first|refine Xd ?_ ?_|refine Xo ?_ ?_|refine Xb ?_ ?_)<;>intro h)<;>(try simp[h])<;>(try (exfalso;omega))|refine Xg ?_|omega)
   ·refine LJ.i (1,[{ s with cur:=gt l 0 }]) (by first|rfl|simp[cl_one,Sta.cells]) (by first|rfl|simp[cl_one,Sta.cells]) rfl rfl ?_
    refine⟨by dsimp only;omega,by dsimp only;omega,by dsimp only;omega,rfl,?_⟩
    rw[i3,if_pos h];rfl
   ·rw[i3,if_neg h];rfl
  ·have hl:0<st.length:=by omega
   rw[if_neg hz,if_neg hz]
   simp[hi,Sta.cells]
   (with_reducible repeat' first|(first|refine Xy ?_|refine Xz ?_|refine Xu ?_|refine Xv ?_)<;>try simp|(first|refine Xa (fun h h'=>?_) (fun h=>?_)|(first|refine Xd ?_ ?_|refine Xo ?_ ?_|refine Xb ?_ ?_)<;>intro h)<;>(try simp[h])<;>(try (exfalso;omega))|refine Xg ?_|omega)
   ·refine LJ.i (i+1,st ++ [{ s with cur:=gt l i }]) (by first|rfl|simp[show ¬ (i+1=0)by omega,show st.length-1+1=st.length by omega,Sta.cells]) (by first|rfl|simp[show ¬ (i+1=0)by omega,show st.length-1+1=st.length by omega,Sta.cells]) rfl rfl ?_
    refine⟨by dsimp only;omega,by dsimp only;omega,by dsimp only;omega,by simp;omega,?_⟩
    rw[i3,if_pos h,show(i+1).toNat=i.toNat+1 by omega];simp
   ·rw[i3,if_neg h,← dSt_dSn (by simp)]
    simp[dSt,Sta.cells]
 ·rw[List.drop_eq_nil_of_le (by omega),lineSt,List.append_nil]at i3
  by_cases hz:i=0
  ·have:st = []:=List.length_eq_zero_iff.1 (by omega)
   subst hz;subst this
   simp[show ¬ 0<l.length by omega,Sta.cells]
   rw[i3];rfl
  ·rw[if_neg hz,if_neg hz]
   simp[hi,Sta.cells]
   rw[i3,dSt_dSn (by intro h;rw[h]at i2;simp at i2;omega)]
end Go.Proofs.YtnaefnajkaohgaaGreatDoor
