/- 13 -/
import Derived.Test.YtnaefnajkaohgaaGreatDoorH12
set_option linter.all false
namespace Go.Proofs.YtnaefnajkaohgaaGreatDoor
open Go Go.AL Classical
set_option maxRecDepth 10000
set_option maxHeartbeats 1000000
def kJ(side kind c:Int):Prop:=0≤fm c∧iU c=side∧(kind<0∨fm c=kind)
def Mk(p:Pos)(side kind:Int):pZ p side kind=(p.cs.countP fun c=>decide (kJ side kind c):Nat):=by
 unfold pZ kJ
 congr 1
 refine List.countP_congr fun c _=>?_
 simp
def f193(p:Pos)(hp:Small p)(side kind:Int):Wf T 193 [dP p,.i side,.i kind] [] (Is (.i (pZ p side kind))):=by
 have hs:=hp.1
 rw[Mk]
 refine Yg EP ?_
 simp[EP]
 refine eN.e ((0,0):Int×Int) (fun y=>[(1,.i side),(2,.i kind),(3,.ptr 0 0 0),(7,.i y.2),(8,.i y.1)]) (fun y=>[.row 44 0 p.cells]) (fun y=>0≤y.1∧y.1≤p.cs.length∧y.2=((p.cs.take y.1.toNat).countP fun c=>decide (kJ side kind c):Nat)) (fun y=>p.cs.length-y.1.toNat) ?_ ?_
 ·simp
 rintro⟨i,n⟩ ⟨h0,h1,h2⟩
 dsimp only at h0 h1 h2 ⊢
 have h3:n≤i:=by
  have:=cW (p:=fun c=>decide (kJ side kind c)) (l:=p.cs.take i.toNat)
  rw[aT]at this
  omega
 simp
 (with_reducible repeat' first|refine Xk ?_<;>try simp|refine Xs ?_ ?_<;>intro h<;>(try intro h')<;>(try simp[h])<;>try omega|refine Xg ?_|omega)
 ·refine Yc (f51 _) ?_
  simp
  have e:((p.cs.take (i+1).toNat).countP fun c=>decide (kJ side kind c))=((p.cs.take i.toNat).countP fun c=>decide (kJ side kind c))+(if kJ side kind (gt p.cs i)then 1 else 0):=by
   rw[gx h0 ‹_›,cy]
   simp[cu]
  (with_reducible repeat' first|refine Xk ?_<;>try simp|refine Xs ?_ ?_<;>intro h<;>(try intro h')<;>(try simp[h])<;>try omega|refine Xg ?_|omega)
  ·refine LJ.e (i+1,n+1) ?_
   refine eY ?_
   dsimp only
   rw[e,if_pos ⟨by assumption,by assumption,by omega⟩,h2];rfl
  ·refine LJ.e (i+1,n+1) ?_
   refine eY ?_
   dsimp only
   rw[e,if_pos ⟨by assumption,by assumption,by omega⟩,h2];rfl
  ·refine LJ.e (i+1,n) ?_
   refine eY ?_
   dsimp only
   rw[e,if_neg (by simp[kJ, *]),h2];rfl
  ·refine LJ.e (i+1,n) ?_
   refine eY ?_
   dsimp only
   rw[e,if_neg (by simp[kJ, *]),h2];rfl
  ·refine LJ.e (i+1,n) ?_
   refine eY ?_
   dsimp only
   rw[e,if_neg (by simp[kJ, *]),h2];rfl
 ·rw[h2,jh (by omega)]
def f153(g:eH)(hg:fe g)(p:Pos)(hp:fO g p)(c:Clause)(hc:yG g c):Wf T 153 [.agg c.cells,dP p] [] (Is (.b (decide (jN p c)))):=by
 have jB:=hp.small hg
 have ik:=hp.side
 have hz:=hp.size
 have hk:=hg.kinds
 have hb:=hg.iw.size
 have ho:=hc.ok
 refine Yg Er ?_
 simp[Er]
 (with_reducible repeat' first|refine Xk ?_<;>try simp|refine Xs ?_ ?_<;>intro h<;>(try intro h')<;>(try simp[h])<;>try omega|refine Xg ?_|omega)
 ·refine Yc (f193 p jB p.side c.kind) ?_
  simp
  simp[jN,h]
 ·refine Yt (f156 (k:=c.kind) (s:=1-p.side) (by omega) (by omega) (by omega) (by omega)) ?_
  simp
  (with_reducible repeat' first|refine Xk ?_<;>try simp|refine Xs ?_ ?_<;>intro h<;>(try intro h')<;>(try simp[h])<;>try omega|refine Xg ?_|omega)
  simp[jN,kF, *]
 ·refine Yt (f193 p jB p.side (-1)) ?_
  simp
  simp[jN, *]
def O8(l:List Pos)(hl:l.length<2 ^ 40)(hs:∀ p∈l,Small p):Wf T 61 [e7 l] [] (Is (e7 (jy l))):=
 (f61 l hl hs).mono fun _ _ ⟨r,h1,h2,h3,_,h4⟩=>by rw[h1,h2,S2 h3 h4];exact⟨rfl,rfl⟩
def f106(g:eH)(hg:fe g)(p:Pos)(hp:fO g p):Wf T 106 [dG g,dP p] [] (Is (.i (rz g p))):=by
 have hc:=hg.clauses
 refine Yg DQ ?_
 simp[DQ]
 refine eN.e (0:Int) (fun i=>[(2,.ptr 0 0 0),(3,.ptr 1 0 0),(5,.i i)]) (fun i=>[.row 41 0 g.cells,.row 44 0 p.cells]) (fun i=>0≤i∧i≤g.clauses.length∧∀ c∈g.clauses.take i.toNat,¬ jN p c) (fun i=>g.clauses.length-i.toNat) ?_ ?_
 ·simp
 rintro i ⟨h0,h1,h2⟩
 simp
 (with_reducible repeat' first|refine Xk ?_<;>try simp|refine Xs ?_ ?_<;>intro h<;>(try intro h')<;>(try simp[h])<;>try omega|refine Xg ?_|omega)
 ·refine Yt (f153 g hg p hp _ (hg.clause _ (eQ h0 ‹_›))) ?_
  simp
  (with_reducible repeat' first|refine Xk ?_<;>try simp|refine Xs ?_ ?_<;>intro h<;>(try intro h')<;>(try simp[h])<;>try omega|refine Xg ?_|omega)
  ·have he:ended g p:=⟨_,eQ h0 ‹_›,h⟩
   have e:(g.clauses.findIdx fun c=>decide (jN p c))=i.toNat:=by
    rw[List.findIdx_eq (by omega)]
    refine⟨?_,fun j hj=>?_⟩
    ·rw[← mw h0 ‹_›];simpa using h
    ·have:=h2 (g.clauses[j]'(by omega)) (by
      rw[c9]
      exact⟨j,by omega,rfl⟩)
     simpa using this
   unfold rz
   rw[if_pos he,e]
   simp;omega
  ·refine LJ.e (i+1) ?_
   refine eY (fun c hc=>?_)
   rw[gx h0 ‹_›]at hc
   rcases List.mem_append.1 hc with hc|hc
   ·exact h2 c hc
   ·rw[List.mem_singleton]at hc;subst hc;exact h
 ·rw[jh (by omega)]at h2
  rw[OU]
  rintro⟨c,hc,h⟩
  exact h2 c hc h
def f107(g:eH)(hg:fe g)(p:Pos)(hp:fO g p):Wf T 107 [dG g,dP p] [] (Ex mH fun r=>(∀ o,o∈r↔o∈oN g p)∧r.length≤4000000000):=by
 have hz:=hp.size
 have hb:=hg.iw.size
 have ik:=hp.side
 refine Yg DR ?_
 simp[DR]
 refine eN.e ((0,0,[]):Int×Nat×List fD) (fun y=>[(2,.ptr 0 0 0),(3,.ptr 1 0 0),(5,.eF 2 y.2.1 6 0 y.2.2.length),(6,.i y.1)]) (fun y=>[.row 41 0 g.cells,.row 44 0 p.cells,.row 113 y.2.1 (cl fD.cells y.2.2)]) (fun y=>0≤y.1∧y.1≤p.cs.length∧(∀ o,o∈y.2.2↔∃ c:Int,0≤c∧c<y.1∧o∈ox g p c)∧y.2.2.length≤y.1.toNat*400000000) (fun y=>p.cs.length-y.1.toNat) ?_ ?_
 ·simp;intro o c h1 h2;omega
 rintro⟨c,gn,out⟩ ⟨h0,h1,h2,h3⟩
 dsimp only at h0 h1 h2 h3 ⊢
 have rP:∀ ow:List fD,(∀ o,o∈ow↔o∈out∨o∈ox g p c)→∀ o,o∈ow↔∃ c':Int,0≤c'∧c'<c+1∧o∈ox g p c':=fun ow h o=>by
  rw[h,h2]
  constructor
  ·rintro(⟨c',a,b,d⟩|h)
   ·exact⟨c',a,by omega,d⟩
   ·exact⟨c,h0,by omega,h⟩
  ·rintro⟨c',a,b,d⟩
   by_cases e:c'=c
   ·subst e;exact .inr d
   ·exact .inl ⟨c',a,by omega,d⟩
 simp
 (with_reducible repeat' first|refine Xk ?_<;>try simp|refine Xs ?_ ?_<;>intro h<;>(try intro h')<;>(try simp[h])<;>try omega|refine Xg ?_|omega)
 ·refine Yc (f51 _) ?_
  simp
  have im:=hp.cs _ (eQ h0 ‹_›)
  have hk:=hg.kinds
  (with_reducible repeat' first|refine Xk ?_<;>try simp|refine Xs ?_ ?_<;>intro h<;>(try intro h')<;>(try simp[h])<;>try omega|refine Xg ?_|omega)
  ·refine LJ.e (c+1,gn,out) ?_
   have:ox g p c = []:=by
    rw[ox,if_neg]
    have:=Ma (n:=gt p.cs c) (by omega) ik
    exact this.2
   dsimp only
   refine⟨by omega,by omega,by omega,rP out (fun o=>?_),Nat.le_trans h3 (bq _ (by omega))⟩
   rw[this];simp
  ·have hm:=h
   have ky:fm (gt p.cs c)<g.kinds.length:=u0 im.2 hk.1
   have nQ:=hg.gT _ (eQ (l:=g.kinds) (n:=fm (gt p.cs c)) (by omega) ky)
   have KV:∀ i:Int,0≤i→i<(gt g.kinds (fm (gt p.cs c))).gT.length→_:=fun i a b=>f154 g hg p hp c i ⟨h0,by omega⟩ hm ⟨a,b⟩
   generalize hL:(gt g.kinds (fm (gt p.cs c))).gT=L at *
   refine eN.e ((0,gn,out):Int×Nat×List fD) (fun y=>[(2,.ptr 0 0 0),(3,.ptr 1 0 0),(5,.eF 2 y.2.1 6 0 y.2.2.length),(6,.i c),(7,.ptr 3 0 0),(8,.i y.1)]) (fun y=>[.row 41 0 g.cells,.row 44 0 p.cells,.row 113 y.2.1 (cl fD.cells y.2.2),.row 117 0 [.i (fm (gt p.cs c)),.i (iU (gt p.cs c))]]) (fun y=>0≤y.1∧y.1≤L.length∧(∀ o,o∈y.2.2↔o∈out∨∃ j:Int,0≤j∧j<y.1∧o∈rS g p c (gt L j))∧y.2.2.length≤out.length+y.1.toNat*100000000) (fun y=>L.length-y.1.toNat) ?_ ?_
   ·simp;intro o j h1 h2;omega
   rintro⟨i,gm,ow⟩ ⟨i0,i1,i2,i3⟩
   dsimp only at i0 i1 i2 i3 ⊢
   simp[hL]
   (with_reducible repeat' first|refine Xk ?_<;>try simp|refine Xs ?_ ?_<;>intro h<;>(try intro h')<;>(try simp[h])<;>try omega|refine Xg ?_|omega)
   ·refine Yq (KV i i0 ‹_›) fun r hr=>?_
    simp
    (with_reducible repeat' first|refine Xk ?_<;>try simp|refine Xs ?_ ?_<;>intro h<;>(try intro h')<;>(try simp[h])<;>try omega|refine Xg ?_|omega)
    refine LJ.e (i+1,gm+1,ow++r) ?_
    dsimp only
    refine⟨by omega,by omega,by omega,fun o=>?_,by have:=hr.2;simp only[ay];omega⟩
    rw[List.mem_append,i2,hr.1,or_assoc]
    refine or_congr dh ⟨?_,?_⟩
    ·rintro(⟨j,a,b,d⟩|d)
     ·exact⟨j,a,by omega,d⟩
     ·exact⟨i,i0,by omega,d⟩
    ·rintro⟨j,a,b,d⟩
     by_cases e:j=i
     ·subst e;exact .inr d
     ·exact .inl ⟨j,a,by omega,d⟩
   ·refine LJ.e (c+1,gm,ow) ?_
    have hL4:=nQ.1
    dsimp only
    refine⟨by omega,by omega,by omega,rP ow (fun o=>?_),by omega⟩
    rw[i2,ox,if_pos hm,hL,bz]
    refine or_congr dh ⟨?_,?_⟩
    ·rintro⟨j,a,b,d⟩
     exact⟨_,eQ a (by omega),d⟩
    ·rintro⟨x,a,d⟩
     obtain⟨j,a1,a2,rfl⟩:=pc.1 a
     exact⟨j,a1,by omega,d⟩
  ·refine LJ.e (c+1,gn,out) ?_
   have:ox g p c = []:=by
    rw[ox,if_neg]
    exact ‹_›
   dsimp only
   refine⟨by omega,by omega,by omega,rP out (fun o=>?_),Nat.le_trans h3 (bq _ (by omega))⟩
   rw[this];simp
 ·refine⟨out,rfl,fun o=>?_,?_⟩
  ·rw[h2,oN,bz]
   constructor
   ·rintro⟨c',a,b,d⟩
    exact⟨c',jI.2 ⟨a,by omega⟩,d⟩
   ·rintro⟨c',a,d⟩
    have:=jI.1 a
    exact⟨c',this.1,by omega,d⟩
  ·omega
def OS{g:eH}(hg:fe g){p:Pos}(hp:fO g p){q:Pos}(h:vp g p q):Small q:=(BA hp h).small hg
def TQ{p:Pos}(h:0≤p.side∧p.side≤1) : [dI p.cs,dI p.h0,dI p.h1,.i p.ff,.i p.side][1+p.side.toNat]? = some (dI (p.hand p.side)):=by
 unfold Pos.hand
 rcases(show p.side=0∨p.side=1 by omega)with e|e<;>rw[e]<;>rfl
def f108(g:eH)(hg:fe g)(p:Pos)(hp:fO g p):Wf T 108 [dG g,dP p] [] (Ex e7 fun r=>jM r∧r.length≤100∧∀ q,q∈r↔vp g p q):=by
 have hz:=hp.size
 have hb:=hg.iw.size
 have ik:=hp.side
 have hk:=hg.kinds
 have jB:=hp.small hg
 have l0:=hp.h0.len
 have l1:=hp.h1.len
 refine Yz AD (gL 65 [3,4,5] (gL 69 [2] AD.body)) ?_
 simp[AD,gL,jg,lD,lH,lS,ku]
 refine eN.e ((0,0,[]):Int×Nat×List Pos) (fun y=>[(2,.ptr 0 0 0),(3,.ptr 1 0 0),(5,.eF 2 y.2.1 5 0 y.2.2.length),(6,.i y.1)]) (fun y=>[.row 41 0 g.cells,.row 44 0 p.cells,.row 44 y.2.1 (cl Pos.cells y.2.2)]) (fun y=>0≤y.1∧y.1≤g.kinds.length∧(∀ q,q∈y.2.2↔∃ k c:Int,0≤k∧k<y.1∧0≤c∧c<p.cs.length∧gt (p.hand p.side) k≠0∧gt p.cs c=0∧q=jd p k c)∧y.2.2.length≤y.1.toNat*9) (fun y=>g.kinds.length-y.1.toNat) ?_ ?_
 ·simp;intro q k c h1 h2;omega
 rintro⟨k,gn,out⟩ ⟨h0,h1,h2,h3⟩
 dsimp only at h0 h1 h2 h3 ⊢
 simp
 (with_reducible repeat' first|refine Xk ?_<;>try simp|refine Xs ?_ ?_<;>intro h<;>(try intro h')<;>(try simp[h])<;>try omega|refine Xg ?_|omega)
 ·refine eN.e ((0,gn,out):Int×Nat×List Pos) (fun y=>[(2,.ptr 0 0 0),(3,.ptr 1 0 0),(5,.eF 2 y.2.1 5 0 y.2.2.length),(6,.i k),(7,.i y.1)]) (fun y=>[.row 41 0 g.cells,.row 44 0 p.cells,.row 44 y.2.1 (cl Pos.cells y.2.2)]) (fun y=>0≤y.1∧y.1≤p.cs.length∧(∀ q,q∈y.2.2↔q∈out∨∃ c:Int,0≤c∧c<y.1∧gt (p.hand p.side) k≠0∧gt p.cs c=0∧q=jd p k c)∧y.2.2.length≤out.length+y.1.toNat) (fun y=>p.cs.length-y.1.toNat) ?_ ?_
  ·simp;intro q c h1 h2;omega
  rintro⟨c,gm,ow⟩ ⟨c0,c1,c2,c3⟩
  dsimp only at c0 c1 c2 c3 ⊢
  simp
  (with_reducible repeat' first|refine Xk ?_<;>try simp|refine Xs ?_ ?_<;>intro h<;>(try intro h')<;>(try simp[h])<;>try omega|refine Xg ?_|omega)
  ·rw[TQ ik]
   simp
   have hh:=hp.hand p.side
   have hl:=hh.len
   have ha:=hh.at_ k h0 (by omega)
   have rP:∀ o2:List Pos,(∀ q,q∈o2↔q∈ow∨(gt (p.hand p.side) k≠0∧gt p.cs c=0∧q=jd p k c))→∀ q,q∈o2↔q∈out∨∃ c':Int,0≤c'∧c'<c+1∧gt (p.hand p.side) k≠0∧gt p.cs c'=0∧q=jd p k c':=fun o2 h q=>by
    rw[h,c2,or_assoc]
    refine or_congr dh ⟨?_,?_⟩
    ·rintro(⟨j,a,b,d⟩|d)
     ·exact⟨j,a,by omega,d⟩
     ·exact⟨c,c0,by omega,d⟩
    ·rintro⟨j,a,b,d⟩
     by_cases e:j=c
     ·subst e;exact .inr d
     ·exact .inl ⟨j,a,by omega,d⟩
   (with_reducible repeat' first|refine Xk ?_<;>try simp|refine Xs ?_ ?_<;>intro h<;>(try intro h')<;>(try simp[h])<;>try omega|refine Xg ?_|omega)
   ·refine LJ.e (c+1,gm,ow) ?_
    dsimp only
    refine eY ⟨?_,by omega⟩
    exact rP ow (fun q=>by rw[c2];constructor;exact .inl;rintro(h|⟨h1,h2,_⟩);exact h;contradiction)
   ·rcases(show p.side=0∨p.side=1 by omega)with e|e
    ·have q1:∀ v,(pt p.cs c v).length=p.cs.length:=fun v=>gN c0 (by omega)
     have q2:∀ v,(pt p.h0 k v).length=p.h0.length:=fun v=>gN h0 (by omega)
     have hP:p.hand p.side=p.h0:=by unfold Pos.hand;rw[e];rfl
     rw[hP]at ha
     refine Yn (Hf p jB) ?_
     simp
     refine Yt (f156 (k:=k) (s:=p.side) h0 (by omega) ik.1 ik.2) ?_
     simp[e]
     (with_reducible repeat' first|refine Xk ?_<;>try simp[q1,q2]|refine Xs ?_ ?_<;>intro h<;>(try intro h')<;>(try simp[h,q1,q2])<;>try omega|refine Xg ?_|omega)
     simp[q1,q2]
     (with_reducible repeat' first|refine Xk ?_<;>try simp|refine Xs ?_ ?_<;>intro h<;>(try intro h')<;>(try simp[h])<;>try omega|refine Xg ?_|omega)
     have hd:jd p k c=⟨pt p.cs c (1+2*k+p.side),pt p.h0 k (gt p.h0 k-1),p.h1,p.ff,1-p.side⟩:=by
      rw[jd,hP];simp[Pos.lN,e,kF]
     simp[e]at hd
     refine LJ.i (c+1,gm+1,ow ++ [jd p k c]) (by first|rfl|simp[hd,e]) (by first|rfl|simp[hd,e]) rfl rfl ?_
     dsimp only
     refine eY ⟨?_,by simp;omega⟩
     exact rP _ (fun q=>by rw[List.mem_append,List.mem_singleton];exact or_congr dh ⟨fun h=>⟨‹_›,‹_›,h⟩,fun h=>h.2.2⟩)
    ·have q1:∀ v,(pt p.cs c v).length=p.cs.length:=fun v=>gN c0 (by omega)
     have q2:∀ v,(pt p.h1 k v).length=p.h1.length:=fun v=>gN h0 (by omega)
     have hP:p.hand p.side=p.h1:=by unfold Pos.hand;rw[e];rfl
     rw[hP]at ha
     refine Yn (Hf p jB) ?_
     simp
     refine Yt (f156 (k:=k) (s:=p.side) h0 (by omega) ik.1 ik.2) ?_
     simp[e]
     (with_reducible repeat' first|refine Xk ?_<;>try simp[q1,q2]|refine Xs ?_ ?_<;>intro h<;>(try intro h')<;>(try simp[h,q1,q2])<;>try omega|refine Xg ?_|omega)
     simp[q1,q2]
     (with_reducible repeat' first|refine Xk ?_<;>try simp|refine Xs ?_ ?_<;>intro h<;>(try intro h')<;>(try simp[h])<;>try omega|refine Xg ?_|omega)
     have hd:jd p k c=⟨pt p.cs c (1+2*k+p.side),p.h0,pt p.h1 k (gt p.h1 k-1),p.ff,1-p.side⟩:=by
      rw[jd,hP];simp[Pos.lN,e,kF]
     simp[e]at hd
     refine LJ.i (c+1,gm+1,ow ++ [jd p k c]) (by first|rfl|simp[hd,e]) (by first|rfl|simp[hd,e]) rfl rfl ?_
     dsimp only
     refine eY ⟨?_,by simp;omega⟩
     exact rP _ (fun q=>by rw[List.mem_append,List.mem_singleton];exact or_congr dh ⟨fun h=>⟨‹_›,‹_›,h⟩,fun h=>h.2.2⟩)
   ·refine LJ.e (c+1,gm,ow) ?_
    dsimp only
    refine eY ⟨?_,by omega⟩
    exact rP ow (fun q=>by rw[c2];constructor;exact .inl;rintro(h|⟨_,h2,_⟩);exact h;contradiction)
  ·refine LJ.e (k+1,gm,ow) ?_
   dsimp only
   refine⟨by omega,by omega,by omega,fun q=>?_,by omega⟩
   rw[c2,h2]
   constructor
   ·rintro(⟨j,c,a,b,d⟩|⟨c,a,b,d⟩)
    ·exact⟨j,c,a,by omega,d⟩
    ·exact⟨k,c,h0,by omega,a,by omega,d⟩
   ·rintro⟨j,c,a,b,d,e,f⟩
    by_cases e:j=k
    ·subst e;exact .inr ⟨c,d,by omega,f⟩
    ·exact .inl ⟨j,c,a,by omega,d,by assumption,f⟩
 ·have hq:∀ q,q∈out↔vp g p q:=fun q=>by
   rw[h2];unfold vp
   constructor
   ·rintro⟨j,c,a,b,d⟩;exact⟨j,c,a,by omega,d⟩
   ·rintro⟨j,c,a,b,d⟩;exact⟨j,c,a,by omega,d⟩
  refine Yq (f61 out (by omega) (fun q h=>OS hg hp ((hq q).1 h))) fun r hr=>?_
  simp
  exact⟨r,rfl,hr.1,by omega,fun q=>(hr.2.2 q).trans (hq q)⟩
