/- Part 15 of DisputeLocal. -/
import Derived.Test.YtmehofoficaelaaGreatDoorL14
set_option linter.all false
namespace Go.Proofs.YtmehofoficaelaaGreatDoor
open Go Go.AL Classical
set_option maxRecDepth 10000
set_option maxHeartbeats 1000000
def kQ(side kind c:Int):Prop:=0≤fF c∧jo c=side∧(kind<0∨fF c=kind)
def Md(p:Pos)(side kind:Int):pO p side kind=(p.cs.countP fun c=>decide (kQ side kind c):Nat):=by
 unfold pO kQ
 congr 1
 refine List.countP_congr fun c _=>?_
 simp
def f193(p:Pos)(hp:Small p)(side kind:Int):Wf T 252 [dP p,.i side,.i kind] [] (Is (.i (pO p side kind))):=by
 have hs:=hp.1
 rw[Md]
 refine Yg E5 ?_
 simp[E5]
 refine fh.e ((0,0):Int×Int) (fun y=>[(1,.i side),(2,.i kind),(3,.ptr 0 0 0),(7,.i y.2),(8,.i y.1)]) (fun y=>[.row 46 0 p.cells]) (fun y=>0≤y.1∧y.1≤p.cs.length∧y.2=((p.cs.take y.1.toNat).countP fun c=>decide (kQ side kind c):Nat)) (fun y=>p.cs.length-y.1.toNat) ?_ ?_
 ·simp
 rintro⟨i,n⟩ ⟨h0,h1,h2⟩
 dsimp only at h0 h1 h2 ⊢
 have h3:n≤i:=by
  have:=cW (p:=fun c=>decide (kQ side kind c)) (l:=p.cs.take i.toNat)
  rw[aI]at this
  omega
 simp
 (with_reducible repeat' first|refine Xk ?_<;>try simp|refine Xs ?_ ?_<;>intro h<;>(try intro h')<;>(try simp[h])<;>try omega|refine Xg ?_|omega)
 ·refine Yc (f51 _) ?_
  simp
  have e:((p.cs.take (i+1).toNat).countP fun c=>decide (kQ side kind c))=((p.cs.take i.toNat).countP fun c=>decide (kQ side kind c))+(if kQ side kind (gt p.cs i)then 1 else 0):=by
   rw[iD h0 ‹_›,cy]
   simp[cj]
  (with_reducible repeat' first|refine Xk ?_<;>try simp|refine Xs ?_ ?_<;>intro h<;>(try intro h')<;>(try simp[h])<;>try omega|refine Xg ?_|omega)
  ·refine LJ.e (i+1,n+1) ?_
   refine fQ ?_
   dsimp only
   rw[e,if_pos ⟨by assumption,by assumption,by omega⟩,h2];rfl
  ·refine LJ.e (i+1,n+1) ?_
   refine fQ ?_
   dsimp only
   rw[e,if_pos ⟨by assumption,by assumption,by omega⟩,h2];rfl
  ·refine LJ.e (i+1,n) ?_
   refine fQ ?_
   dsimp only
   rw[e,if_neg (by simp[kQ, *]),h2];rfl
  ·refine LJ.e (i+1,n) ?_
   refine fQ ?_
   dsimp only
   rw[e,if_neg (by simp[kQ, *]),h2];rfl
  ·refine LJ.e (i+1,n) ?_
   refine fQ ?_
   dsimp only
   rw[e,if_neg (by simp[kQ, *]),h2];rfl
 ·rw[h2,ky (by omega)]
def f153(g:eY)(hg:gh g)(p:Pos)(hp:gG g p)(c:Clause)(hc:yK g c):Wf T 200 [.agg c.cells,dP p] [] (Is (.b (decide (ke p c)))):=by
 have jR:=hp.small hg
 have iE:=hp.side
 have hz:=hp.size
 have hk:=hg.kinds
 have hb:=hg.iY.size
 have ho:=hc.ok
 refine Yg EM ?_
 simp[EM]
 (with_reducible repeat' first|refine Xk ?_<;>try simp|refine Xs ?_ ?_<;>intro h<;>(try intro h')<;>(try simp[h])<;>try omega|refine Xg ?_|omega)
 ·refine Yc (f193 p jR p.side c.kind) ?_
  simp
  simp[ke,h]
 ·refine Yt (f156 (k:=c.kind) (s:=1-p.side) (by omega) (by omega) (by omega) (by omega)) ?_
  simp
  (with_reducible repeat' first|refine Xk ?_<;>try simp|refine Xs ?_ ?_<;>intro h<;>(try intro h')<;>(try simp[h])<;>try omega|refine Xg ?_|omega)
  simp[ke,kO, *]
 ·refine Yt (f193 p jR p.side (-1)) ?_
  simp
  simp[ke, *]
def PD(l:List Pos)(hl:l.length<2 ^ 40)(hs:∀ p∈l,Small p):Wf T 101 [gA l] [] (Is (gA (jL l))):=
 (f61 l hl hs).mono fun _ _ ⟨r,h1,h2,h3,_,h4⟩=>by rw[h1,h2,Tm h3 h4];exact⟨rfl,rfl⟩
def f106(g:eY)(hg:gh g)(p:Pos)(hp:gG g p):Wf T 136 [dG g,dP p] [] (Is (.i (q7 g p))):=by
 have hc:=hg.clauses
 refine Yg DQ ?_
 simp[DQ]
 refine fh.e (0:Int) (fun i=>[(2,.ptr 0 0 0),(3,.ptr 1 0 0),(5,.i i)]) (fun i=>[.row 43 0 g.cells,.row 46 0 p.cells]) (fun i=>0≤i∧i≤g.clauses.length∧∀ c∈g.clauses.take i.toNat,¬ ke p c) (fun i=>g.clauses.length-i.toNat) ?_ ?_
 ·simp
 rintro i ⟨h0,h1,h2⟩
 simp
 (with_reducible repeat' first|refine Xk ?_<;>try simp|refine Xs ?_ ?_<;>intro h<;>(try intro h')<;>(try simp[h])<;>try omega|refine Xg ?_|omega)
 ·refine Yt (f153 g hg p hp _ (hg.clause _ (ft h0 ‹_›))) ?_
  simp
  (with_reducible repeat' first|refine Xk ?_<;>try simp|refine Xs ?_ ?_<;>intro h<;>(try intro h')<;>(try simp[h])<;>try omega|refine Xg ?_|omega)
  ·have he:ended g p:=⟨_,ft h0 ‹_›,h⟩
   have e:(g.clauses.findIdx fun c=>decide (ke p c))=i.toNat:=by
    rw[List.findIdx_eq (by omega)]
    refine⟨?_,fun j hj=>?_⟩
    ·rw[← kl h0 ‹_›];simpa using h
    ·have:=h2 (g.clauses[j]'(by omega)) (by
      rw[c9]
      exact⟨j,by omega,rfl⟩)
     simpa using this
   unfold q7
   rw[if_pos he,e]
   simp;omega
  ·refine LJ.e (i+1) ?_
   refine fQ (fun c hc=>?_)
   rw[iD h0 ‹_›]at hc
   rcases List.mem_append.1 hc with hc|hc
   ·exact h2 c hc
   ·rw[List.mem_singleton]at hc;subst hc;exact h
 ·rw[ky (by omega)]at h2
  rw[Pk]
  rintro⟨c,hc,h⟩
  exact h2 c hc h
def f107(g:eY)(hg:gh g)(p:Pos)(hp:gG g p):Wf T 139 [dG g,dP p] [] (Ex mD fun r=>(∀ o,o∈r↔o∈oJ g p)∧r.length≤4000000000):=by
 have hz:=hp.size
 have hb:=hg.iY.size
 have iE:=hp.side
 refine Yg DR ?_
 simp[DR]
 refine fh.e ((0,0,[]):Int×Nat×List fV) (fun y=>[(2,.ptr 0 0 0),(3,.ptr 1 0 0),(5,.eX 2 y.2.1 6 0 y.2.2.length),(6,.i y.1)]) (fun y=>[.row 43 0 g.cells,.row 46 0 p.cells,.row 259 y.2.1 (cl fV.cells y.2.2)]) (fun y=>0≤y.1∧y.1≤p.cs.length∧(∀ o,o∈y.2.2↔∃ c:Int,0≤c∧c<y.1∧o∈oq g p c)∧y.2.2.length≤y.1.toNat*400000000) (fun y=>p.cs.length-y.1.toNat) ?_ ?_
 ·simp;intro o c h1 h2;omega
 rintro⟨c,gn,out⟩ ⟨h0,h1,h2,h3⟩
 dsimp only at h0 h1 h2 h3 ⊢
 have te:∀ py:List fV,(∀ o,o∈py↔o∈out∨o∈oq g p c)→∀ o,o∈py↔∃ c':Int,0≤c'∧c'<c+1∧o∈oq g p c':=fun py h o=>by
  rw[h,h2]
  constructor
  ·rintro(⟨c',a,b,d⟩|h)
   ·exact⟨c',a,by omega,d⟩
   ·exact⟨c,h0,by omega,h⟩
  ·rintro⟨c',a,b,d⟩
   by_cases e:c'=c
   ·subst e;exact .inr d
   ·exact .inl ⟨c',a,by omega,d⟩
 simp
 (with_reducible repeat' first|refine Xk ?_<;>try simp|refine Xs ?_ ?_<;>intro h<;>(try intro h')<;>(try simp[h])<;>try omega|refine Xg ?_|omega)
 ·refine Yc (f51 _) ?_
  simp
  have iL:=hp.cs _ (ft h0 ‹_›)
  have hk:=hg.kinds
  (with_reducible repeat' first|refine Xk ?_<;>try simp|refine Xs ?_ ?_<;>intro h<;>(try intro h')<;>(try simp[h])<;>try omega|refine Xg ?_|omega)
  ·refine LJ.e (c+1,gn,out) ?_
   have:oq g p c = []:=by
    rw[oq,if_neg]
    have:=L0 (n:=gt p.cs c) (by omega) iE
    exact this.2
   dsimp only
   refine⟨by omega,by omega,by omega,te out (fun o=>?_),Nat.le_trans h3 (bf _ (by omega))⟩
   rw[this];simp
  ·have hm:=h
   have ko:fF (gt p.cs c)<g.kinds.length:=uI iL.2 hk.1
   have pK:=hg.iG _ (ft (l:=g.kinds) (n:=fF (gt p.cs c)) (by omega) ko)
   have KF:∀ i:Int,0≤i→i<(gt g.kinds (fF (gt p.cs c))).iG.length→_:=fun i a b=>f154 g hg p hp c i ⟨h0,by omega⟩ hm ⟨a,b⟩
   generalize hL:(gt g.kinds (fF (gt p.cs c))).iG=L at *
   refine fh.e ((0,gn,out):Int×Nat×List fV) (fun y=>[(2,.ptr 0 0 0),(3,.ptr 1 0 0),(5,.eX 2 y.2.1 6 0 y.2.2.length),(6,.i c),(7,.ptr 3 0 0),(8,.i y.1)]) (fun y=>[.row 43 0 g.cells,.row 46 0 p.cells,.row 259 y.2.1 (cl fV.cells y.2.2),.row 317 0 [.i (fF (gt p.cs c)),.i (jo (gt p.cs c))]]) (fun y=>0≤y.1∧y.1≤L.length∧(∀ o,o∈y.2.2↔o∈out∨∃ j:Int,0≤j∧j<y.1∧o∈rz g p c (gt L j))∧y.2.2.length≤out.length+y.1.toNat*100000000) (fun y=>L.length-y.1.toNat) ?_ ?_
   ·simp;intro o j h1 h2;omega
   rintro⟨i,gm,py⟩ ⟨i0,i1,i2,i3⟩
   dsimp only at i0 i1 i2 i3 ⊢
   simp[hL]
   (with_reducible repeat' first|refine Xk ?_<;>try simp|refine Xs ?_ ?_<;>intro h<;>(try intro h')<;>(try simp[h])<;>try omega|refine Xg ?_|omega)
   ·refine Yq (KF i i0 ‹_›) fun r hr=>?_
    simp
    (with_reducible repeat' first|refine Xk ?_<;>try simp|refine Xs ?_ ?_<;>intro h<;>(try intro h')<;>(try simp[h])<;>try omega|refine Xg ?_|omega)
    refine LJ.e (i+1,gm+1,py++r) ?_
    dsimp only
    refine⟨by omega,by omega,by omega,fun o=>?_,by have:=hr.2;simp only[az];omega⟩
    rw[List.mem_append,i2,hr.1,or_assoc]
    refine or_congr dC ⟨?_,?_⟩
    ·rintro(⟨j,a,b,d⟩|d)
     ·exact⟨j,a,by omega,d⟩
     ·exact⟨i,i0,by omega,d⟩
    ·rintro⟨j,a,b,d⟩
     by_cases e:j=i
     ·subst e;exact .inr d
     ·exact .inl ⟨j,a,by omega,d⟩
   ·refine LJ.e (c+1,gm,py) ?_
    have hL4:=pK.1
    dsimp only
    refine⟨by omega,by omega,by omega,te py (fun o=>?_),by omega⟩
    rw[i2,oq,if_pos hm,hL,bt]
    refine or_congr dC ⟨?_,?_⟩
    ·rintro⟨j,a,b,d⟩
     exact⟨_,ft a (by omega),d⟩
    ·rintro⟨x,a,d⟩
     obtain⟨j,a1,a2,rfl⟩:=z8.1 a
     exact⟨j,a1,by omega,d⟩
  ·refine LJ.e (c+1,gn,out) ?_
   have:oq g p c = []:=by
    rw[oq,if_neg]
    exact ‹_›
   dsimp only
   refine⟨by omega,by omega,by omega,te out (fun o=>?_),Nat.le_trans h3 (bf _ (by omega))⟩
   rw[this];simp
 ·refine⟨out,rfl,fun o=>?_,?_⟩
  ·rw[h2,oJ,bt]
   constructor
   ·rintro⟨c',a,b,d⟩
    exact⟨c',ku.2 ⟨a,by omega⟩,d⟩
   ·rintro⟨c',a,d⟩
    have:=ku.1 a
    exact⟨c',this.1,by omega,d⟩
  ·omega
def Pg{g:eY}(hg:gh g){p:Pos}(hp:gG g p){q:Pos}(h:u9 g p q):Small q:=(Bs hp h).small hg
def Ue{p:Pos}(h:0≤p.side∧p.side≤1) : [dI p.cs,dI p.h0,dI p.h1,.i p.fH,.i p.side][1+p.side.toNat]? = some (dI (p.hand p.side)):=by
 unfold Pos.hand
 rcases(show p.side=0∨p.side=1 by omega)with e|e<;>rw[e]<;>rfl
def f108(g:eY)(hg:gh g)(p:Pos)(hp:gG g p):Wf T 140 [dG g,dP p] [] (Ex gA fun r=>kc r∧r.length≤100∧∀ q,q∈r↔u9 g p q):=by
 have hz:=hp.size
 have hb:=hg.iY.size
 have iE:=hp.side
 have hk:=hg.kinds
 have jR:=hp.small hg
 have l0:=hp.h0.len
 have l1:=hp.h1.len
 refine Yz AI (iu 65 [3,4,5] (iu 69 [2] AI.body)) ?_
 simp[AI,iu,jJ,mj,mn,mG,ln]
 refine fh.e ((0,0,[]):Int×Nat×List Pos) (fun y=>[(2,.ptr 0 0 0),(3,.ptr 1 0 0),(5,.eX 2 y.2.1 5 0 y.2.2.length),(6,.i y.1)]) (fun y=>[.row 43 0 g.cells,.row 46 0 p.cells,.row 46 y.2.1 (cl Pos.cells y.2.2)]) (fun y=>0≤y.1∧y.1≤g.kinds.length∧(∀ q,q∈y.2.2↔∃ k c:Int,0≤k∧k<y.1∧0≤c∧c<p.cs.length∧gt (p.hand p.side) k≠0∧gt p.cs c=0∧q=jv p k c)∧y.2.2.length≤y.1.toNat*9) (fun y=>g.kinds.length-y.1.toNat) ?_ ?_
 ·simp;intro q k c h1 h2;omega
 rintro⟨k,gn,out⟩ ⟨h0,h1,h2,h3⟩
 dsimp only at h0 h1 h2 h3 ⊢
 simp
 (with_reducible repeat' first|refine Xk ?_<;>try simp|refine Xs ?_ ?_<;>intro h<;>(try intro h')<;>(try simp[h])<;>try omega|refine Xg ?_|omega)
 ·refine fh.e ((0,gn,out):Int×Nat×List Pos) (fun y=>[(2,.ptr 0 0 0),(3,.ptr 1 0 0),(5,.eX 2 y.2.1 5 0 y.2.2.length),(6,.i k),(7,.i y.1)]) (fun y=>[.row 43 0 g.cells,.row 46 0 p.cells,.row 46 y.2.1 (cl Pos.cells y.2.2)]) (fun y=>0≤y.1∧y.1≤p.cs.length∧(∀ q,q∈y.2.2↔q∈out∨∃ c:Int,0≤c∧c<y.1∧gt (p.hand p.side) k≠0∧gt p.cs c=0∧q=jv p k c)∧y.2.2.length≤out.length+y.1.toNat) (fun y=>p.cs.length-y.1.toNat) ?_ ?_
  ·simp;intro q c h1 h2;omega
  rintro⟨c,gm,py⟩ ⟨c0,c1,c2,c3⟩
  dsimp only at c0 c1 c2 c3 ⊢
  simp
  (with_reducible repeat' first|refine Xk ?_<;>try simp|refine Xs ?_ ?_<;>intro h<;>(try intro h')<;>(try simp[h])<;>try omega|refine Xg ?_|omega)
  ·rw[Ue iE]
   simp
   have hh:=hp.hand p.side
   have hl:=hh.len
   have ha:=hh.at_ k h0 (by omega)
   have te:∀ o2:List Pos,(∀ q,q∈o2↔q∈py∨(gt (p.hand p.side) k≠0∧gt p.cs c=0∧q=jv p k c))→∀ q,q∈o2↔q∈out∨∃ c':Int,0≤c'∧c'<c+1∧gt (p.hand p.side) k≠0∧gt p.cs c'=0∧q=jv p k c':=fun o2 h q=>by
    rw[h,c2,or_assoc]
    refine or_congr dC ⟨?_,?_⟩
    ·rintro(⟨j,a,b,d⟩|d)
     ·exact⟨j,a,by omega,d⟩
     ·exact⟨c,c0,by omega,d⟩
    ·rintro⟨j,a,b,d⟩
     by_cases e:j=c
     ·subst e;exact .inr d
     ·exact .inl ⟨j,a,by omega,d⟩
   (with_reducible repeat' first|refine Xk ?_<;>try simp|refine Xs ?_ ?_<;>intro h<;>(try intro h')<;>(try simp[h])<;>try omega|refine Xg ?_|omega)
   ·refine LJ.e (c+1,gm,py) ?_
    dsimp only
    refine fQ ⟨?_,by omega⟩
    exact te py (fun q=>by rw[c2];constructor;exact .inl;rintro(h|⟨h1,h2,_⟩);exact h;contradiction)
   ·rcases(show p.side=0∨p.side=1 by omega)with e|e
    ·have q1:∀ v,(pt p.cs c v).length=p.cs.length:=fun v=>il c0 (by omega)
     have q2:∀ v,(pt p.h0 k v).length=p.h0.length:=fun v=>il h0 (by omega)
     have hP:p.hand p.side=p.h0:=by unfold Pos.hand;rw[e];rfl
     rw[hP]at ha
     refine Yn (G7 p jR) ?_
     simp
     refine Yt (f156 (k:=k) (s:=p.side) h0 (by omega) iE.1 iE.2) ?_
     simp[e]
     (with_reducible repeat' first|refine Xk ?_<;>try simp[q1,q2]|refine Xs ?_ ?_<;>intro h<;>(try intro h')<;>(try simp[h,q1,q2])<;>try omega|refine Xg ?_|omega)
     simp[q1,q2]
     (with_reducible repeat' first|refine Xk ?_<;>try simp|refine Xs ?_ ?_<;>intro h<;>(try intro h')<;>(try simp[h])<;>try omega|refine Xg ?_|omega)
     have hd:jv p k c=⟨pt p.cs c (1+2*k+p.side),pt p.h0 k (gt p.h0 k-1),p.h1,p.fH,1-p.side⟩:=by
      rw[jv,hP];simp[Pos.lV,e,kO]
     simp[e]at hd
     refine LJ.i (c+1,gm+1,py ++ [jv p k c]) (by first|rfl|simp[hd,e]) (by first|rfl|simp[hd,e]) rfl rfl ?_
     dsimp only
     refine fQ ⟨?_,by simp;omega⟩
     exact te _ (fun q=>by rw[List.mem_append,List.mem_singleton];exact or_congr dC ⟨fun h=>⟨‹_›,‹_›,h⟩,fun h=>h.2.2⟩)
    ·have q1:∀ v,(pt p.cs c v).length=p.cs.length:=fun v=>il c0 (by omega)
     have q2:∀ v,(pt p.h1 k v).length=p.h1.length:=fun v=>il h0 (by omega)
     have hP:p.hand p.side=p.h1:=by unfold Pos.hand;rw[e];rfl
     rw[hP]at ha
     refine Yn (G7 p jR) ?_
     simp
     refine Yt (f156 (k:=k) (s:=p.side) h0 (by omega) iE.1 iE.2) ?_
     simp[e]
     (with_reducible repeat' first|refine Xk ?_<;>try simp[q1,q2]|refine Xs ?_ ?_<;>intro h<;>(try intro h')<;>(try simp[h,q1,q2])<;>try omega|refine Xg ?_|omega)
     simp[q1,q2]
     (with_reducible repeat' first|refine Xk ?_<;>try simp|refine Xs ?_ ?_<;>intro h<;>(try intro h')<;>(try simp[h])<;>try omega|refine Xg ?_|omega)
     have hd:jv p k c=⟨pt p.cs c (1+2*k+p.side),p.h0,pt p.h1 k (gt p.h1 k-1),p.fH,1-p.side⟩:=by
      rw[jv,hP];simp[Pos.lV,e,kO]
     simp[e]at hd
     refine LJ.i (c+1,gm+1,py ++ [jv p k c]) (by first|rfl|simp[hd,e]) (by first|rfl|simp[hd,e]) rfl rfl ?_
     dsimp only
     refine fQ ⟨?_,by simp;omega⟩
     exact te _ (fun q=>by rw[List.mem_append,List.mem_singleton];exact or_congr dC ⟨fun h=>⟨‹_›,‹_›,h⟩,fun h=>h.2.2⟩)
   ·refine LJ.e (c+1,gm,py) ?_
    dsimp only
    refine fQ ⟨?_,by omega⟩
    exact te py (fun q=>by rw[c2];constructor;exact .inl;rintro(h|⟨_,h2,_⟩);exact h;contradiction)
  ·refine LJ.e (k+1,gm,py) ?_
   dsimp only
   refine⟨by omega,by omega,by omega,fun q=>?_,by omega⟩
   rw[c2,h2]
   constructor
   ·rintro(⟨j,c,a,b,d⟩|⟨c,a,b,d⟩)
    ·exact⟨j,c,a,by omega,d⟩
    ·exact⟨k,c,h0,by omega,a,by omega,d⟩
   ·rintro⟨j,c,a,b,d,e,f⟩
    by_cases e:j=k
    ·subst e;exact .inr ⟨c,d,by omega,f⟩
    ·exact .inl ⟨j,c,a,by omega,d,by assumption,f⟩
 ·have hq:∀ q,q∈out↔u9 g p q:=fun q=>by
   rw[h2];unfold u9
   constructor
   ·rintro⟨j,c,a,b,d⟩;exact⟨j,c,a,by omega,d⟩
   ·rintro⟨j,c,a,b,d⟩;exact⟨j,c,a,by omega,d⟩
  refine Yq (f61 out (by omega) (fun q h=>Pg hg hp ((hq q).1 h))) fun r hr=>?_
  simp
  exact⟨r,rfl,hr.1,by omega,fun q=>(hr.2.2 q).trans (hq q)⟩
