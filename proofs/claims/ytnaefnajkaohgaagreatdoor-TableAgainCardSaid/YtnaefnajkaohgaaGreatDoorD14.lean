/- Part 14 of the proof of skewer.skewerlaw15.TableAgain. -/
import Derived.Test.YtnaefnajkaohgaaGreatDoorD13
set_option linter.all false
namespace Go.Proofs.YtnaefnajkaohgaaGreatDoor
open Go Go.AL Classical
set_option maxRecDepth 10000
set_option maxHeartbeats 1000000
def jA(side kind c:Int):Prop:=0≤ff c∧iu c=side∧(kind<0∨ff c=kind)
theorem JE(p:Pos)(side kind:Int):oy p side kind=(p.cs.countP fun c=>decide (jA side kind c):Nat):=by
 unfold oy jA
 congr 1
 refine List.countP_congr fun c _=>?_
 simp
theorem f193(p:Pos)(hp:Small p)(side kind:Int):Wf T 193 [dP p,.i side,.i kind] [] (Is (.i (oy p side kind))):=by
 have hs:=hp.1
 rw[JE]
 refine Yg Cl ?_
 simp[Cl]
 refine eW.e ((0,0):Int×Int) (fun y=>[(1,.i side),(2,.i kind),(3,.ptr 0 0 0),(7,.i y.2),(8,.i y.1)]) (fun y=>[.row 44 0 p.cells]) (fun y=>0≤y.1∧y.1≤p.cs.length∧y.2=((p.cs.take y.1.toNat).countP fun c=>decide (jA side kind c):Nat)) (fun y=>p.cs.length-y.1.toNat) ?_ ?_
 ·simp
 rintro⟨i,n⟩ ⟨h0,h1,h2⟩
 dsimp only at h0 h1 h2 ⊢
 have h3:n≤i:=by
  have:=cz (p:=fun c=>decide (jA side kind c)) (l:=p.cs.take i.toNat)
  rw[aT]at this
  omega
 simp
 (with_reducible repeat' first|refine Xk ?_<;>try simp|refine Xs ?_ ?_<;>intro h<;>(try intro h')<;>(try simp[h])<;>(try omega)|refine Xg ?_|omega)
 ·refine Yc (f51 _) ?_
  simp
  have e:((p.cs.take (i+1).toNat).countP fun c=>decide (jA side kind c))=((p.cs.take i.toNat).countP fun c=>decide (jA side kind c))+(if jA side kind (gt p.cs i)then 1 else 0):=by
   rw[gx h0 ‹_›,c8]
   simp[bz]
  (with_reducible repeat' first|refine Xk ?_<;>try simp|refine Xs ?_ ?_<;>intro h<;>(try intro h')<;>(try simp[h])<;>(try omega)|refine Xg ?_|omega)
  ·refine LJ.e (i+1,n+1) ?_
   refine⟨by dsimp only;omega,by dsimp only;omega,by dsimp only;omega,?_⟩
   dsimp only
   rw[e,if_pos ⟨by assumption,by assumption,by omega⟩,h2];rfl
  ·refine LJ.e (i+1,n+1) ?_
   refine⟨by dsimp only;omega,by dsimp only;omega,by dsimp only;omega,?_⟩
   dsimp only
   rw[e,if_pos ⟨by assumption,by assumption,by omega⟩,h2];rfl
  ·refine LJ.e (i+1,n) ?_
   refine⟨by dsimp only;omega,by dsimp only;omega,by dsimp only;omega,?_⟩
   dsimp only
   rw[e,if_neg (by simp[jA, *]),h2];rfl
  ·refine LJ.e (i+1,n) ?_
   refine⟨by dsimp only;omega,by dsimp only;omega,by dsimp only;omega,?_⟩
   dsimp only
   rw[e,if_neg (by simp[jA, *]),h2];rfl
  ·refine LJ.e (i+1,n) ?_
   refine⟨by dsimp only;omega,by dsimp only;omega,by dsimp only;omega,?_⟩
   dsimp only
   rw[e,if_neg (by simp[jA, *]),h2];rfl
 ·rw[h2,jg (by omega)]
theorem f153(g:eO)(hg:fi g)(p:Pos)(hp:fF g p)(c:Clause)(hc:wj g c):Wf T 153 [.agg c.cells,dP p] [] (Is (.b (decide (iV p c)))):=by
 have jl:=hp.small hg
 have gA:=hp.side
 have hz:=hp.size
 have hk:=hg.kinds
 have hb:=hg.gV.size
 have ho:=hc.ok
 refine Yg B2 ?_
 simp[B2]
 (with_reducible repeat' first|refine Xk ?_<;>try simp|refine Xs ?_ ?_<;>intro h<;>(try intro h')<;>(try simp[h])<;>(try omega)|refine Xg ?_|omega)
 ·refine Yc (f193 p jl p.side c.kind) ?_
  simp
  simp[iV,h]
 ·refine Yt (f156 (k:=c.kind) (s:=1-p.side) (by omega) (by omega) (by omega) (by omega)) ?_
  simp
  (with_reducible repeat' first|refine Xk ?_<;>try simp|refine Xs ?_ ?_<;>intro h<;>(try intro h')<;>(try simp[h])<;>(try omega)|refine Xg ?_|omega)
  simp[iV,iG, *]
 ·refine Yt (f193 p jl p.side (-1)) ?_
  simp
  simp[iV, *]
theorem MG(l:List Pos)(hl:l.length<2 ^ 40)(hs:∀ p∈l,Small p):Wf T 61 [fW l] [] (Is (fW (iL l))):=
 (f61 l hl hs).mono fun _ _ ⟨r,h1,h2,h3,_,h4⟩=>by rw[h1,h2,Ql h3 h4];exact⟨rfl,rfl⟩
theorem f106(g:eO)(hg:fi g)(p:Pos)(hp:fF g p):Wf T 106 [dG g,dP p] [] (Is (.i (pI g p))):=by
 have hc:=hg.clauses
 refine Yg By ?_
 simp[By]
 refine eW.e (0:Int) (fun i=>[(2,.ptr 0 0 0),(3,.ptr 1 0 0),(5,.i i)]) (fun i=>[.row 41 0 g.cells,.row 44 0 p.cells]) (fun i=>0≤i∧i≤g.clauses.length∧∀ c∈g.clauses.take i.toNat,¬ iV p c) (fun i=>g.clauses.length-i.toNat) ?_ ?_
 ·simp
 rintro i ⟨h0,h1,h2⟩
 simp
 (with_reducible repeat' first|refine Xk ?_<;>try simp|refine Xs ?_ ?_<;>intro h<;>(try intro h')<;>(try simp[h])<;>(try omega)|refine Xg ?_|omega)
 ·refine Yt (f153 g hg p hp _ (hg.clause _ (eY h0 ‹_›))) ?_
  simp
  (with_reducible repeat' first|refine Xk ?_<;>try simp|refine Xs ?_ ?_<;>intro h<;>(try intro h')<;>(try simp[h])<;>(try omega)|refine Xg ?_|omega)
  ·have he:ended g p:=⟨_,eY h0 ‹_›,h⟩
   have e:(g.clauses.findIdx fun c=>decide (iV p c))=i.toNat:=by
    rw[List.findIdx_eq (by omega)]
    refine⟨?_,fun j hj=>?_⟩
    ·rw[← nL h0 ‹_›];simpa using h
    ·have:=h2 (g.clauses[j]'(by omega)) (by
      rw[cW]
      exact⟨j,by omega,rfl⟩)
     simpa using this
   unfold pI
   rw[if_pos he,e]
   simp;omega
  ·refine LJ.e (i+1) ?_
   refine⟨by omega,by omega,by omega,fun c hc=>?_⟩
   rw[gx h0 ‹_›]at hc
   rcases List.mem_append.1 hc with hc|hc
   ·exact h2 c hc
   ·rw[List.mem_singleton]at hc;subst hc;exact h
 ·rw[jg (by omega)]at h2
  rw[Mu]
  rintro⟨c,hc,h⟩
  exact h2 c hc h
theorem f107(g:eO)(hg:fi g)(p:Pos)(hp:fF g p):Wf T 107 [dG g,dP p] [] (Ex lj fun r=>(∀ o,o∈r↔o∈mE g p)∧r.length≤4000000000):=by
 have hz:=hp.size
 have hb:=hg.gV.size
 have gA:=hp.side
 refine Yg Bz ?_
 simp[Bz]
 refine eW.e ((0,0,[]):Int×Nat×List fq) (fun y=>[(2,.ptr 0 0 0),(3,.ptr 1 0 0),(5,.eN 2 y.2.1 6 0 y.2.2.length),(6,.i y.1)]) (fun y=>[.row 41 0 g.cells,.row 44 0 p.cells,.row 113 y.2.1 (cl fq.cells y.2.2)]) (fun y=>0≤y.1∧y.1≤p.cs.length∧(∀ o,o∈y.2.2↔∃ c:Int,0≤c∧c<y.1∧o∈me g p c)∧y.2.2.length≤y.1.toNat*400000000) (fun y=>p.cs.length-y.1.toNat) ?_ ?_
 ·simp;intro o c h1 h2;omega
 rintro⟨c,gn,out⟩ ⟨h0,h1,h2,h3⟩
 dsimp only at h0 h1 h2 h3 ⊢
 have rj:∀ nV:List fq,(∀ o,o∈nV↔o∈out∨o∈me g p c)→∀ o,o∈nV↔∃ c':Int,0≤c'∧c'<c+1∧o∈me g p c':=fun nV h o=>by
  rw[h,h2]
  constructor
  ·rintro(⟨c',a,b,d⟩|h)
   ·exact⟨c',a,by omega,d⟩
   ·exact⟨c,h0,by omega,h⟩
  ·rintro⟨c',a,b,d⟩
   by_cases e:c'=c
   ·subst e;exact .inr d
   ·exact .inl ⟨c',a,by omega,d⟩
 simp
 (with_reducible repeat' first|refine Xk ?_<;>try simp|refine Xs ?_ ?_<;>intro h<;>(try intro h')<;>(try simp[h])<;>(try omega)|refine Xg ?_|omega)
 ·refine Yc (f51 _) ?_
  simp
  have gQ:=hp.cs _ (eY h0 ‹_›)
  have hk:=hg.kinds
  (with_reducible repeat' first|refine Xk ?_<;>try simp|refine Xs ?_ ?_<;>intro h<;>(try intro h')<;>(try simp[h])<;>(try omega)|refine Xg ?_|omega)
  ·refine LJ.e (c+1,gn,out) ?_
   have:me g p c = []:=by
    rw[me,if_neg]
    have:=Ju (n:=gt p.cs c) (by omega) gA
    exact this.2
   dsimp only
   refine⟨by omega,by omega,by omega,rj out (fun o=>?_),Nat.le_trans h3 (bw _ (by omega))⟩
   rw[this];simp
  ·have hm:=h
   have jc:ff (gt p.cs c)<g.kinds.length:=ru gQ.2 hk.1
   have k8:=hg.gu _ (eY (l:=g.kinds) (n:=ff (gt p.cs c)) (by omega) jc)
   have Ic:∀ i:Int,0≤i→i<(gt g.kinds (ff (gt p.cs c))).gu.length→_:=fun i a b=>f154 g hg p hp c i ⟨h0,by omega⟩ hm ⟨a,b⟩
   generalize hL:(gt g.kinds (ff (gt p.cs c))).gu=L at *
   refine eW.e ((0,gn,out):Int×Nat×List fq) (fun y=>[(2,.ptr 0 0 0),(3,.ptr 1 0 0),(5,.eN 2 y.2.1 6 0 y.2.2.length),(6,.i c),(7,.ptr 3 0 0),(8,.i y.1)]) (fun y=>[.row 41 0 g.cells,.row 44 0 p.cells,.row 113 y.2.1 (cl fq.cells y.2.2),.row 117 0 [.i (ff (gt p.cs c)),.i (iu (gt p.cs c))]]) (fun y=>0≤y.1∧y.1≤L.length∧(∀ o,o∈y.2.2↔o∈out∨∃ j:Int,0≤j∧j<y.1∧o∈pT g p c (gt L j))∧y.2.2.length≤out.length+y.1.toNat*100000000) (fun y=>L.length-y.1.toNat) ?_ ?_
   ·simp;intro o j h1 h2;omega
   rintro⟨i,gm,nV⟩ ⟨i0,i1,i2,i3⟩
   dsimp only at i0 i1 i2 i3 ⊢
   simp[hL]
   (with_reducible repeat' first|refine Xk ?_<;>try simp|refine Xs ?_ ?_<;>intro h<;>(try intro h')<;>(try simp[h])<;>(try omega)|refine Xg ?_|omega)
   ·refine Yq (Ic i i0 ‹_›) fun r hr=>?_
    simp
    (with_reducible repeat' first|refine Xk ?_<;>try simp|refine Xs ?_ ?_<;>intro h<;>(try intro h')<;>(try simp[h])<;>(try omega)|refine Xg ?_|omega)
    refine LJ.e (i+1,gm+1,nV++r) ?_
    dsimp only
    refine⟨by omega,by omega,by omega,fun o=>?_,by have:=hr.2;simp only[ay];omega⟩
    rw[List.mem_append,i2,hr.1,or_assoc]
    refine or_congr di ⟨?_,?_⟩
    ·rintro(⟨j,a,b,d⟩|d)
     ·exact⟨j,a,by omega,d⟩
     ·exact⟨i,i0,by omega,d⟩
    ·rintro⟨j,a,b,d⟩
     by_cases e:j=i
     ·subst e;exact .inr d
     ·exact .inl ⟨j,a,by omega,d⟩
   ·refine LJ.e (c+1,gm,nV) ?_
    have hL4:=k8.1
    dsimp only
    refine⟨by omega,by omega,by omega,rj nV (fun o=>?_),by omega⟩
    rw[i2,me,if_pos hm,hL,aZ]
    refine or_congr di ⟨?_,?_⟩
    ·rintro⟨j,a,b,d⟩
     exact⟨_,eY a (by omega),d⟩
    ·rintro⟨x,a,d⟩
     obtain⟨j,a1,a2,rfl⟩:=rv.1 a
     exact⟨j,a1,by omega,d⟩
  ·refine LJ.e (c+1,gn,out) ?_
   have:me g p c = []:=by
    rw[me,if_neg]
    exact ‹_›
   dsimp only
   refine⟨by omega,by omega,by omega,rj out (fun o=>?_),Nat.le_trans h3 (bw _ (by omega))⟩
   rw[this];simp
 ·refine⟨out,rfl,fun o=>?_,?_⟩
  ·rw[h2,mE,aZ]
   constructor
   ·rintro⟨c',a,b,d⟩
    exact⟨c',pS.2 ⟨a,by omega⟩,d⟩
   ·rintro⟨c',a,d⟩
    have:=pS.1 a
    exact⟨c',this.1,by omega,d⟩
  ·omega
theorem Mr{g:eO}(hg:fi g){p:Pos}(hp:fF g p){q:Pos}(h:rI g p q):Small q:=(ze hp h).small hg
theorem Q0{p:Pos}(h:0≤p.side∧p.side≤1) : [dI p.cs,dI p.h0,dI p.h1,.i p.fg,.i p.side][1+p.side.toNat]? = some (dI (p.hand p.side)):=by
 unfold Pos.hand
 rcases(show p.side=0∨p.side=1 by omega)with e|e<;>rw[e]<;>rfl
theorem f108(g:eO)(hg:fi g)(p:Pos)(hp:fF g p):Wf T 108 [dG g,dP p] [] (Ex fW fun r=>iZ r∧r.length≤100∧∀ q,q∈r↔rI g p q):=by
 have hz:=hp.size
 have hb:=hg.gV.size
 have gA:=hp.side
 have hk:=hg.kinds
 have jl:=hp.small hg
 have l0:=hp.h0.len
 have l1:=hp.h1.len
 refine Yz yi (gH 65 [3,4,5] (gH 69 [2] yi.body)) ?_
 simp[yi,gH,iJ,kU,kX,lr,jN]
 refine eW.e ((0,0,[]):Int×Nat×List Pos) (fun y=>[(2,.ptr 0 0 0),(3,.ptr 1 0 0),(5,.eN 2 y.2.1 5 0 y.2.2.length),(6,.i y.1)]) (fun y=>[.row 41 0 g.cells,.row 44 0 p.cells,.row 44 y.2.1 (cl Pos.cells y.2.2)]) (fun y=>0≤y.1∧y.1≤g.kinds.length∧(∀ q,q∈y.2.2↔∃ k c:Int,0≤k∧k<y.1∧0≤c∧c<p.cs.length∧gt (p.hand p.side) k≠0∧gt p.cs c=0∧q=iz p k c)∧y.2.2.length≤y.1.toNat*9) (fun y=>g.kinds.length-y.1.toNat) ?_ ?_
 ·simp;intro q k c h1 h2;omega
 rintro⟨k,gn,out⟩ ⟨h0,h1,h2,h3⟩
 dsimp only at h0 h1 h2 h3 ⊢
 simp
 (with_reducible repeat' first|refine Xk ?_<;>try simp|refine Xs ?_ ?_<;>intro h<;>(try intro h')<;>(try simp[h])<;>(try omega)|refine Xg ?_|omega)
 ·refine eW.e ((0,gn,out):Int×Nat×List Pos) (fun y=>[(2,.ptr 0 0 0),(3,.ptr 1 0 0),(5,.eN 2 y.2.1 5 0 y.2.2.length),(6,.i k),(7,.i y.1)]) (fun y=>[.row 41 0 g.cells,.row 44 0 p.cells,.row 44 y.2.1 (cl Pos.cells y.2.2)]) (fun y=>0≤y.1∧y.1≤p.cs.length∧(∀ q,q∈y.2.2↔q∈out∨∃ c:Int,0≤c∧c<y.1∧gt (p.hand p.side) k≠0∧gt p.cs c=0∧q=iz p k c)∧y.2.2.length≤out.length+y.1.toNat) (fun y=>p.cs.length-y.1.toNat) ?_ ?_
  ·simp;intro q c h1 h2;omega
  rintro⟨c,gm,nV⟩ ⟨c0,c1,c2,c3⟩
  dsimp only at c0 c1 c2 c3 ⊢
  simp
  (with_reducible repeat' first|refine Xk ?_<;>try simp|refine Xs ?_ ?_<;>intro h<;>(try intro h')<;>(try simp[h])<;>(try omega)|refine Xg ?_|omega)
  ·rw[Q0 gA]
   simp
   have hh:=hp.hand p.side
   have hl:=hh.len
   have ha:=hh.at_ k h0 (by omega)
   have rj:∀ o2:List Pos,(∀ q,q∈o2↔q∈nV∨(gt (p.hand p.side) k≠0∧gt p.cs c=0∧q=iz p k c))→∀ q,q∈o2↔q∈out∨∃ c':Int,0≤c'∧c'<c+1∧gt (p.hand p.side) k≠0∧gt p.cs c'=0∧q=iz p k c':=fun o2 h q=>by
    rw[h,c2,or_assoc]
    refine or_congr di ⟨?_,?_⟩
    ·rintro(⟨j,a,b,d⟩|d)
     ·exact⟨j,a,by omega,d⟩
     ·exact⟨c,c0,by omega,d⟩
    ·rintro⟨j,a,b,d⟩
     by_cases e:j=c
     ·subst e;exact .inr d
     ·exact .inl ⟨j,a,by omega,d⟩
   (with_reducible repeat' first|refine Xk ?_<;>try simp|refine Xs ?_ ?_<;>intro h<;>(try intro h')<;>(try simp[h])<;>(try omega)|refine Xg ?_|omega)
   ·refine LJ.e (c+1,gm,nV) ?_
    dsimp only
    refine⟨by omega,by omega,by omega,?_,by omega⟩
    exact rj nV (fun q=>by rw[c2];constructor;exact .inl;rintro(h|⟨h1,h2,_⟩);exact h;contradiction)
   ·rcases(show p.side=0∨p.side=1 by omega)with e|e
    ·have q1:∀ v,(pt p.cs c v).length=p.cs.length:=fun v=>gC c0 (by omega)
     have q2:∀ v,(pt p.h0 k v).length=p.h0.length:=fun v=>gC h0 (by omega)
     have hP:p.hand p.side=p.h0:=by unfold Pos.hand;rw[e];rfl
     rw[hP]at ha
     refine Yn (Ec p jl) ?_
     simp
     refine Yt (f156 (k:=k) (s:=p.side) h0 (by omega) gA.1 gA.2) ?_
     simp[e]
     (with_reducible repeat' first|refine Xk ?_<;>try simp[q1,q2]|refine Xs ?_ ?_<;>intro h<;>(try intro h')<;>(try simp[h,q1,q2])<;>(try omega)|refine Xg ?_|omega)
     simp[q1,q2]
     (with_reducible repeat' first|refine Xk ?_<;>try simp|refine Xs ?_ ?_<;>intro h<;>(try intro h')<;>(try simp[h])<;>(try omega)|refine Xg ?_|omega)
     have hd:iz p k c=⟨pt p.cs c (1+2*k+p.side),pt p.h0 k (gt p.h0 k-1),p.h1,p.fg,1-p.side⟩:=by
      rw[iz,hP];simp[Pos.jv,e,iG]
     simp[e]at hd
     refine LJ.i (c+1,gm+1,nV ++ [iz p k c]) (by first|rfl|simp[hd,e]) (by first|rfl|simp[hd,e]) rfl rfl ?_
     dsimp only
     refine⟨by omega,by omega,by omega,?_,by simp;omega⟩
     exact rj _ (fun q=>by rw[List.mem_append,List.mem_singleton];exact or_congr di ⟨fun h=>⟨‹_›,‹_›,h⟩,fun h=>h.2.2⟩)
    ·have q1:∀ v,(pt p.cs c v).length=p.cs.length:=fun v=>gC c0 (by omega)
     have q2:∀ v,(pt p.h1 k v).length=p.h1.length:=fun v=>gC h0 (by omega)
     have hP:p.hand p.side=p.h1:=by unfold Pos.hand;rw[e];rfl
     rw[hP]at ha
     refine Yn (Ec p jl) ?_
     simp
     refine Yt (f156 (k:=k) (s:=p.side) h0 (by omega) gA.1 gA.2) ?_
     simp[e]
     (with_reducible repeat' first|refine Xk ?_<;>try simp[q1,q2]|refine Xs ?_ ?_<;>intro h<;>(try intro h')<;>(try simp[h,q1,q2])<;>(try omega)|refine Xg ?_|omega)
     simp[q1,q2]
     (with_reducible repeat' first|refine Xk ?_<;>try simp|refine Xs ?_ ?_<;>intro h<;>(try intro h')<;>(try simp[h])<;>(try omega)|refine Xg ?_|omega)
     have hd:iz p k c=⟨pt p.cs c (1+2*k+p.side),p.h0,pt p.h1 k (gt p.h1 k-1),p.fg,1-p.side⟩:=by
      rw[iz,hP];simp[Pos.jv,e,iG]
     simp[e]at hd
     refine LJ.i (c+1,gm+1,nV ++ [iz p k c]) (by first|rfl|simp[hd,e]) (by first|rfl|simp[hd,e]) rfl rfl ?_
     dsimp only
     refine⟨by omega,by omega,by omega,?_,by simp;omega⟩
     exact rj _ (fun q=>by rw[List.mem_append,List.mem_singleton];exact or_congr di ⟨fun h=>⟨‹_›,‹_›,h⟩,fun h=>h.2.2⟩)
   ·refine LJ.e (c+1,gm,nV) ?_
    dsimp only
    refine⟨by omega,by omega,by omega,?_,by omega⟩
    exact rj nV (fun q=>by rw[c2];constructor;exact .inl;rintro(h|⟨_,h2,_⟩);exact h;contradiction)
  ·refine LJ.e (k+1,gm,nV) ?_
   dsimp only
   refine⟨by omega,by omega,by omega,fun q=>?_,by omega⟩
   rw[c2,h2]
   constructor
   ·rintro(⟨j,c,a,b,d⟩|⟨c,a,b,d⟩)
    ·exact⟨j,c,a,by omega,d⟩
    ·exact⟨k,c,h0,by omega,a,by omega,d⟩
   ·rintro⟨j,c,a,b,d,e,f⟩
    by_cases e:j=k
    ·subst e;exact .inr ⟨c,d,by omega,f⟩
    ·exact .inl ⟨j,c,a,by omega,d,by assumption,f⟩
 ·have hq:∀ q,q∈out↔rI g p q:=fun q=>by
   rw[h2];unfold rI
   constructor
   ·rintro⟨j,c,a,b,d⟩;exact⟨j,c,a,by omega,d⟩
   ·rintro⟨j,c,a,b,d⟩;exact⟨j,c,a,by omega,d⟩
  refine Yq (f61 out (by omega) (fun q h=>Mr hg hp ((hq q).1 h))) fun r hr=>?_
  simp
  exact⟨r,rfl,hr.1,by omega,fun q=>(hr.2.2 q).trans (hq q)⟩
