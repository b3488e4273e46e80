/- Part 23 of the proof of skewer.skewerlaw15.TableAgain. -/
import Derived.Test.YtnaefnajkaohgaaGreatDoorD21
import Derived.Test.YtnaefnajkaohgaaGreatDoorD14
import Derived.Test.YtnaefnajkaohgaaGreatDoorD18
set_option linter.all false
namespace Go.AL
open Go
@[simp] theorem alY(n v:Nat):jQ n (.gO v)=decide (v<n):=rfl
@[simp] theorem al1(n v:Nat):lS n (.gO v)=decide (v<n):=rfl
@[simp] theorem alT(n:Nat)(cs:List D):jQ n (.eZ cs)=cs.all (lS n):=rfl
@[simp] theorem akp(n:Nat):qy n .jL=true:=rfl
@[simp] theorem akr(n rf:Nat)(e:Env)(st:oZ):qy n (.fZ rf e st)=e.all fun x=>jQ n x.2:=rfl
theorem Oj{n m:Nat}(h:n≤m):gh n (List.range' n (m-n))=gh m []:=by
 unfold gh
 rw[List.map_nil,aw,← List.map_append,dF,dF]
 congr 1
 have:=List.range'_append (s:=0) (m:=n) (n:=m-n) (step:=1)
 simp only[Nat.one_mul,bj]at this
 rw[this];congr 1;omega
theorem RY{n:Nat}{live:List Nat}{env:Env}{H:U}{r:Bool}(fj:n≤H.length)(he:((forget live env).all fun p=>jQ n p.2)=true)
  (hr:dedup (((H.take n).map (mc n)).flatten.filter (· < H.length))=List.range' n (H.length-n)) (hH:pr H.length H):cut n live { env:=env,H:=H,marks:=[],fL:=r } = { env:=forget live env,H:=H,marks:=[],fL:=r }:=by
 by_cases h:H.length≤n
 ·exact DY h
 ·unfold cut
  dsimp only
  rw[if_neg h]
  have e1:((forget live env).map fun p=>gE n p.2).flatten = []:=flatten_nil fun p hp=>Gz (ao.1 he p hp)
  rw[e1,cK,aw,aY,hr,Oj fj]
  have e2:=J9 (n:=H.length) (H:=H) (G:=[]) rfl hH
  rw[aw]at e2
  rw[e2]
  congr 1
  conv=>rhs;rw[← aR (forget live env)]
  exact aj fun p hp=>by
   rw[A8 (n:=n) (fun u hu=>A1 (by omega)) (ao.1 he p hp)];rfl
theorem Wl{n:Nat}{H:U}{d:D}(fj:n≤H.length)(hd:jQ n d=true)
  (hr:dedup (((H.take n).map (mc n)).flatten.filter (· < H.length))=List.range' n (H.length-n)) (hH:pr H.length H):leave 0 n H d=(d,H):=by
 by_cases h:H.length≤n
 ·exact Wj h 0
 ·unfold leave
  rw[if_neg h]
  simp only[aY]
  rw[hr,Oj fj]
  have e2:=J9 (n:=H.length) (H:=H) (G:=[]) rfl hH
  rw[aw]at e2
  rw[e2,A8 (n:=n) (fun u hu=>A1 (by omega)) hd]
def Gi:Option Nat→D
 | some v'=>.gO v'
 | none=>.any
@[simp] theorem alC(v:Nat):Gi (some v) = .gO v:=rfl
@[simp] theorem alB:Gi none = .any:=rfl
@[simp] theorem alP(ρ:Nat→Option Nat)(H:U)(k v:Nat):eS ρ H (k+1) (.gO v)=Gi (ρ v):=by
 rw[eS,if_neg (by simp[closed])]
 unfold Gi;rfl
@[simp] theorem agZ(l:List fq):closed (dN 6 fq.cells l)=true:=uQ (fun a=>by simp[fm]) l
end Go.AL
namespace Go.Proofs.YtnaefnajkaohgaaGreatDoor
open Go Go.AL Classical
set_option maxRecDepth 10000
set_option maxHeartbeats 4000000
theorem Hw{a b:List Int}(hl:a.length=b.length)(h:∀ k:Int,0≤k→k<a.length→gt a k=gt b k):a=b:=
 List.ext_getElem hl fun i h1 h2=>by
  have:=h i (by omega) (by omega)
  simpa[gt,h1,h2]using this
noncomputable def mI(cs:List Int)(side:Int)(K:Nat):List Int:=(upto K).map fun k=>(cs.countP fun c=>decide (jA side k c):Nat)
@[simp] theorem ahh(cs:List Int)(side:Int)(K:Nat):(mI cs side K).length=K:=by simp[mI,upto]
theorem tm{cs:List Int}{side:Int}{K:Nat}{k:Int}(h0:0≤k)(h:k<K):gt (mI cs side K) k=(cs.countP fun c=>decide (jA side k c):Nat):=by
 have h1:k.toNat<K:=by omega
 simp[mI,upto,gt,h1,ct h0]
theorem RM{cs:List Int}{side:Int}{K:Nat}{c:Int}(hc:0<c∧c≤12)(hK:(c-1) / 2<K)(hs:(c-1) % 2=side):pt (mI cs side K) ((c-1) / 2) (gt (mI cs side K) ((c-1) / 2)+1)=mI (cs ++ [c]) side K:=by
 have h0:0≤(c-1) / 2:=by omega
 have hl:=gC (l:=mI cs side K) (n:=(c-1) / 2) (v:=gt (mI cs side K) ((c-1) / 2)+1) h0 (by simpa using hK)
 refine Hw (by rw[hl];simp) fun k k0 k1=>?_
 rw[hl]at k1
 simp at k1
 have hm:ff c=(c-1) / 2∧iu c=side:=by unfold ff iu;rw[if_pos (by omega),if_pos (by omega)];exact⟨rfl,hs⟩
 rw[lA h0 (by simpa using hK) k0,tm (cs:=cs ++ [c]) k0 k1,c8]
 simp only[bz,List.countP_nil,jA,hm.1,hm.2]
 split
 ·rename_i e
  subst e
  rw[tm h0 hK]
  simp[h0,jA]
 ·rename_i e
  rw[tm k0 k1]
  simp[jA]
  rw[if_neg (by omega)]
  simp
theorem Mb{cs:List Int}{side:Int}{K:Nat}{c:Int}(h:c≤0∨(c-1) % 2≠side):mI cs side K=mI (cs ++ [c]) side K:=by
 refine Hw (by simp) fun k k0 k1=>?_
 simp at k1
 rw[tm k0 k1,tm k0 k1,c8]
 simp only[bz,List.countP_nil,jA]
 have:¬ (0≤ff c∧iu c=side∧(k<0∨ff c=k)):=by
  unfold ff iu
  split
  ·omega
  ·omega
 simp[this]
theorem RN(side:Int)(K:Nat):mI [] side K=List.replicate K 0:=by
 refine Hw (by simp) fun k k0 k1=>?_
 simp at k1
 rw[tm k0 k1]
 have:k.toNat<K:=by omega
 simp[gt,this]
theorem f295(g:eO)(hg:fi g)(p:Pos)(hp:fF g p)(side:Int)(hs:0≤side∧side≤1):Wf T 295 [dG g,dP p,.i side] [] (Is (dI (mI p.cs side g.kinds.length))):=by
 have hz:=hp.size
 have hb:=hg.gV.size
 have hk:=hg.kinds
 refine Yg CW ?_
 simp[CW]
 (with_reducible repeat' first|refine Xk ?_<;>try simp|refine Xs ?_ ?_<;>intro h<;>(try intro h')<;>(try simp[h])<;>(try omega)|refine Xg ?_|omega)
 refine eW.e ((0,List.replicate g.kinds.length 0):Int×List Int) (fun y=>[(2,.i side),(7,.eN 2 0 1 0 g.kinds.length),(15,dI p.cs),(16,.i p.cs.length),(17,.i y.1)]) (fun y=>[.row 41 0 g.cells,.row 44 0 p.cells,.row 3 0 (cl f1 y.2)]) (fun y=>0≤y.1∧y.1≤p.cs.length∧y.2=mI (p.cs.take y.1.toNat) side g.kinds.length) (fun y=>(p.cs.length-y.1).toNat) ?_ ?_
 ·simp[RN]
 rintro⟨i,cn⟩ ⟨i0,i1,i2⟩
 dsimp only at i0 i1 i2 ⊢
 have fE:cn.length=g.kinds.length:=by rw[i2];simp
 by_cases hi:i<p.cs.length
 ·have hc:=hp.cs _ (eY i0 hi)
  have hT:=gx i0 hi
  have hr:=jw (a:=gt p.cs i-1) (b:=2)
  by_cases jd:0<gt p.cs i
  ·have hr:=hr (by omega)
   have hq:=xQ (a:=gt p.cs i-1) (b:=2) (by omega) (by omega) (by omega)
   by_cases gA:(gt p.cs i-1) % 2=side
   ·have vf:gt cn ((gt p.cs i-1) / 2)≤9∧0≤gt cn ((gt p.cs i-1) / 2):=by
     rw[i2,tm (by omega) (by omega)]
     have:=cz (p:=fun c=>decide (jA side ((gt p.cs i-1) / 2) c)) (l:=p.cs.take i.toNat)
     rw[aT]at this
     omega
    simp[hi,jd,hr,hq,gA]
    (with_reducible repeat' first|refine Xk ?_<;>try simp[hr,hq,gA]|refine Xs ?_ ?_<;>intro h<;>(try intro h')<;>(try simp[h,hr,hq,gA])<;>(try omega)|refine Xg ?_|omega)
    refine LJ.e (i+1,pt cn ((gt p.cs i-1) / 2) (gt cn ((gt p.cs i-1) / 2)+1)) ?_
    refine⟨by dsimp only;omega,by dsimp only;omega,by dsimp only;omega,?_⟩
    dsimp only
    rw[hT,i2]
    exact RM (by omega) (by omega) gA
   ·simp[hi,jd,hr,gA]
    (with_reducible repeat' first|refine Xk ?_<;>try simp[hr,gA]|refine Xs ?_ ?_<;>intro h<;>(try intro h')<;>(try simp[h,hr,gA])<;>(try omega)|refine Xg ?_|omega)
    refine LJ.e (i+1,cn) ?_
    refine⟨by dsimp only;omega,by dsimp only;omega,by dsimp only;omega,?_⟩
    dsimp only
    rw[hT,i2]
    exact Mb (.inr gA)
  ·simp[hi,jd]
   (with_reducible repeat' first|refine Xk ?_<;>try simp|refine Xs ?_ ?_<;>intro h<;>(try intro h')<;>(try simp[h])<;>(try omega)|refine Xg ?_|omega)
   refine LJ.e (i+1,cn) ?_
   refine⟨by dsimp only;omega,by dsimp only;omega,by dsimp only;omega,?_⟩
   dsimp only
   rw[hT,i2]
   exact Mb (by omega)
 ·simp[hi]
  rw[i2,jg (by omega),qW (by simp)]
  rfl
theorem Mc{side:Int}{K:Int}(hK:1≤K∧K≤2):∀ {cs:List Int},(∀ c∈cs,0≤c∧c≤2*K)→(cs.countP fun c=>decide (jA side (-1) c))=(cs.countP fun c=>decide (jA side 0 c))+(if K=2 then cs.countP fun c=>decide (jA side 1 c)else 0)
 | [],_=>by simp
 | c::cs,h=>by
  have hc:=h c (by simp)
  have ih:=Mc (side:=side) hK (cs:=cs) fun x hx=>h x (by simp[hx])
  simp only[bz,ih]
  have e:(if decide (jA side (-1) c)=true then 1 else 0)=(if decide (jA side 0 c)=true then 1 else 0)+(if K=2 then(if decide (jA side 1 c)=true then 1 else 0)else 0):=by
   unfold jA
   simp only[decide_eq_true_eq]
   by_cases h1:1≤c∧c≤12
   ·have:ff c=(c-1) / 2:=by unfold ff;rw[if_pos h1]
    rw[this]
    by_cases hs:iu c=side
    ·simp only[hs,true_and]
     by_cases h0:(c-1) / 2=0
     ·rw[if_pos (by omega),if_pos (by omega)]
      by_cases jk:K=2
      ·rw[if_pos jk,if_neg (by omega)]
      ·rw[if_neg jk]
     ·rw[if_pos (by omega),if_neg (by omega),if_pos (by omega),if_pos (by omega)]
    ·simp[hs]
   ·have:ff c = -1:=by unfold ff;rw[if_neg h1]
    simp[this]
  rw[e]
  split<;>omega
theorem f294(g:eO)(hg:fi g)(p:Pos)(hp:fF g p)(c:Clause)(hc:0≤c.kind∧c.kind<g.kinds.length):Wf T 294 [dG g,dP p,.agg c.cells] [] (Is (.b (decide (oy p p.side c.kind=0)))):=by
 have hs:=hp.side
 refine Yg CV ?_
 simp[CV]
 refine Yt (f295 g hg p hp p.side hs) ?_
 simp
 simp[tm hc.1 hc.2,← JE]
 (with_reducible repeat' first|refine Xk ?_<;>try simp|refine Xs ?_ ?_<;>intro h<;>(try intro h')<;>(try simp[h])<;>(try omega)|refine Xg ?_|omega)
theorem f296(g:eO)(hg:fi g)(p:Pos)(hp:fF g p)(c:Clause)(hc:0≤c.kind∧c.kind<g.kinds.length)(hn:0≤c.n∧c.n<g.size):Wf T 296 [dG g,dP p,.agg c.cells] [] (Is (.b (decide (gt p.cs c.n=iG c.kind (1-p.side))))):=by
 have hs:=hp.side
 have hz:=hp.size
 have hk:=hg.kinds
 refine Yg CX ?_
 simp[CX]
 (with_reducible repeat' first|refine Xk ?_<;>try simp|refine Xs ?_ ?_<;>intro h<;>(try intro h')<;>(try simp[h])<;>(try omega)|refine Xg ?_|omega)
 refine Yt (f92 (k:=c.kind) (s:=1-p.side) (by omega) (by omega) (by omega) (by omega)) ?_
 simp
 simp[iG]
theorem RK(cs:List Int)(side:Int):mI cs side 1 = [((cs.countP fun c=>decide (jA side 0 c):Nat):Int)]:=by
 simp[mI,upto,List.range,List.range.loop]
theorem RL(cs:List Int)(side:Int):mI cs side 2 = [((cs.countP fun c=>decide (jA side 0 c):Nat):Int),(cs.countP fun c=>decide (jA side 1 c):Nat)]:=by
 simp[mI,upto,List.range,List.range.loop]
theorem f297(g:eO)(hg:fi g)(p:Pos)(hp:fF g p)(c:Clause):Wf T 297 [dG g,dP p,.agg c.cells] [] (Is (.b (decide (oy p p.side (-1)≤c.n)))):=by
 have hs:=hp.side
 have hz:=hp.size
 have hb:=hg.gV.size
 have hk:=hg.kinds
 have ha:=Mc (side:=p.side) (K:=g.kinds.length) (by omega) (cs:=p.cs) hp.cs
 have l0:=cz (p:=fun c=>decide (jA p.side 0 c)) (l:=p.cs)
 have l1:=cz (p:=fun c=>decide (jA p.side 1 c)) (l:=p.cs)
 rw[JE,ha]
 refine Yg CY ?_
 simp[CY]
 refine Yc (f295 g hg p hp p.side hs) ?_
 simp
 rcases(show g.kinds.length=1∨g.kinds.length=2 by omega)with e|e
 ·rw[e,RK]
  simp
  generalize (p.cs.countP fun c=>decide (jA p.side 0 c))=n0 at *
  have g0:gt [(n0:Int)] 0=n0:=rfl
  refine eW.un ?_
  refine iR.u ?_
  simp[g0]
  (with_reducible repeat' first|refine Xk ?_<;>try simp[g0]|refine Xs ?_ ?_<;>intro h<;>(try intro h')<;>(try simp[h,g0])<;>(try omega)|refine Xg ?_|omega)
  refine iR.u ?_
  simp[g0]
 ·rw[e,RL]
  simp
  generalize (p.cs.countP fun c=>decide (jA p.side 0 c))=n0 at *
  generalize (p.cs.countP fun c=>decide (jA p.side 1 c))=n1 at *
  have g0:gt [(n0:Int),n1] 0=n0:=rfl
  have g1:gt [(n0:Int),n1] 1=n1:=rfl
  refine eW.un ?_
  refine iR.u ?_
  simp[g0]
  (with_reducible repeat' first|refine Xk ?_<;>try simp[g0]|refine Xs ?_ ?_<;>intro h<;>(try intro h')<;>(try simp[h,g0])<;>(try omega)|refine Xg ?_|omega)
  refine iR.u ?_
  simp[g1]
  (with_reducible repeat' first|refine Xk ?_<;>try simp[g1]|refine Xs ?_ ?_<;>intro h<;>(try intro h')<;>(try simp[h,g1])<;>(try omega)|refine Xg ?_|omega)
  refine iR.u ?_
  simp[g1]
theorem f46(g:eO)(hg:fi g)(p:Pos)(hp:fF g p):Wf T 46 [dG g,dP p] [] (Ey (fun n:Int=>.tup [.i n,.b (decide (ended g p))]) fun _=>True):=by
 have fE:=hg.clauses
 refine Yg wz ?_
 simp[wz]
 refine eW.e (0:Int) (fun y=>[(2,.ptr 0 0 0),(3,.ptr 1 0 0),(9,dN 4 Clause.cells g.clauses),(10,.i g.clauses.length),(11,.i y)]) (fun y=>[.row 41 0 g.cells,.row 44 0 p.cells]) (fun y=>0≤y∧y≤g.clauses.length∧∀ c∈g.clauses.take y.toNat,¬ iV p c) (fun y=>(g.clauses.length-y).toNat) ?_ ?_
 ·simp
 rintro i ⟨i0,i1,i2⟩
 by_cases hi:i<g.clauses.length
 ·have hm:=eY i0 hi
  have hc:=hg.clause _ hm
  have ho:=hc.ok
  have EI:iV p (gt g.clauses i)→decide (ended g p)=true:=fun h=>decide_eq_true ⟨_,hm,h⟩
  have l9:¬ iV p (gt g.clauses i)→∀ c∈g.clauses.take (i+1).toNat,¬ iV p c:=fun h c hc=>by
   rw[gx i0 hi]at hc
   rcases List.mem_append.1 hc with hc|hc
   ·exact i2 c hc
   ·rw[List.mem_singleton.1 hc];exact h
  simp[hi]
  (with_reducible repeat' first|refine Xk ?_<;>try simp|refine Xs ?_ ?_<;>intro h<;>(try intro h')<;>(try simp[h])<;>(try omega)|refine Xg ?_|omega)
  rcases(show(gt g.clauses i).cond=1∨(gt g.clauses i).cond=2∨(gt g.clauses i).cond=3 by omega)with e|e|e
  ·simp[e]
   refine Yt (f294 g hg p hp ⟨1,(gt g.clauses i).kind,(gt g.clauses i).n,(gt g.clauses i).out⟩ (by dsimp only;omega)) ?_
   simp
   have l5:iV p (gt g.clauses i)=(oy p p.side (gt g.clauses i).kind=0):=by simp[iV,e]
   by_cases hx:oy p p.side (gt g.clauses i).kind=0
   ·simp[hx]
    exact Ey.i (gt g.clauses i).out (by simp[EI (l5▸hx)]) rfl trivial
   ·simp[hx]
    (with_reducible repeat' first|refine Xk ?_<;>try simp|refine Xs ?_ ?_<;>intro h<;>(try intro h')<;>(try simp[h])<;>(try omega)|refine Xg ?_|omega)
    refine LJ.e (i+1) ?_
    exact⟨by omega,by omega,by omega,l9 (l5▸hx)⟩
  ·simp[e]
   refine Yt (f296 g hg p hp ⟨2,(gt g.clauses i).kind,(gt g.clauses i).n,(gt g.clauses i).out⟩ (by dsimp only;omega) (by dsimp only;omega)) ?_
   simp
   have l5:iV p (gt g.clauses i)=(gt p.cs (gt g.clauses i).n=iG (gt g.clauses i).kind (1-p.side)):=by simp[iV,e]
   by_cases hx:gt p.cs (gt g.clauses i).n=iG (gt g.clauses i).kind (1-p.side)
   ·simp[hx]
    exact Ey.i (gt g.clauses i).out (by simp[EI (l5▸hx)]) rfl trivial
   ·simp[hx]
    (with_reducible repeat' first|refine Xk ?_<;>try simp|refine Xs ?_ ?_<;>intro h<;>(try intro h')<;>(try simp[h])<;>(try omega)|refine Xg ?_|omega)
    refine LJ.e (i+1) ?_
    exact⟨by omega,by omega,by omega,l9 (l5▸hx)⟩
  ·simp[e]
   refine Yt (f297 g hg p hp ⟨3,(gt g.clauses i).kind,(gt g.clauses i).n,(gt g.clauses i).out⟩) ?_
   simp
   have l5:iV p (gt g.clauses i)=(oy p p.side (-1)≤(gt g.clauses i).n):=by simp[iV,e]
   by_cases hx:oy p p.side (-1)≤(gt g.clauses i).n
   ·simp[hx]
    exact Ey.i (gt g.clauses i).out (by simp[EI (l5▸hx)]) rfl trivial
   ·simp[hx]
    (with_reducible repeat' first|refine Xk ?_<;>try simp|refine Xs ?_ ?_<;>intro h<;>(try intro h')<;>(try simp[h])<;>(try omega)|refine Xg ?_|omega)
    refine LJ.e (i+1) ?_
    exact⟨by omega,by omega,by omega,l9 (l5▸hx)⟩
 ·simp[hi]
  have:¬ ended g p:=fun⟨c,hc,h⟩=>i2 c (by rw[jg (by omega)];exact hc) h
  exact Ey.i 0 (by simp[this]) rfl trivial
