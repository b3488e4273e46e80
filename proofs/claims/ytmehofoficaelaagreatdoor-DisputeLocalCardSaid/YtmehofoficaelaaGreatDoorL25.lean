/- Part 25 of DisputeLocal. -/
import Derived.Test.YtmehofoficaelaaGreatDoorL23
set_option linter.all false
namespace Go.AL
open Go
@[simp] theorem ap6(n v:Nat):lr n (.iA v)=decide (v<n):=rfl
@[simp] theorem ap9(n v:Nat):ny n (.iA v)=decide (v<n):=rfl
@[simp] theorem ap1(n:Nat)(cs:List D):lr n (.fj cs)=cs.all (ny n):=rfl
@[simp] theorem aoA(n:Nat):su n .kJ=true:=rfl
@[simp] theorem aoC(n rf:Nat)(e:Env)(st:qp):su n (.gL rf e st)=e.all fun x=>lr n x.2:=rfl
theorem Rp{n m:Nat}(h:n≤m):iF n (List.range' n (m-n))=iF m []:=by
 unfold iF
 rw[List.map_nil,aA,← List.map_append,cY,cY]
 congr 1
 have:=List.range'_append (s:=0) (m:=n) (n:=m-n) (step:=1)
 simp only[Nat.one_mul,aR]at this
 rw[this];congr 1;omega
def Vj{n:Nat}{live:List Nat}{env:Env}{H:U}{r:Bool}(gi:n≤H.length)(he:((forget live env).all fun p=>lr n p.2)=true)
  (hr:dedup (((H.take n).map (oo n)).flatten.filter (· < H.length))=List.range' n (H.length-n)) (hH:qM H.length H):cut n live { env:=env,H:=H,marks:=[],gZ:=r } = { env:=forget live env,H:=H,marks:=[],gZ:=r }:=by
 by_cases h:H.length≤n∨yf live=true
 ·unfold cut
  dsimp only
  rw[if_pos h]
 ·unfold cut
  dsimp only
  rw[if_neg h]
  have e1:((forget live env).map fun p=>iH n p.2).flatten = []:=flatten_nil fun p hp=>I9 (ar.1 he p hp)
  rw[e1,List.filter_nil,aA,bO,hr,Rp gi]
  have e2:=MR (n:=H.length) (H:=H) (G:=[]) rfl hH
  rw[aA]at e2
  rw[e2]
  congr 1
  conv=>rhs;rw[← aY (forget live env)]
  exact au fun p hp=>by
   rw[Dg (n:=n) (fun u hu=>C9 (by omega)) (ar.1 he p hp)];rfl
def ZO{n:Nat}{H:U}{d:D}(gi:n≤H.length)(hd:lr n d=true)
  (hr:dedup (((H.take n).map (oo n)).flatten.filter (· < H.length))=List.range' n (H.length-n)) (hH:qM H.length H):leave 0 n H d=(d,H):=by
 by_cases h:H.length≤n
 ·exact ZL h 0
 ·unfold leave
  rw[if_neg (by omega)]
  simp only[bO]
  rw[hr,Rp gi]
  have e2:=MR (n:=H.length) (H:=H) (G:=[]) rfl hH
  rw[aA]at e2
  rw[e2,Dg (n:=n) (fun u hu=>C9 (by omega)) hd]
def IS:Option Nat→D
 | some v'=>.iA v'
 | none=>.any
@[simp] theorem apK(v:Nat):IS (some v) = .iA v:=rfl
@[simp] theorem apJ:IS none = .any:=rfl
@[simp] theorem apX(ρ:Nat→Option Nat)(H:U)(k v:Nat):e7 ρ H (k+1) (.iA v)=IS (ρ v):=by
 rw[e7,if_neg (by simp[closed])]
 unfold IS;rfl
@[simp] theorem akV(l:List fV):closed (dN 6 fV.cells l)=true:=w6 (fun a=>by simp[fE]) l
end Go.AL
namespace Go.Proofs.YtmehofoficaelaaGreatDoor
open Go Go.AL Classical
set_option maxRecDepth 10000
set_option maxHeartbeats 4000000
def J0{a b:List Int}(hl:a.length=b.length)(h:∀ k:Int,0≤k→k<a.length→gt a k=gt b k):a=b:=
 ct hl fun i h1 h2=>by
  have:=h i (by omega) (by omega)
  simpa[gt,h1,h2]using this
noncomputable def oB(cs:List Int)(side:Int)(K:Nat):List Int:=(upto K).map fun k=>(cs.countP fun c=>decide (kQ side k c):Nat)
@[simp] theorem alb(cs:List Int)(side:Int)(K:Nat):(oB cs side K).length=K:=by simp[oB,upto]
theorem vq{cs:List Int}{side:Int}{K:Nat}{k:Int}(h0:0≤k)(h:k<K):gt (oB cs side K) k=(cs.countP fun c=>decide (kQ side k c):Nat):=by
 have h1:k.toNat<K:=by omega
 simp[oB,upto,gt,h1,bN h0]
def U8{cs:List Int}{side:Int}{K:Nat}{c:Int}(hc:0<c∧c≤12)(hK:(c-1) / 2<K)(hs:(c-1) % 2=side):pt (oB cs side K) ((c-1) / 2) (gt (oB cs side K) ((c-1) / 2)+1)=oB (cs ++ [c]) side K:=by
 have h0:0≤(c-1) / 2:=by omega
 have hl:=il (l:=oB cs side K) (n:=(c-1) / 2) (v:=gt (oB cs side K) ((c-1) / 2)+1) h0 (by simpa using hK)
 refine J0 (by rw[hl];simp) fun k k0 k1=>?_
 rw[hl]at k1
 simp at k1
 have hm:fF c=(c-1) / 2∧jo c=side:=by unfold fF jo;rw[if_pos (by omega),if_pos (by omega)];exact⟨rfl,hs⟩
 rw[qv h0 (by simpa using hK) k0,vq (cs:=cs ++ [c]) k0 k1,cy]
 simp only[cj,List.countP_nil,kQ,hm.1,hm.2]
 split
 ·rename_i e
  subst e
  rw[vq h0 hK]
  simp[h0,kQ]
 ·rename_i e
  rw[vq k0 k1]
  simp[kQ]
  rw[if_neg (by omega)]
  simp
def OZ{cs:List Int}{side:Int}{K:Nat}{c:Int}(h:c≤0∨(c-1) % 2≠side):oB cs side K=oB (cs ++ [c]) side K:=by
 refine J0 (by simp) fun k k0 k1=>?_
 simp at k1
 rw[vq k0 k1,vq k0 k1,cy]
 simp only[cj,List.countP_nil,kQ]
 have:¬ (0≤fF c∧jo c=side∧(k<0∨fF c=k)):=by
  unfold fF jo
  split
  ·omega
  ·omega
 simp[this]
def U9(side:Int)(K:Nat):oB [] side K=List.replicate K 0:=by
 refine J0 (by simp) fun k k0 k1=>?_
 simp at k1
 rw[vq k0 k1]
 have:k.toNat<K:=by omega
 simp[gt,this]
def f295(g:eY)(hg:gh g)(p:Pos)(hp:gG g p)(side:Int)(hs:0≤side∧side≤1):Wf T 365 [dG g,dP p,.i side] [] (Is (dI (oB p.cs side g.kinds.length))):=by
 have hz:=hp.size
 have hb:=hg.iY.size
 have hk:=hg.kinds
 refine Yg FF ?_
 simp[FF]
 (with_reducible repeat' first|refine Xk ?_<;>try simp|refine Xs ?_ ?_<;>intro h<;>(try intro h')<;>(try simp[h])<;>try omega|refine Xg ?_|omega)
 refine fh.e ((0,List.replicate g.kinds.length 0):Int×List Int) (fun y=>[(2,.i side),(7,.eX 2 0 1 0 g.kinds.length),(15,dI p.cs),(16,.i p.cs.length),(17,.i y.1)]) (fun y=>[.row 43 0 g.cells,.row 46 0 p.cells,.row 3 0 (cl f1 y.2)]) (fun y=>0≤y.1∧y.1≤p.cs.length∧y.2=oB (p.cs.take y.1.toNat) side g.kinds.length) (fun y=>(p.cs.length-y.1).toNat) ?_ ?_
 ·simp[U9]
 rintro⟨i,cn⟩ ⟨i0,i1,i2⟩
 dsimp only at i0 i1 i2 ⊢
 have gj:cn.length=g.kinds.length:=by rw[i2];simp
 by_cases hi:i<p.cs.length
 ·have hc:=hp.cs _ (ft i0 hi)
  have hT:=iD i0 hi
  have hr:=jT (a:=gt p.cs i-1) (b:=2)
  by_cases jQ:0<gt p.cs i
  ·have hr:=hr (by omega)
   have hq:=uO (a:=gt p.cs i-1) (b:=2) (by omega) (by omega) (by omega)
   by_cases iE:(gt p.cs i-1) % 2=side
   ·have KB:gt cn ((gt p.cs i-1) / 2)≤9∧0≤gt cn ((gt p.cs i-1) / 2):=by
     rw[i2,vq (by omega) (by omega)]
     have:=cW (p:=fun c=>decide (kQ side ((gt p.cs i-1) / 2) c)) (l:=p.cs.take i.toNat)
     rw[aI]at this
     omega
    simp[hi,jQ,hr,hq,iE]
    (with_reducible repeat' first|refine Xk ?_<;>try simp[hr,hq,iE]|refine Xs ?_ ?_<;>intro h<;>(try intro h')<;>(try simp[h,hr,hq,iE])<;>try omega|refine Xg ?_|omega)
    refine LJ.e (i+1,pt cn ((gt p.cs i-1) / 2) (gt cn ((gt p.cs i-1) / 2)+1)) ?_
    refine fQ ?_
    dsimp only
    rw[hT,i2]
    exact U8 (by omega) (by omega) iE
   ·simp[hi,jQ,hr,iE]
    (with_reducible repeat' first|refine Xk ?_<;>try simp[hr,iE]|refine Xs ?_ ?_<;>intro h<;>(try intro h')<;>(try simp[h,hr,iE])<;>try omega|refine Xg ?_|omega)
    refine LJ.e (i+1,cn) ?_
    refine fQ ?_
    dsimp only
    rw[hT,i2]
    exact OZ (.inr iE)
  ·simp[hi,jQ]
   (with_reducible repeat' first|refine Xk ?_<;>try simp|refine Xs ?_ ?_<;>intro h<;>(try intro h')<;>(try simp[h])<;>try omega|refine Xg ?_|omega)
   refine LJ.e (i+1,cn) ?_
   refine fQ ?_
   dsimp only
   rw[hT,i2]
   exact OZ (by omega)
 ·simp[hi]
  rw[i2,ky (by omega),sY (by simp)]
  rfl
theorem O0{side:Int}{K:Int}(hK:1≤K∧K≤2):∀ {cs:List Int},(∀ c∈cs,0≤c∧c≤2*K)→(cs.countP fun c=>decide (kQ side (-1) c))=(cs.countP fun c=>decide (kQ side 0 c))+(if K=2 then cs.countP fun c=>decide (kQ side 1 c)else 0)
 | [],_=>by simp
 | c::cs,h=>by
  have hc:=h c (by simp)
  have ih:=O0 (side:=side) hK (cs:=cs) fun x hx=>h x (by simp[hx])
  simp only[cj,ih]
  have e:(if decide (kQ side (-1) c)=true then 1 else 0)=(if decide (kQ side 0 c)=true then 1 else 0)+(if K=2 then(if decide (kQ side 1 c)=true then 1 else 0)else 0):=by
   unfold kQ
   simp only[decide_eq_true_eq]
   by_cases h1:1≤c∧c≤12
   ·have:fF c=(c-1) / 2:=by unfold fF;rw[if_pos h1]
    rw[this]
    by_cases hs:jo c=side
    ·simp only[hs,true_and]
     by_cases h0:(c-1) / 2=0
     ·rw[if_pos (by omega),if_pos (by omega)]
      by_cases kL:K=2
      ·rw[if_pos kL,if_neg (by omega)]
      ·rw[if_neg kL]
     ·rw[if_pos (by omega),if_neg (by omega),if_pos (by omega),if_pos (by omega)]
    ·simp[hs]
   ·have:fF c = -1:=by unfold fF;rw[if_neg h1]
    simp[this]
  rw[e]
  split<;>omega
def f294(g:eY)(hg:gh g)(p:Pos)(hp:gG g p)(c:Clause)(hc:0≤c.kind∧c.kind<g.kinds.length):Wf T 364 [dG g,dP p,.agg c.cells] [] (Is (.b (decide (pO p p.side c.kind=0)))):=by
 have hs:=hp.side
 refine Yg FE ?_
 simp[FE]
 refine Yt (f295 g hg p hp p.side hs) ?_
 simp
 simp[vq hc.1 hc.2,← Md]
 (with_reducible repeat' first|refine Xk ?_<;>try simp|refine Xs ?_ ?_<;>intro h<;>(try intro h')<;>(try simp[h])<;>try omega|refine Xg ?_|omega)
def f296(g:eY)(hg:gh g)(p:Pos)(hp:gG g p)(c:Clause)(hc:0≤c.kind∧c.kind<g.kinds.length)(hn:0≤c.n∧c.n<g.size):Wf T 366 [dG g,dP p,.agg c.cells] [] (Is (.b (decide (gt p.cs c.n=kO c.kind (1-p.side))))):=by
 have hs:=hp.side
 have hz:=hp.size
 have hk:=hg.kinds
 refine Yg FG ?_
 simp[FG]
 (with_reducible repeat' first|refine Xk ?_<;>try simp|refine Xs ?_ ?_<;>intro h<;>(try intro h')<;>(try simp[h])<;>try omega|refine Xg ?_|omega)
 refine Yt (f92 (k:=c.kind) (s:=1-p.side) (by omega) (by omega) (by omega) (by omega)) ?_
 simp
 simp[kO]
def U6(cs:List Int)(side:Int):oB cs side 1 = [((cs.countP fun c=>decide (kQ side 0 c):Nat):Int)]:=by
 simp[oB,upto,List.range,List.range.loop]
def U7(cs:List Int)(side:Int):oB cs side 2 = [((cs.countP fun c=>decide (kQ side 0 c):Nat):Int),(cs.countP fun c=>decide (kQ side 1 c):Nat)]:=by
 simp[oB,upto,List.range,List.range.loop]
def f297(g:eY)(hg:gh g)(p:Pos)(hp:gG g p)(c:Clause):Wf T 367 [dG g,dP p,.agg c.cells] [] (Is (.b (decide (pO p p.side (-1)≤c.n)))):=by
 have hs:=hp.side
 have hz:=hp.size
 have hb:=hg.iY.size
 have hk:=hg.kinds
 have ha:=O0 (side:=p.side) (K:=g.kinds.length) (by omega) (cs:=p.cs) hp.cs
 have l0:=cW (p:=fun c=>decide (kQ p.side 0 c)) (l:=p.cs)
 have l1:=cW (p:=fun c=>decide (kQ p.side 1 c)) (l:=p.cs)
 rw[Md,ha]
 refine Yg FH ?_
 simp[FH]
 refine Yc (f295 g hg p hp p.side hs) ?_
 simp
 rcases(show g.kinds.length=1∨g.kinds.length=2 by omega)with e|e
 ·rw[e,U6]
  simp
  generalize (p.cs.countP fun c=>decide (kQ p.side 0 c))=n0 at *
  have g0:gt [(n0:Int)] 0=n0:=rfl
  refine fh.un ?_
  refine kS.u ?_
  simp[g0]
  (with_reducible repeat' first|refine Xk ?_<;>try simp[g0]|refine Xs ?_ ?_<;>intro h<;>(try intro h')<;>(try simp[h,g0])<;>try omega|refine Xg ?_|omega)
  refine kS.u ?_
  simp[g0]
 ·rw[e,U7]
  simp
  generalize (p.cs.countP fun c=>decide (kQ p.side 0 c))=n0 at *
  generalize (p.cs.countP fun c=>decide (kQ p.side 1 c))=n1 at *
  have g0:gt [(n0:Int),n1] 0=n0:=rfl
  have g1:gt [(n0:Int),n1] 1=n1:=rfl
  refine fh.un ?_
  refine kS.u ?_
  simp[g0]
  (with_reducible repeat' first|refine Xk ?_<;>try simp[g0]|refine Xs ?_ ?_<;>intro h<;>(try intro h')<;>(try simp[h,g0])<;>try omega|refine Xg ?_|omega)
  refine kS.u ?_
  simp[g1]
  (with_reducible repeat' first|refine Xk ?_<;>try simp[g1]|refine Xs ?_ ?_<;>intro h<;>(try intro h')<;>(try simp[h,g1])<;>try omega|refine Xg ?_|omega)
  refine kS.u ?_
  simp[g1]
def f46(g:eY)(hg:gh g)(p:Pos)(hp:gG g p):Wf T 113 [dG g,dP p] [] (Ey (fun n:Int=>.tup [.i n,.b (decide (ended g p))]) fun _=>True):=by
 have gj:=hg.clauses
 refine Yg yT ?_
 simp[yT]
 refine fh.e (0:Int) (fun y=>[(2,.ptr 0 0 0),(3,.ptr 1 0 0),(9,dN 4 Clause.cells g.clauses),(10,.i g.clauses.length),(11,.i y)]) (fun y=>[.row 43 0 g.cells,.row 46 0 p.cells]) (fun y=>0≤y∧y≤g.clauses.length∧∀ c∈g.clauses.take y.toNat,¬ ke p c) (fun y=>(g.clauses.length-y).toNat) ?_ ?_
 ·simp
 rintro i ⟨i0,i1,i2⟩
 by_cases hi:i<g.clauses.length
 ·have hm:=ft i0 hi
  have hc:=hg.clause _ hm
  have ho:=hc.ok
  have Hv:ke p (gt g.clauses i)→decide (ended g p)=true:=fun h=>decide_eq_true ⟨_,hm,h⟩
  have mu:¬ ke p (gt g.clauses i)→∀ c∈g.clauses.take (i+1).toNat,¬ ke p c:=fun h c hc=>by
   rw[iD i0 hi]at hc
   rcases List.mem_append.1 hc with hc|hc
   ·exact i2 c hc
   ·rw[List.mem_singleton.1 hc];exact h
  simp[hi]
  (with_reducible repeat' first|refine Xk ?_<;>try simp|refine Xs ?_ ?_<;>intro h<;>(try intro h')<;>(try simp[h])<;>try omega|refine Xg ?_|omega)
  rcases(show(gt g.clauses i).cond=1∨(gt g.clauses i).cond=2∨(gt g.clauses i).cond=3 by omega)with e|e|e
  ·simp[e]
   refine Yt (f294 g hg p hp ⟨1,(gt g.clauses i).kind,(gt g.clauses i).n,(gt g.clauses i).out⟩ (by dsimp only;omega)) ?_
   simp
   have nP:ke p (gt g.clauses i)=(pO p p.side (gt g.clauses i).kind=0):=by simp[ke,e]
   by_cases hx:pO p p.side (gt g.clauses i).kind=0
   ·simp[hx]
    exact Ey.i (gt g.clauses i).out (by simp[Hv (nP▸hx)]) rfl trivial
   ·simp[hx]
    (with_reducible repeat' first|refine Xk ?_<;>try simp|refine Xs ?_ ?_<;>intro h<;>(try intro h')<;>(try simp[h])<;>try omega|refine Xg ?_|omega)
    refine LJ.e (i+1) ?_
    exact fQ (mu (nP▸hx))
  ·simp[e]
   refine Yt (f296 g hg p hp ⟨2,(gt g.clauses i).kind,(gt g.clauses i).n,(gt g.clauses i).out⟩ (by dsimp only;omega) (by dsimp only;omega)) ?_
   simp
   have nP:ke p (gt g.clauses i)=(gt p.cs (gt g.clauses i).n=kO (gt g.clauses i).kind (1-p.side)):=by simp[ke,e]
   by_cases hx:gt p.cs (gt g.clauses i).n=kO (gt g.clauses i).kind (1-p.side)
   ·simp[hx]
    exact Ey.i (gt g.clauses i).out (by simp[Hv (nP▸hx)]) rfl trivial
   ·simp[hx]
    (with_reducible repeat' first|refine Xk ?_<;>try simp|refine Xs ?_ ?_<;>intro h<;>(try intro h')<;>(try simp[h])<;>try omega|refine Xg ?_|omega)
    refine LJ.e (i+1) ?_
    exact fQ (mu (nP▸hx))
  ·simp[e]
   refine Yt (f297 g hg p hp ⟨3,(gt g.clauses i).kind,(gt g.clauses i).n,(gt g.clauses i).out⟩) ?_
   simp
   have nP:ke p (gt g.clauses i)=(pO p p.side (-1)≤(gt g.clauses i).n):=by simp[ke,e]
   by_cases hx:pO p p.side (-1)≤(gt g.clauses i).n
   ·simp[hx]
    exact Ey.i (gt g.clauses i).out (by simp[Hv (nP▸hx)]) rfl trivial
   ·simp[hx]
    (with_reducible repeat' first|refine Xk ?_<;>try simp|refine Xs ?_ ?_<;>intro h<;>(try intro h')<;>(try simp[h])<;>try omega|refine Xg ?_|omega)
    refine LJ.e (i+1) ?_
    exact fQ (mu (nP▸hx))
 ·simp[hi]
  have:¬ ended g p:=fun⟨c,hc,h⟩=>i2 c (by rw[ky (by omega)];exact hc) h
  exact Ey.i 0 (by simp[this]) rfl trivial
