/- 22 -/
import Derived.Test.YtnaefnajkaohgaaGreatDoorH20
set_option linter.all false
namespace Go.AL
open Go
@[simp] theorem apY(n v:Nat):lh n (.ic v)=decide (v<n):=rfl
@[simp] theorem aoo(n:Nat):sI n .jZ=true:=rfl
@[simp] theorem aor(n rf:Nat)(e:Env)(st:qb):sI n (.gu rf e st)=e.all fun x=>lh n x.2:=rfl
theorem Q2{n m:Nat}(h:n≤m):ij n (List.range' n (m-n))=ij m []:=by
 unfold ij
 rw[List.map_nil,aw,← List.map_append,cj,cj]
 congr 1
 have:=List.range'_append (s:=0) (m:=n) (n:=m-n) (step:=1)
 simp only[Nat.one_mul,aU]at this
 rw[this];congr 1;omega
def UT{n:Nat}{live:List Nat}{env:Env}{H:U}{r:Bool}(fq:n≤H.length)(he:((forget live env).all fun p=>lh n p.2)=true)
  (hr:dedup (((H.take n).map (mT n)).flatten.filter (· < H.length))=List.range' n (H.length-n)) (hH:q8 H.length H):cut n live { env:=env,H:=H,marks:=[],fW:=r } = { env:=forget live env,H:=H,marks:=[],fW:=r }:=by
 by_cases h:H.length≤n
 ·exact By h
 ·unfold cut
  dsimp only
  rw[if_neg h]
  have e1:((forget live env).map fun p=>gW n p.2).flatten = []:=flatten_nil fun p hp=>Jv (aq.1 he p hp)
  rw[e1,cO,aw,bt,hr,Q2 fq]
  have e2:=MR (n:=H.length) (H:=H) (G:=[]) rfl hH
  rw[aw]at e2
  rw[e2]
  congr 1
  conv=>rhs;rw[← aQ (forget live env)]
  exact aj fun p hp=>by
   rw[Dm (n:=n) (fun u hu=>De (by omega)) (aq.1 he p hp)];rfl
def Z8{n:Nat}{H:U}{d:D}(fq:n≤H.length)(hd:lh n d=true)
  (hr:dedup (((H.take n).map (mT n)).flatten.filter (· < H.length))=List.range' n (H.length-n)) (hH:q8 H.length H):leave 0 n H d=(d,H):=by
 by_cases h:H.length≤n
 ·exact Z6 h 0
 ·unfold leave
  rw[if_neg h]
  simp only[bt]
  rw[hr,Q2 fq]
  have e2:=MR (n:=H.length) (H:=H) (G:=[]) rfl hH
  rw[aw]at e2
  rw[e2,Dm (n:=n) (fun u hu=>De (by omega)) hd]
def Je:Option Nat→D
 | some v'=>.ic v'
 | none=>.any
@[simp] theorem apB(v:Nat):Je (some v) = .ic v:=rfl
@[simp] theorem apP(ρ:Nat→Option Nat)(H:U)(k v:Nat):eP ρ H (k+1) (.ic v)=Je (ρ v):=by
 rw[eP,if_neg (by simp[closed])]
 unfold Je;rfl
@[simp] theorem akP(l:List fD):closed (dN 6 fD.cells l)=true:=xb (fun a=>by simp[fu]) l
end Go.AL
namespace Go.Proofs.YtnaefnajkaohgaaGreatDoor
open Go Go.AL Classical
set_option maxRecDepth 10000
set_option maxHeartbeats 4000000
def BF{a b:List Int}(hl:a.length=b.length)(h:∀ k:Int,0≤k→k<a.length→gt a k=gt b k):a=b:=
 List.ext_getElem hl fun i h1 h2=>by
  have:=h i (by omega) (by omega)
  simpa[gt,h1,h2]using this
noncomputable def oB(cs:List Int)(side:Int)(K:Nat):List Int:=(upto K).map fun k=>(cs.countP fun c=>decide (kJ side k c):Nat)
@[simp] theorem ak6(cs:List Int)(side:Int)(K:Nat):(oB cs side K).length=K:=by simp[oB,upto]
theorem vF{cs:List Int}{side:Int}{K:Nat}{k:Int}(h0:0≤k)(h:k<K):gt (oB cs side K) k=(cs.countP fun c=>decide (kJ side k c):Nat):=by
 have h1:k.toNat<K:=by omega
 simp[oB,upto,gt,h1,cr h0]
def UH{cs:List Int}{side:Int}{K:Nat}{c:Int}(hc:0<c∧c≤12)(hK:(c-1) / 2<K)(hs:(c-1) % 2=side):pt (oB cs side K) ((c-1) / 2) (gt (oB cs side K) ((c-1) / 2)+1)=oB (cs ++ [c]) side K:=by
 have h0:0≤(c-1) / 2:=by omega
 have hl:=gN (l:=oB cs side K) (n:=(c-1) / 2) (v:=gt (oB cs side K) ((c-1) / 2)+1) h0 (by simpa using hK)
 refine BF (by rw[hl];simp) fun k k0 k1=>?_
 rw[hl]at k1
 simp at k1
 have hm:fm c=(c-1) / 2∧iU c=side:=by unfold fm iU;rw[if_pos (by omega),if_pos (by omega)];exact⟨rfl,hs⟩
 rw[pz h0 (by simpa using hK) k0,vF (cs:=cs ++ [c]) k0 k1,cy]
 simp only[cu,List.countP_nil,kJ,hm.1,hm.2]
 split
 ·rename_i e
  subst e
  rw[vF h0 hK]
  simp[h0,kJ]
 ·rename_i e
  rw[vF k0 k1]
  simp[kJ]
  rw[if_neg (by omega)]
  simp
def Oz{cs:List Int}{side:Int}{K:Nat}{c:Int}(h:c≤0∨(c-1) % 2≠side):oB cs side K=oB (cs ++ [c]) side K:=by
 refine BF (by simp) fun k k0 k1=>?_
 simp at k1
 rw[vF k0 k1,vF k0 k1,cy]
 simp only[cu,List.countP_nil,kJ]
 have:¬ (0≤fm c∧iU c=side∧(k<0∨fm c=k)):=by
  unfold fm iU
  split
  ·omega
  ·omega
 simp[this]
def UI(side:Int)(K:Nat):oB [] side K=List.replicate K 0:=by
 refine BF (by simp) fun k k0 k1=>?_
 simp at k1
 rw[vF k0 k1]
 have:k.toNat<K:=by omega
 simp[gt,this]
def f295(g:eH)(hg:fe g)(p:Pos)(hp:fO g p)(side:Int)(hs:0≤side∧side≤1):Wf T 295 [dG g,dP p,.i side] [] (Is (dI (oB p.cs side g.kinds.length))):=by
 have hz:=hp.size
 have hb:=hg.iw.size
 have hk:=hg.kinds
 refine Yg Fw ?_
 simp[Fw]
 (with_reducible repeat' first|refine Xk ?_<;>try simp|refine Xs ?_ ?_<;>intro h<;>(try intro h')<;>(try simp[h])<;>try omega|refine Xg ?_|omega)
 refine eN.e ((0,List.replicate g.kinds.length 0):Int×List Int) (fun y=>[(2,.i side),(7,.eF 2 0 1 0 g.kinds.length),(15,dI p.cs),(16,.i p.cs.length),(17,.i y.1)]) (fun y=>[.row 41 0 g.cells,.row 44 0 p.cells,.row 3 0 (cl f1 y.2)]) (fun y=>0≤y.1∧y.1≤p.cs.length∧y.2=oB (p.cs.take y.1.toNat) side g.kinds.length) (fun y=>(p.cs.length-y.1).toNat) ?_ ?_
 ·simp[UI]
 rintro⟨i,cn⟩ ⟨i0,i1,i2⟩
 dsimp only at i0 i1 i2 ⊢
 have fM:cn.length=g.kinds.length:=by rw[i2];simp
 by_cases hi:i<p.cs.length
 ·have hc:=hp.cs _ (eQ i0 hi)
  have hT:=gx i0 hi
  have hr:=kC (a:=gt p.cs i-1) (b:=2)
  by_cases jm:0<gt p.cs i
  ·have hr:=hr (by omega)
   have hq:=Ah (a:=gt p.cs i-1) (b:=2) (by omega) (by omega) (by omega)
   by_cases ik:(gt p.cs i-1) % 2=side
   ·have HD:gt cn ((gt p.cs i-1) / 2)≤9∧0≤gt cn ((gt p.cs i-1) / 2):=by
     rw[i2,vF (by omega) (by omega)]
     have:=cW (p:=fun c=>decide (kJ side ((gt p.cs i-1) / 2) c)) (l:=p.cs.take i.toNat)
     rw[aT]at this
     omega
    simp[hi,jm,hr,hq,ik]
    (with_reducible repeat' first|refine Xk ?_<;>try simp[hr,hq,ik]|refine Xs ?_ ?_<;>intro h<;>(try intro h')<;>(try simp[h,hr,hq,ik])<;>try omega|refine Xg ?_|omega)
    refine LJ.e (i+1,pt cn ((gt p.cs i-1) / 2) (gt cn ((gt p.cs i-1) / 2)+1)) ?_
    refine eY ?_
    dsimp only
    rw[hT,i2]
    exact UH (by omega) (by omega) ik
   ·simp[hi,jm,hr,ik]
    (with_reducible repeat' first|refine Xk ?_<;>try simp[hr,ik]|refine Xs ?_ ?_<;>intro h<;>(try intro h')<;>(try simp[h,hr,ik])<;>try omega|refine Xg ?_|omega)
    refine LJ.e (i+1,cn) ?_
    refine eY ?_
    dsimp only
    rw[hT,i2]
    exact Oz (.inr ik)
  ·simp[hi,jm]
   (with_reducible repeat' first|refine Xk ?_<;>try simp|refine Xs ?_ ?_<;>intro h<;>(try intro h')<;>(try simp[h])<;>try omega|refine Xg ?_|omega)
   refine LJ.e (i+1,cn) ?_
   refine eY ?_
   dsimp only
   rw[hT,i2]
   exact Oz (by omega)
 ·simp[hi]
  rw[i2,jh (by omega),py (by simp)]
  rfl
theorem OA{side:Int}{K:Int}(hK:1≤K∧K≤2):∀ {cs:List Int},(∀ c∈cs,0≤c∧c≤2*K)→(cs.countP fun c=>decide (kJ side (-1) c))=(cs.countP fun c=>decide (kJ side 0 c))+(if K=2 then cs.countP fun c=>decide (kJ side 1 c)else 0)
 | [],_=>by simp
 | c::cs,h=>by
  have hc:=h c (by simp)
  have ih:=OA (side:=side) hK (cs:=cs) fun x hx=>h x (by simp[hx])
  simp only[cu,ih]
  have e:(if decide (kJ side (-1) c)=true then 1 else 0)=(if decide (kJ side 0 c)=true then 1 else 0)+(if K=2 then(if decide (kJ side 1 c)=true then 1 else 0)else 0):=by
   unfold kJ
   simp only[decide_eq_true_eq]
   by_cases h1:1≤c∧c≤12
   ·have:fm c=(c-1) / 2:=by unfold fm;rw[if_pos h1]
    rw[this]
    by_cases hs:iU c=side
    ·simp only[hs,true_and]
     by_cases h0:(c-1) / 2=0
     ·rw[if_pos (by omega),if_pos (by omega)]
      by_cases kH:K=2
      ·rw[if_pos kH,if_neg (by omega)]
      ·rw[if_neg kH]
     ·rw[if_pos (by omega),if_neg (by omega),if_pos (by omega),if_pos (by omega)]
    ·simp[hs]
   ·have:fm c = -1:=by unfold fm;rw[if_neg h1]
    simp[this]
  rw[e]
  split<;>omega
def f294(g:eH)(hg:fe g)(p:Pos)(hp:fO g p)(c:Clause)(hc:0≤c.kind∧c.kind<g.kinds.length):Wf T 294 [dG g,dP p,.agg c.cells] [] (Is (.b (decide (pZ p p.side c.kind=0)))):=by
 have hs:=hp.side
 refine Yg Fv ?_
 simp[Fv]
 refine Yt (f295 g hg p hp p.side hs) ?_
 simp
 simp[vF hc.1 hc.2,← Mk]
 (with_reducible repeat' first|refine Xk ?_<;>try simp|refine Xs ?_ ?_<;>intro h<;>(try intro h')<;>(try simp[h])<;>try omega|refine Xg ?_|omega)
def f296(g:eH)(hg:fe g)(p:Pos)(hp:fO g p)(c:Clause)(hc:0≤c.kind∧c.kind<g.kinds.length)(hn:0≤c.n∧c.n<g.size):Wf T 296 [dG g,dP p,.agg c.cells] [] (Is (.b (decide (gt p.cs c.n=kF c.kind (1-p.side))))):=by
 have hs:=hp.side
 have hz:=hp.size
 have hk:=hg.kinds
 refine Yg Fx ?_
 simp[Fx]
 (with_reducible repeat' first|refine Xk ?_<;>try simp|refine Xs ?_ ?_<;>intro h<;>(try intro h')<;>(try simp[h])<;>try omega|refine Xg ?_|omega)
 refine Yt (f92 (k:=c.kind) (s:=1-p.side) (by omega) (by omega) (by omega) (by omega)) ?_
 simp
 simp[kF]
def UF(cs:List Int)(side:Int):oB cs side 1 = [((cs.countP fun c=>decide (kJ side 0 c):Nat):Int)]:=by
 simp[oB,upto,List.range,List.range.loop]
def UG(cs:List Int)(side:Int):oB cs side 2 = [((cs.countP fun c=>decide (kJ side 0 c):Nat):Int),(cs.countP fun c=>decide (kJ side 1 c):Nat)]:=by
 simp[oB,upto,List.range,List.range.loop]
def f297(g:eH)(hg:fe g)(p:Pos)(hp:fO g p)(c:Clause):Wf T 297 [dG g,dP p,.agg c.cells] [] (Is (.b (decide (pZ p p.side (-1)≤c.n)))):=by
 have hs:=hp.side
 have hz:=hp.size
 have hb:=hg.iw.size
 have hk:=hg.kinds
 have ha:=OA (side:=p.side) (K:=g.kinds.length) (by omega) (cs:=p.cs) hp.cs
 have l0:=cW (p:=fun c=>decide (kJ p.side 0 c)) (l:=p.cs)
 have l1:=cW (p:=fun c=>decide (kJ p.side 1 c)) (l:=p.cs)
 rw[Mk,ha]
 refine Yg Fy ?_
 simp[Fy]
 refine Yc (f295 g hg p hp p.side hs) ?_
 simp
 rcases(show g.kinds.length=1∨g.kinds.length=2 by omega)with e|e
 ·rw[e,UF]
  simp
  generalize (p.cs.countP fun c=>decide (kJ p.side 0 c))=n0 at *
  have g0:gt [(n0:Int)] 0=n0:=rfl
  refine eN.un ?_
  refine iP.u ?_
  simp[g0]
  (with_reducible repeat' first|refine Xk ?_<;>try simp[g0]|refine Xs ?_ ?_<;>intro h<;>(try intro h')<;>(try simp[h,g0])<;>try omega|refine Xg ?_|omega)
  refine iP.u ?_
  simp[g0]
 ·rw[e,UG]
  simp
  generalize (p.cs.countP fun c=>decide (kJ p.side 0 c))=n0 at *
  generalize (p.cs.countP fun c=>decide (kJ p.side 1 c))=n1 at *
  have g0:gt [(n0:Int),n1] 0=n0:=rfl
  have g1:gt [(n0:Int),n1] 1=n1:=rfl
  refine eN.un ?_
  refine iP.u ?_
  simp[g0]
  (with_reducible repeat' first|refine Xk ?_<;>try simp[g0]|refine Xs ?_ ?_<;>intro h<;>(try intro h')<;>(try simp[h,g0])<;>try omega|refine Xg ?_|omega)
  refine iP.u ?_
  simp[g1]
  (with_reducible repeat' first|refine Xk ?_<;>try simp[g1]|refine Xs ?_ ?_<;>intro h<;>(try intro h')<;>(try simp[h,g1])<;>try omega|refine Xg ?_|omega)
  refine iP.u ?_
  simp[g1]
def f46(g:eH)(hg:fe g)(p:Pos)(hp:fO g p):Wf T 46 [dG g,dP p] [] (Ey (fun n:Int=>.tup [.i n,.b (decide (ended g p))]) fun _=>True):=by
 have fM:=hg.clauses
 refine Yg yU ?_
 simp[yU]
 refine eN.e (0:Int) (fun y=>[(2,.ptr 0 0 0),(3,.ptr 1 0 0),(9,dN 4 Clause.cells g.clauses),(10,.i g.clauses.length),(11,.i y)]) (fun y=>[.row 41 0 g.cells,.row 44 0 p.cells]) (fun y=>0≤y∧y≤g.clauses.length∧∀ c∈g.clauses.take y.toNat,¬ jN p c) (fun y=>(g.clauses.length-y).toNat) ?_ ?_
 ·simp
 rintro i ⟨i0,i1,i2⟩
 by_cases hi:i<g.clauses.length
 ·have hm:=eQ i0 hi
  have hc:=hg.clause _ hm
  have ho:=hc.ok
  have HI:jN p (gt g.clauses i)→decide (ended g p)=true:=fun h=>decide_eq_true ⟨_,hm,h⟩
  have kI:¬ jN p (gt g.clauses i)→∀ c∈g.clauses.take (i+1).toNat,¬ jN p c:=fun h c hc=>by
   rw[gx i0 hi]at hc
   rcases List.mem_append.1 hc with hc|hc
   ·exact i2 c hc
   ·rw[List.mem_singleton.1 hc];exact h
  simp[hi]
  (with_reducible repeat' first|refine Xk ?_<;>try simp|refine Xs ?_ ?_<;>intro h<;>(try intro h')<;>(try simp[h])<;>try omega|refine Xg ?_|omega)
  rcases(show(gt g.clauses i).cond=1∨(gt g.clauses i).cond=2∨(gt g.clauses i).cond=3 by omega)with e|e|e
  ·simp[e]
   refine Yt (f294 g hg p hp ⟨1,(gt g.clauses i).kind,(gt g.clauses i).n,(gt g.clauses i).out⟩ (by dsimp only;omega)) ?_
   simp
   have nM:jN p (gt g.clauses i)=(pZ p p.side (gt g.clauses i).kind=0):=by simp[jN,e]
   by_cases hx:pZ p p.side (gt g.clauses i).kind=0
   ·simp[hx]
    exact Ey.i (gt g.clauses i).out (by simp[HI (nM▸hx)]) rfl trivial
   ·simp[hx]
    (with_reducible repeat' first|refine Xk ?_<;>try simp|refine Xs ?_ ?_<;>intro h<;>(try intro h')<;>(try simp[h])<;>try omega|refine Xg ?_|omega)
    refine LJ.e (i+1) ?_
    exact eY (kI (nM▸hx))
  ·simp[e]
   refine Yt (f296 g hg p hp ⟨2,(gt g.clauses i).kind,(gt g.clauses i).n,(gt g.clauses i).out⟩ (by dsimp only;omega) (by dsimp only;omega)) ?_
   simp
   have nM:jN p (gt g.clauses i)=(gt p.cs (gt g.clauses i).n=kF (gt g.clauses i).kind (1-p.side)):=by simp[jN,e]
   by_cases hx:gt p.cs (gt g.clauses i).n=kF (gt g.clauses i).kind (1-p.side)
   ·simp[hx]
    exact Ey.i (gt g.clauses i).out (by simp[HI (nM▸hx)]) rfl trivial
   ·simp[hx]
    (with_reducible repeat' first|refine Xk ?_<;>try simp|refine Xs ?_ ?_<;>intro h<;>(try intro h')<;>(try simp[h])<;>try omega|refine Xg ?_|omega)
    refine LJ.e (i+1) ?_
    exact eY (kI (nM▸hx))
  ·simp[e]
   refine Yt (f297 g hg p hp ⟨3,(gt g.clauses i).kind,(gt g.clauses i).n,(gt g.clauses i).out⟩) ?_
   simp
   have nM:jN p (gt g.clauses i)=(pZ p p.side (-1)≤(gt g.clauses i).n):=by simp[jN,e]
   by_cases hx:pZ p p.side (-1)≤(gt g.clauses i).n
   ·simp[hx]
    exact Ey.i (gt g.clauses i).out (by simp[HI (nM▸hx)]) rfl trivial
   ·simp[hx]
    (with_reducible repeat' first|refine Xk ?_<;>try simp|refine Xs ?_ ?_<;>intro h<;>(try intro h')<;>(try simp[h])<;>try omega|refine Xg ?_|omega)
    refine LJ.e (i+1) ?_
    exact eY (kI (nM▸hx))
 ·simp[hi]
  have:¬ ended g p:=fun⟨c,hc,h⟩=>i2 c (by rw[jh (by omega)];exact hc) h
  exact Ey.i 0 (by simp[this]) rfl trivial
