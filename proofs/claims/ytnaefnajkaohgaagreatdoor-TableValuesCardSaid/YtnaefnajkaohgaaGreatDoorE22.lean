/- Part 22 of the proof of skewer.skewerlaw15.TableValues. -/
import Derived.Test.YtnaefnajkaohgaaGreatDoorE20
import Derived.Test.YtnaefnajkaohgaaGreatDoorE13
import Derived.Test.YtnaefnajkaohgaaGreatDoorE17
set_option linter.all false
namespace Go.AL
open Go
@[simp] theorem anq(n v:Nat):kh n (.gP v)=decide (v<n):=rfl
@[simp] theorem ant(n v:Nat):mn n (.gP v)=decide (v<n):=rfl
@[simp] theorem anl(n:Nat)(cs:List D):kh n (.fh cs)=cs.all (mn n):=rfl
@[simp] theorem alR(n:Nat):qW n .jv=true:=rfl
@[simp] theorem alT(n rf:Nat)(e:Env)(st:oV):qW n (.gg rf e st)=e.all fun x=>kh n x.2:=rfl
theorem O6{n m:Nat}(h:n≤m):gq n (List.range' n (m-n))=gq m []:=by
 unfold gq
 rw[List.map_nil,aw,← List.map_append,cw,cw]
 congr 1
 have:=List.range'_append (s:=0) (m:=n) (n:=m-n) (step:=1)
 simp only[Nat.one_mul,aY]at this
 rw[this];congr 1;omega
theorem SY{n:Nat}{live:List Nat}{env:Env}{H:U}{r:Bool}(ft:n≤H.length)(he:((forget live env).all fun p=>kh n p.2)=true)
  (hr:dedup (((H.take n).map (lU n)).flatten.filter (· < H.length))=List.range' n (H.length-n)) (hH:pQ H.length H):cut n live { env:=env,H:=H,marks:=[],fG:=r } = { env:=forget live env,H:=H,marks:=[],fG:=r }:=by
 by_cases h:H.length≤n
 ·exact xA h
 ·unfold cut
  dsimp only
  rw[if_neg h]
  have e1:((forget live env).map fun p=>gG n p.2).flatten = []:=flatten_nil fun p hp=>Hs (ar.1 he p hp)
  rw[e1,cL,aw,aU,hr,O6 ft]
  have e2:=KS (n:=H.length) (H:=H) (G:=[]) rfl hH
  rw[aw]at e2
  rw[e2]
  congr 1
  conv=>rhs;rw[← aT (forget live env)]
  exact aj fun p hp=>by
   rw[BQ (n:=n) (fun u hu=>BG (by omega)) (ar.1 he p hp)];rfl
theorem XK{n:Nat}{H:U}{d:D}(ft:n≤H.length)(hd:kh n d=true)
  (hr:dedup (((H.take n).map (lU n)).flatten.filter (· < H.length))=List.range' n (H.length-n)) (hH:pQ H.length H):leave 0 n H d=(d,H):=by
 by_cases h:H.length≤n
 ·exact XI h 0
 ·unfold leave
  rw[if_neg h]
  simp only[aU]
  rw[hr,O6 ft]
  have e2:=KS (n:=H.length) (H:=H) (G:=[]) rfl hH
  rw[aw]at e2
  rw[e2,BQ (n:=n) (fun u hu=>BG (by omega)) hd]
def G9:Option Nat→D
 | some v'=>.gP v'
 | none=>.any
@[simp] theorem am3(v:Nat):G9 (some v) = .gP v:=rfl
@[simp] theorem am2:G9 none = .any:=rfl
@[simp] theorem anh(ρ:Nat→Option Nat)(H:U)(k v:Nat):eZ ρ H (k+1) (.gP v)=G9 (ρ v):=by
 rw[eZ,if_neg (by simp[closed])]
 unfold G9;rfl
@[simp] theorem air(l:List fD):closed (dN 6 fD.cells l)=true:=vp (fun a=>by simp[fy]) l
end Go.AL
namespace Go.Proofs.YtnaefnajkaohgaaGreatDoor
open Go Go.AL Classical
set_option maxRecDepth 10000
set_option maxHeartbeats 4000000
theorem Iq{a b:List Int}(hl:a.length=b.length)(h:∀ k:Int,0≤k→k<a.length→gt a k=gt b k):a=b:=
 List.ext_getElem hl fun i h1 h2=>by
  have:=h i (by omega) (by omega)
  simpa[gt,h1,h2]using this
noncomputable def nj(cs:List Int)(side:Int)(K:Nat):List Int:=(upto K).map fun k=>(cs.countP fun c=>decide (jL side k c):Nat)
@[simp] theorem aiJ(cs:List Int)(side:Int)(K:Nat):(nj cs side K).length=K:=by simp[nj,upto]
theorem tT{cs:List Int}{side:Int}{K:Nat}{k:Int}(h0:0≤k)(h:k<K):gt (nj cs side K) k=(cs.countP fun c=>decide (jL side k c):Nat):=by
 have h1:k.toNat<K:=by omega
 simp[nj,upto,gt,h1,cD h0]
theorem SI{cs:List Int}{side:Int}{K:Nat}{c:Int}(hc:0<c∧c≤12)(hK:(c-1) / 2<K)(hs:(c-1) % 2=side):pt (nj cs side K) ((c-1) / 2) (gt (nj cs side K) ((c-1) / 2)+1)=nj (cs ++ [c]) side K:=by
 have h0:0≤(c-1) / 2:=by omega
 have hl:=gI (l:=nj cs side K) (n:=(c-1) / 2) (v:=gt (nj cs side K) ((c-1) / 2)+1) h0 (by simpa using hK)
 refine Iq (by rw[hl];simp) fun k k0 k1=>?_
 rw[hl]at k1
 simp at k1
 have hm:fo c=(c-1) / 2∧iA c=side:=by unfold fo iA;rw[if_pos (by omega),if_pos (by omega)];exact⟨rfl,hs⟩
 rw[mb h0 (by simpa using hK) k0,tT (cs:=cs ++ [c]) k0 k1,dp]
 simp only[bB,List.countP_nil,jL,hm.1,hm.2]
 split
 ·rename_i e
  subst e
  rw[tT h0 hK]
  simp[h0,jL]
 ·rename_i e
  rw[tT k0 k1]
  simp[jL]
  rw[if_neg (by omega)]
  simp
theorem MJ{cs:List Int}{side:Int}{K:Nat}{c:Int}(h:c≤0∨(c-1) % 2≠side):nj cs side K=nj (cs ++ [c]) side K:=by
 refine Iq (by simp) fun k k0 k1=>?_
 simp at k1
 rw[tT k0 k1,tT k0 k1,dp]
 simp only[bB,List.countP_nil,jL]
 have:¬ (0≤fo c∧iA c=side∧(k<0∨fo c=k)):=by
  unfold fo iA
  split
  ·omega
  ·omega
 simp[this]
theorem SJ(side:Int)(K:Nat):nj [] side K=List.replicate K 0:=by
 refine Iq (by simp) fun k k0 k1=>?_
 simp at k1
 rw[tT k0 k1]
 have:k.toNat<K:=by omega
 simp[gt,this]
theorem f295(g:eU)(hg:fr g)(p:Pos)(hp:fR g p)(side:Int)(hs:0≤side∧side≤1):Wf T 295 [dG g,dP p,.i side] [] (Is (dI (nj p.cs side g.kinds.length))):=by
 have hz:=hp.size
 have hb:=hg.ib.size
 have hk:=hg.kinds
 refine Yg DI ?_
 simp[DI]
 (with_reducible repeat' first|refine Xk ?_<;>try simp|refine Xs ?_ ?_<;>intro h<;>(try intro h')<;>(try simp[h])<;>(try omega)|refine Xg ?_|omega)
 refine fe.e ((0,List.replicate g.kinds.length 0):Int×List Int) (fun y=>[(2,.i side),(7,.eT 2 0 1 0 g.kinds.length),(15,dI p.cs),(16,.i p.cs.length),(17,.i y.1)]) (fun y=>[.row 41 0 g.cells,.row 44 0 p.cells,.row 3 0 (cl f1 y.2)]) (fun y=>0≤y.1∧y.1≤p.cs.length∧y.2=nj (p.cs.take y.1.toNat) side g.kinds.length) (fun y=>(p.cs.length-y.1).toNat) ?_ ?_
 ·simp[SJ]
 rintro⟨i,cn⟩ ⟨i0,i1,i2⟩
 dsimp only at i0 i1 i2 ⊢
 have fQ:cn.length=g.kinds.length:=by rw[i2];simp
 by_cases hi:i<p.cs.length
 ·have hc:=hp.cs _ (ff i0 hi)
  have hT:=gE i0 hi
  have hr:=jV (a:=gt p.cs i-1) (b:=2)
  by_cases jr:0<gt p.cs i
  ·have hr:=hr (by omega)
   have hq:=yB (a:=gt p.cs i-1) (b:=2) (by omega) (by omega) (by omega)
   by_cases gH:(gt p.cs i-1) % 2=side
   ·have vM:gt cn ((gt p.cs i-1) / 2)≤9∧0≤gt cn ((gt p.cs i-1) / 2):=by
     rw[i2,tT (by omega) (by omega)]
     have:=cK (p:=fun c=>decide (jL side ((gt p.cs i-1) / 2) c)) (l:=p.cs.take i.toNat)
     rw[aS]at this
     omega
    simp[hi,jr,hr,hq,gH]
    (with_reducible repeat' first|refine Xk ?_<;>try simp[hr,hq,gH]|refine Xs ?_ ?_<;>intro h<;>(try intro h')<;>(try simp[h,hr,hq,gH])<;>(try omega)|refine Xg ?_|omega)
    refine LJ.e (i+1,pt cn ((gt p.cs i-1) / 2) (gt cn ((gt p.cs i-1) / 2)+1)) ?_
    refine⟨by dsimp only;omega,by dsimp only;omega,by dsimp only;omega,?_⟩
    dsimp only
    rw[hT,i2]
    exact SI (by omega) (by omega) gH
   ·simp[hi,jr,hr,gH]
    (with_reducible repeat' first|refine Xk ?_<;>try simp[hr,gH]|refine Xs ?_ ?_<;>intro h<;>(try intro h')<;>(try simp[h,hr,gH])<;>(try omega)|refine Xg ?_|omega)
    refine LJ.e (i+1,cn) ?_
    refine⟨by dsimp only;omega,by dsimp only;omega,by dsimp only;omega,?_⟩
    dsimp only
    rw[hT,i2]
    exact MJ (.inr gH)
  ·simp[hi,jr]
   (with_reducible repeat' first|refine Xk ?_<;>try simp|refine Xs ?_ ?_<;>intro h<;>(try intro h')<;>(try simp[h])<;>(try omega)|refine Xg ?_|omega)
   refine LJ.e (i+1,cn) ?_
   refine⟨by dsimp only;omega,by dsimp only;omega,by dsimp only;omega,?_⟩
   dsimp only
   rw[hT,i2]
   exact MJ (by omega)
 ·simp[hi]
  rw[i2,js (by omega),qF (by simp)]
  rfl
theorem MK{side:Int}{K:Int}(hK:1≤K∧K≤2):∀ {cs:List Int},(∀ c∈cs,0≤c∧c≤2*K)→(cs.countP fun c=>decide (jL side (-1) c))=(cs.countP fun c=>decide (jL side 0 c))+(if K=2 then cs.countP fun c=>decide (jL side 1 c)else 0)
 | [],_=>by simp
 | c::cs,h=>by
  have hc:=h c (by simp)
  have ih:=MK (side:=side) hK (cs:=cs) fun x hx=>h x (by simp[hx])
  simp only[bB,ih]
  have e:(if decide (jL side (-1) c)=true then 1 else 0)=(if decide (jL side 0 c)=true then 1 else 0)+(if K=2 then(if decide (jL side 1 c)=true then 1 else 0)else 0):=by
   unfold jL
   simp only[decide_eq_true_eq]
   by_cases h1:1≤c∧c≤12
   ·have:fo c=(c-1) / 2:=by unfold fo;rw[if_pos h1]
    rw[this]
    by_cases hs:iA c=side
    ·simp only[hs,true_and]
     by_cases h0:(c-1) / 2=0
     ·rw[if_pos (by omega),if_pos (by omega)]
      by_cases ja:K=2
      ·rw[if_pos ja,if_neg (by omega)]
      ·rw[if_neg ja]
     ·rw[if_pos (by omega),if_neg (by omega),if_pos (by omega),if_pos (by omega)]
    ·simp[hs]
   ·have:fo c = -1:=by unfold fo;rw[if_neg h1]
    simp[this]
  rw[e]
  split<;>omega
theorem f294(g:eU)(hg:fr g)(p:Pos)(hp:fR g p)(c:Clause)(hc:0≤c.kind∧c.kind<g.kinds.length):Wf T 294 [dG g,dP p,.agg c.cells] [] (Is (.b (decide (oO p p.side c.kind=0)))):=by
 have hs:=hp.side
 refine Yg DH ?_
 simp[DH]
 refine Yt (f295 g hg p hp p.side hs) ?_
 simp
 simp[tT hc.1 hc.2,← Kj]
 (with_reducible repeat' first|refine Xk ?_<;>try simp|refine Xs ?_ ?_<;>intro h<;>(try intro h')<;>(try simp[h])<;>(try omega)|refine Xg ?_|omega)
theorem f296(g:eU)(hg:fr g)(p:Pos)(hp:fR g p)(c:Clause)(hc:0≤c.kind∧c.kind<g.kinds.length)(hn:0≤c.n∧c.n<g.size):Wf T 296 [dG g,dP p,.agg c.cells] [] (Is (.b (decide (gt p.cs c.n=iS c.kind (1-p.side))))):=by
 have hs:=hp.side
 have hz:=hp.size
 have hk:=hg.kinds
 refine Yg DJ ?_
 simp[DJ]
 (with_reducible repeat' first|refine Xk ?_<;>try simp|refine Xs ?_ ?_<;>intro h<;>(try intro h')<;>(try simp[h])<;>(try omega)|refine Xg ?_|omega)
 refine Yt (f92 (k:=c.kind) (s:=1-p.side) (by omega) (by omega) (by omega) (by omega)) ?_
 simp
 simp[iS]
theorem SG(cs:List Int)(side:Int):nj cs side 1 = [((cs.countP fun c=>decide (jL side 0 c):Nat):Int)]:=by
 simp[nj,upto,List.range,List.range.loop]
theorem SH(cs:List Int)(side:Int):nj cs side 2 = [((cs.countP fun c=>decide (jL side 0 c):Nat):Int),(cs.countP fun c=>decide (jL side 1 c):Nat)]:=by
 simp[nj,upto,List.range,List.range.loop]
theorem f297(g:eU)(hg:fr g)(p:Pos)(hp:fR g p)(c:Clause):Wf T 297 [dG g,dP p,.agg c.cells] [] (Is (.b (decide (oO p p.side (-1)≤c.n)))):=by
 have hs:=hp.side
 have hz:=hp.size
 have hb:=hg.ib.size
 have hk:=hg.kinds
 have ha:=MK (side:=p.side) (K:=g.kinds.length) (by omega) (cs:=p.cs) hp.cs
 have l0:=cK (p:=fun c=>decide (jL p.side 0 c)) (l:=p.cs)
 have l1:=cK (p:=fun c=>decide (jL p.side 1 c)) (l:=p.cs)
 rw[Kj,ha]
 refine Yg DK ?_
 simp[DK]
 refine Yc (f295 g hg p hp p.side hs) ?_
 simp
 rcases(show g.kinds.length=1∨g.kinds.length=2 by omega)with e|e
 ·rw[e,SG]
  simp
  generalize (p.cs.countP fun c=>decide (jL p.side 0 c))=n0 at *
  have g0:gt [(n0:Int)] 0=n0:=rfl
  refine fe.un ?_
  refine iO.u ?_
  simp[g0]
  (with_reducible repeat' first|refine Xk ?_<;>try simp[g0]|refine Xs ?_ ?_<;>intro h<;>(try intro h')<;>(try simp[h,g0])<;>(try omega)|refine Xg ?_|omega)
  refine iO.u ?_
  simp[g0]
 ·rw[e,SH]
  simp
  generalize (p.cs.countP fun c=>decide (jL p.side 0 c))=n0 at *
  generalize (p.cs.countP fun c=>decide (jL p.side 1 c))=n1 at *
  have g0:gt [(n0:Int),n1] 0=n0:=rfl
  have g1:gt [(n0:Int),n1] 1=n1:=rfl
  refine fe.un ?_
  refine iO.u ?_
  simp[g0]
  (with_reducible repeat' first|refine Xk ?_<;>try simp[g0]|refine Xs ?_ ?_<;>intro h<;>(try intro h')<;>(try simp[h,g0])<;>(try omega)|refine Xg ?_|omega)
  refine iO.u ?_
  simp[g1]
  (with_reducible repeat' first|refine Xk ?_<;>try simp[g1]|refine Xs ?_ ?_<;>intro h<;>(try intro h')<;>(try simp[h,g1])<;>(try omega)|refine Xg ?_|omega)
  refine iO.u ?_
  simp[g1]
theorem f46(g:eU)(hg:fr g)(p:Pos)(hp:fR g p):Wf T 46 [dG g,dP p] [] (Ey (fun n:Int=>.tup [.i n,.b (decide (ended g p))]) fun _=>True):=by
 have fQ:=hg.clauses
 refine Yg xc ?_
 simp[xc]
 refine fe.e (0:Int) (fun y=>[(2,.ptr 0 0 0),(3,.ptr 1 0 0),(9,dN 4 Clause.cells g.clauses),(10,.i g.clauses.length),(11,.i y)]) (fun y=>[.row 41 0 g.cells,.row 44 0 p.cells]) (fun y=>0≤y∧y≤g.clauses.length∧∀ c∈g.clauses.take y.toNat,¬ jh p c) (fun y=>(g.clauses.length-y).toNat) ?_ ?_
 ·simp
 rintro i ⟨i0,i1,i2⟩
 by_cases hi:i<g.clauses.length
 ·have hm:=ff i0 hi
  have hc:=hg.clause _ hm
  have ho:=hc.ok
  have Fz:jh p (gt g.clauses i)→decide (ended g p)=true:=fun h=>decide_eq_true ⟨_,hm,h⟩
  have mJ:¬ jh p (gt g.clauses i)→∀ c∈g.clauses.take (i+1).toNat,¬ jh p c:=fun h c hc=>by
   rw[gE i0 hi]at hc
   rcases List.mem_append.1 hc with hc|hc
   ·exact i2 c hc
   ·rw[List.mem_singleton.1 hc];exact h
  simp[hi]
  (with_reducible repeat' first|refine Xk ?_<;>try simp|refine Xs ?_ ?_<;>intro h<;>(try intro h')<;>(try simp[h])<;>(try omega)|refine Xg ?_|omega)
  rcases(show(gt g.clauses i).cond=1∨(gt g.clauses i).cond=2∨(gt g.clauses i).cond=3 by omega)with e|e|e
  ·simp[e]
   refine Yt (f294 g hg p hp ⟨1,(gt g.clauses i).kind,(gt g.clauses i).n,(gt g.clauses i).out⟩ (by dsimp only;omega)) ?_
   simp
   have mD:jh p (gt g.clauses i)=(oO p p.side (gt g.clauses i).kind=0):=by simp[jh,e]
   by_cases hx:oO p p.side (gt g.clauses i).kind=0
   ·simp[hx]
    exact Ey.i (gt g.clauses i).out (by simp[Fz (mD▸hx)]) rfl trivial
   ·simp[hx]
    (with_reducible repeat' first|refine Xk ?_<;>try simp|refine Xs ?_ ?_<;>intro h<;>(try intro h')<;>(try simp[h])<;>(try omega)|refine Xg ?_|omega)
    refine LJ.e (i+1) ?_
    exact⟨by omega,by omega,by omega,mJ (mD▸hx)⟩
  ·simp[e]
   refine Yt (f296 g hg p hp ⟨2,(gt g.clauses i).kind,(gt g.clauses i).n,(gt g.clauses i).out⟩ (by dsimp only;omega) (by dsimp only;omega)) ?_
   simp
   have mD:jh p (gt g.clauses i)=(gt p.cs (gt g.clauses i).n=iS (gt g.clauses i).kind (1-p.side)):=by simp[jh,e]
   by_cases hx:gt p.cs (gt g.clauses i).n=iS (gt g.clauses i).kind (1-p.side)
   ·simp[hx]
    exact Ey.i (gt g.clauses i).out (by simp[Fz (mD▸hx)]) rfl trivial
   ·simp[hx]
    (with_reducible repeat' first|refine Xk ?_<;>try simp|refine Xs ?_ ?_<;>intro h<;>(try intro h')<;>(try simp[h])<;>(try omega)|refine Xg ?_|omega)
    refine LJ.e (i+1) ?_
    exact⟨by omega,by omega,by omega,mJ (mD▸hx)⟩
  ·simp[e]
   refine Yt (f297 g hg p hp ⟨3,(gt g.clauses i).kind,(gt g.clauses i).n,(gt g.clauses i).out⟩) ?_
   simp
   have mD:jh p (gt g.clauses i)=(oO p p.side (-1)≤(gt g.clauses i).n):=by simp[jh,e]
   by_cases hx:oO p p.side (-1)≤(gt g.clauses i).n
   ·simp[hx]
    exact Ey.i (gt g.clauses i).out (by simp[Fz (mD▸hx)]) rfl trivial
   ·simp[hx]
    (with_reducible repeat' first|refine Xk ?_<;>try simp|refine Xs ?_ ?_<;>intro h<;>(try intro h')<;>(try simp[h])<;>(try omega)|refine Xg ?_|omega)
    refine LJ.e (i+1) ?_
    exact⟨by omega,by omega,by omega,mJ (mD▸hx)⟩
 ·simp[hi]
  have:¬ ended g p:=fun⟨c,hc,h⟩=>i2 c (by rw[js (by omega)];exact hc) h
  exact Ey.i 0 (by simp[this]) rfl trivial
