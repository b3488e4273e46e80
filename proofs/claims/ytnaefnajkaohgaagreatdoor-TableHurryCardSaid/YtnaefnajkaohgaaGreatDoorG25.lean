/- Part 25 of TableHurry. -/
import Derived.Test.YtnaefnajkaohgaaGreatDoorG23
import Derived.Test.YtnaefnajkaohgaaGreatDoorG14
import Derived.Test.YtnaefnajkaohgaaGreatDoorG19
set_option linter.all false
namespace Go.AL
open Go
@[simp] theorem ajo(n v:Nat):jx n (.gy v)=decide (v<n):=rfl
@[simp] theorem ajr(n v:Nat):lh n (.gy v)=decide (v<n):=rfl
@[simp] theorem ajj(n:Nat)(cs:List D):jx n (.eG cs)=cs.all (lh n):=rfl
@[simp] theorem ahP(n:Nat):pK n .jA=true:=rfl
@[simp] theorem ahR(n rf:Nat)(e:Env)(st:nV):pK n (.fE rf e st)=e.all fun x=>jx n x.2:=rfl
theorem Mo{n m:Nat}(h:n≤m):gx n (List.range' n (m-n))=gx m []:=by
 unfold gx
 rw[List.map_nil,av,← List.map_append,dj,dj]
 congr 1
 have:=List.range'_append (s:=0) (m:=n) (n:=m-n) (step:=1)
 simp only[Nat.one_mul,aX]at this
 rw[this];congr 1;omega
theorem Pw{n:Nat}{live:List Nat}{env:Env}{H:et}{r:Bool}(fe:n≤H.length)(he:((forget live env).all fun p=>jx n p.2)=true)
  (hr:dedup (((H.take n).map (lU n)).flatten.filter (· < H.length))=List.range' n (H.length-n)) (hH:oG H.length H):cut n live { env:=env,H:=H,marks:=[],fV:=r } = { env:=forget live env,H:=H,marks:=[],fV:=r }:=by
 by_cases h:H.length≤n
 ·exact Fy h
 ·unfold cut
  dsimp only
  rw[if_neg h]
  have e1:((forget live env).map fun p=>gD n p.2).flatten = []:=flatten_nil fun p hp=>EX (ao.1 he p hp)
  rw[e1,List.filter_nil,av,bJ,hr,Mo fe]
  have e2:=Ik (n:=H.length) (H:=H) (G:=[]) rfl hH
  rw[av]at e2
  rw[e2]
  congr 1
  conv=>rhs;rw[← aQ (forget live env)]
  exact ak fun p hp=>by
   rw[zI (n:=n) (fun u hu=>zz (by omega)) (ao.1 he p hp)];rfl
theorem TK{n:Nat}{H:et}{d:D}(fe:n≤H.length)(hd:jx n d=true)
  (hr:dedup (((H.take n).map (lU n)).flatten.filter (· < H.length))=List.range' n (H.length-n)) (hH:oG H.length H):leave 0 n H d=(d,H):=by
 by_cases h:H.length≤n
 ·exact TI h 0
 ·unfold leave
  rw[if_neg h]
  simp only[bJ]
  rw[hr,Mo fe]
  have e2:=Ik (n:=H.length) (H:=H) (G:=[]) rfl hH
  rw[av]at e2
  rw[e2,zI (n:=n) (fun u hu=>zz (by omega)) hd]
def ED:Option Nat→D
 | some v'=>.gy v'
 | none=>.any
@[simp] theorem ai2(v:Nat):ED (some v) = .gy v:=rfl
@[simp] theorem ai1:ED none = .any:=rfl
@[simp] theorem ajf(ρ:Nat→Option Nat)(H:et)(k v:Nat):eC ρ H (k+1) (.gy v)=ED (ρ v):=by
 rw[eC,if_neg (by simp[closed])]
 unfold ED;rfl
@[simp] theorem aeq(l:List eY):closed (dN 6 eY.cells l)=true:=tE (fun a=>by simp[eV]) l
end Go.AL
namespace Go.Proofs.YtnaefnajkaohgaaGreatDoor
open Go Go.AL Classical
set_option maxRecDepth 10000
set_option maxHeartbeats 4000000
theorem C0{a b:List Int}(hl:a.length=b.length)(h:∀ k:Int,0≤k→k<a.length→gt a k=gt b k):a=b:=
 List.ext_getElem hl fun i h1 h2=>by
  have:=h i (by omega) (by omega)
  simpa[gt,h1,h2]using this
noncomputable def l3(cs:List Int)(side:Int)(K:Nat):List Int:=(upto K).map fun k=>(cs.countP fun c=>decide (je side k c):Nat)
@[simp] theorem aeH(cs:List Int)(side:Int)(K:Nat):(l3 cs side K).length=K:=by simp[l3,upto]
theorem su{cs:List Int}{side:Int}{K:Nat}{k:Int}(h0:0≤k)(h:k<K):gt (l3 cs side K) k=(cs.countP fun c=>decide (je side k c):Nat):=by
 have h1:k.toNat<K:=by omega
 simp[l3,upto,gt,h1,b7 h0]
theorem Pk{cs:List Int}{side:Int}{K:Nat}{c:Int}(hc:0<c∧c≤12)(hK:(c-1) / 2<K)(hs:(c-1) % 2=side):pt (l3 cs side K) ((c-1) / 2) (gt (l3 cs side K) ((c-1) / 2)+1)=l3 (cs ++ [c]) side K:=by
 have h0:0≤(c-1) / 2:=by omega
 have hl:=ga (l:=l3 cs side K) (n:=(c-1) / 2) (v:=gt (l3 cs side K) ((c-1) / 2)+1) h0 (by simpa using hK)
 refine C0 (by rw[hl];simp) fun k k0 k1=>?_
 rw[hl]at k1
 simp at k1
 have hm:eS c=(c-1) / 2∧gV c=side:=by unfold eS gV;rw[if_pos (by omega),if_pos (by omega)];exact⟨rfl,hs⟩
 rw[n4 h0 (by simpa using hK) k0,su (cs:=cs ++ [c]) k0 k1,cd]
 simp only[b8,List.countP_nil,je,hm.1,hm.2]
 split
 ·rename_i e
  subst e
  rw[su h0 hK]
  simp[h0,je]
 ·rename_i e
  rw[su k0 k1]
  simp[je]
  rw[if_neg (by omega)]
  simp
theorem J6{cs:List Int}{side:Int}{K:Nat}{c:Int}(h:c≤0∨(c-1) % 2≠side):l3 cs side K=l3 (cs ++ [c]) side K:=by
 refine C0 (by simp) fun k k0 k1=>?_
 simp at k1
 rw[su k0 k1,su k0 k1,cd]
 simp only[b8,List.countP_nil,je]
 have:¬ (0≤eS c∧gV c=side∧(k<0∨eS c=k)):=by
  unfold eS gV
  split
  ·omega
  ·omega
 simp[this]
theorem Pm(side:Int)(K:Nat):l3 [] side K=List.replicate K 0:=by
 refine C0 (by simp) fun k k0 k1=>?_
 simp at k1
 rw[su k0 k1]
 have:k.toNat<K:=by omega
 simp[gt,this]
theorem f295(g:ey)(hg:eW g)(p:Pos)(hp:fo g p)(side:Int)(hs:0≤side∧side≤1):Wf T 295 [dG g,dP p,.i side] [] (Is (dI (l3 p.cs side g.kinds.length))):=by
 have hz:=hp.size
 have hb:=hg.gH.size
 have hk:=hg.kinds
 refine Yg BC ?_
 simp[BC]
 (with_reducible repeat' first|refine Xk ?_<;>try simp|refine Xs ?_ ?_<;>intro h<;>(try intro h')<;>(try simp[h])<;>(try omega)|refine Xg ?_|omega)
 refine eF.e ((0,List.replicate g.kinds.length 0):Int×List Int) (fun y=>[(2,.i side),(7,.eu 2 0 1 0 g.kinds.length),(15,dI p.cs),(16,.i p.cs.length),(17,.i y.1)]) (fun y=>[.row 41 0 g.cells,.row 44 0 p.cells,.row 3 0 (cl f1 y.2)]) (fun y=>0≤y.1∧y.1≤p.cs.length∧y.2=l3 (p.cs.take y.1.toNat) side g.kinds.length) (fun y=>(p.cs.length-y.1).toNat) ?_ ?_
 ·simp[Pm]
 rintro⟨i,cn⟩ ⟨i0,i1,i2⟩
 dsimp only at i0 i1 i2 ⊢
 have fj:cn.length=g.kinds.length:=by rw[i2];simp
 by_cases hi:i<p.cs.length
 ·have hc:=hp.cs _ (eH i0 hi)
  have hT:=gj i0 hi
  have hr:=jo (a:=gt p.cs i-1) (b:=2)
  by_cases iy:0<gt p.cs i
  ·have hr:=hr (by omega)
   have hq:=wE (a:=gt p.cs i-1) (b:=2) (by omega) (by omega) (by omega)
   by_cases gv:(gt p.cs i-1) % 2=side
   ·have hb2:gt cn ((gt p.cs i-1) / 2)≤9∧0≤gt cn ((gt p.cs i-1) / 2):=by
     rw[i2,su (by omega) (by omega)]
     have:=cF (p:=fun c=>decide (je side ((gt p.cs i-1) / 2) c)) (l:=p.cs.take i.toNat)
     rw[aP]at this
     omega
    simp[hi,iy,hr,hq,gv]
    (with_reducible repeat' first|refine Xk ?_<;>try simp[hr,hq,gv]|refine Xs ?_ ?_<;>intro h<;>(try intro h')<;>(try simp[h,hr,hq,gv])<;>(try omega)|refine Xg ?_|omega)
    refine LJ.e (i+1,pt cn ((gt p.cs i-1) / 2) (gt cn ((gt p.cs i-1) / 2)+1)) ?_
    refine⟨by dsimp only;omega,by dsimp only;omega,by dsimp only;omega,?_⟩
    dsimp only
    rw[hT,i2]
    exact Pk (by omega) (by omega) gv
   ·simp[hi,iy,hr,gv]
    (with_reducible repeat' first|refine Xk ?_<;>try simp[hr,gv]|refine Xs ?_ ?_<;>intro h<;>(try intro h')<;>(try simp[h,hr,gv])<;>(try omega)|refine Xg ?_|omega)
    refine LJ.e (i+1,cn) ?_
    refine⟨by dsimp only;omega,by dsimp only;omega,by dsimp only;omega,?_⟩
    dsimp only
    rw[hT,i2]
    exact J6 (.inr gv)
  ·simp[hi,iy]
   (with_reducible repeat' first|refine Xk ?_<;>try simp|refine Xs ?_ ?_<;>intro h<;>(try intro h')<;>(try simp[h])<;>(try omega)|refine Xg ?_|omega)
   refine LJ.e (i+1,cn) ?_
   refine⟨by dsimp only;omega,by dsimp only;omega,by dsimp only;omega,?_⟩
   dsimp only
   rw[hT,i2]
   exact J6 (by omega)
 ·simp[hi]
  rw[i2,iH (by omega),q9 (by simp)]
  rfl
theorem J7{side:Int}{K:Int}(hK:1≤K∧K≤2):∀ {cs:List Int},(∀ c∈cs,0≤c∧c≤2*K)→(cs.countP fun c=>decide (je side (-1) c))=(cs.countP fun c=>decide (je side 0 c))+(if K=2 then cs.countP fun c=>decide (je side 1 c)else 0)
 | [],_=>by simp
 | c::cs,h=>by
  have hc:=h c (by simp)
  have ih:=J7 (side:=side) hK (cs:=cs) fun x hx=>h x (by simp[hx])
  simp only[b8,ih]
  have e:(if decide (je side (-1) c)=true then 1 else 0)=(if decide (je side 0 c)=true then 1 else 0)+(if K=2 then(if decide (je side 1 c)=true then 1 else 0)else 0):=by
   unfold je
   simp only[decide_eq_true_eq]
   by_cases h1:1≤c∧c≤12
   ·have:eS c=(c-1) / 2:=by unfold eS;rw[if_pos h1]
    rw[this]
    by_cases hs:gV c=side
    ·simp only[hs,true_and]
     by_cases h0:(c-1) / 2=0
     ·rw[if_pos (by omega),if_pos (by omega)]
      by_cases jv:K=2
      ·rw[if_pos jv,if_neg (by omega)]
      ·rw[if_neg jv]
     ·rw[if_pos (by omega),if_neg (by omega),if_pos (by omega),if_pos (by omega)]
    ·simp[hs]
   ·have:eS c = -1:=by unfold eS;rw[if_neg h1]
    simp[this]
  rw[e]
  split<;>omega
theorem f294(g:ey)(hg:eW g)(p:Pos)(hp:fo g p)(c:Clause)(hc:0≤c.kind∧c.kind<g.kinds.length):Wf T 294 [dG g,dP p,.agg c.cells] [] (Is (.b (decide (pJ p p.side c.kind=0)))):=by
 have hs:=hp.side
 refine Yg BB ?_
 simp[BB]
 refine Yt (f295 g hg p hp p.side hs) ?_
 simp
 simp[su hc.1 hc.2,← HD]
 (with_reducible repeat' first|refine Xk ?_<;>try simp|refine Xs ?_ ?_<;>intro h<;>(try intro h')<;>(try simp[h])<;>(try omega)|refine Xg ?_|omega)
theorem f296(g:ey)(hg:eW g)(p:Pos)(hp:fo g p)(c:Clause)(hc:0≤c.kind∧c.kind<g.kinds.length)(hn:0≤c.n∧c.n<g.size):Wf T 296 [dG g,dP p,.agg c.cells] [] (Is (.b (decide (gt p.cs c.n=ju c.kind (1-p.side))))):=by
 have hs:=hp.side
 have hz:=hp.size
 have hk:=hg.kinds
 refine Yg BD ?_
 simp[BD]
 (with_reducible repeat' first|refine Xk ?_<;>try simp|refine Xs ?_ ?_<;>intro h<;>(try intro h')<;>(try simp[h])<;>(try omega)|refine Xg ?_|omega)
 refine Yt (f92 (k:=c.kind) (s:=1-p.side) (by omega) (by omega) (by omega) (by omega)) ?_
 simp
 simp[ju]
theorem Ph(cs:List Int)(side:Int):l3 cs side 1 = [((cs.countP fun c=>decide (je side 0 c):Nat):Int)]:=by
 simp[l3,upto,List.range,List.range.loop]
theorem Pj(cs:List Int)(side:Int):l3 cs side 2 = [((cs.countP fun c=>decide (je side 0 c):Nat):Int),(cs.countP fun c=>decide (je side 1 c):Nat)]:=by
 simp[l3,upto,List.range,List.range.loop]
theorem f297(g:ey)(hg:eW g)(p:Pos)(hp:fo g p)(c:Clause):Wf T 297 [dG g,dP p,.agg c.cells] [] (Is (.b (decide (pJ p p.side (-1)≤c.n)))):=by
 have hs:=hp.side
 have hz:=hp.size
 have hb:=hg.gH.size
 have hk:=hg.kinds
 have ha:=J7 (side:=p.side) (K:=g.kinds.length) (by omega) (cs:=p.cs) hp.cs
 have l0:=cF (p:=fun c=>decide (je p.side 0 c)) (l:=p.cs)
 have l1:=cF (p:=fun c=>decide (je p.side 1 c)) (l:=p.cs)
 rw[HD,ha]
 refine Yg BE ?_
 simp[BE]
 refine Yc (f295 g hg p hp p.side hs) ?_
 simp
 rcases(show g.kinds.length=1∨g.kinds.length=2 by omega)with e|e
 ·rw[e,Ph]
  simp
  generalize (p.cs.countP fun c=>decide (je p.side 0 c))=n0 at *
  have g0:gt [(n0:Int)] 0=n0:=rfl
  refine eF.un ?_
  refine gS.u ?_
  simp[g0]
  (with_reducible repeat' first|refine Xk ?_<;>try simp[g0]|refine Xs ?_ ?_<;>intro h<;>(try intro h')<;>(try simp[h,g0])<;>(try omega)|refine Xg ?_|omega)
  refine gS.u ?_
  simp[g0]
 ·rw[e,Pj]
  simp
  generalize (p.cs.countP fun c=>decide (je p.side 0 c))=n0 at *
  generalize (p.cs.countP fun c=>decide (je p.side 1 c))=n1 at *
  have g0:gt [(n0:Int),n1] 0=n0:=rfl
  have g1:gt [(n0:Int),n1] 1=n1:=rfl
  refine eF.un ?_
  refine gS.u ?_
  simp[g0]
  (with_reducible repeat' first|refine Xk ?_<;>try simp[g0]|refine Xs ?_ ?_<;>intro h<;>(try intro h')<;>(try simp[h,g0])<;>(try omega)|refine Xg ?_|omega)
  refine gS.u ?_
  simp[g1]
  (with_reducible repeat' first|refine Xk ?_<;>try simp[g1]|refine Xs ?_ ?_<;>intro h<;>(try intro h')<;>(try simp[h,g1])<;>(try omega)|refine Xg ?_|omega)
  refine gS.u ?_
  simp[g1]
theorem f46(g:ey)(hg:eW g)(p:Pos)(hp:fo g p):Wf T 46 [dG g,dP p] [] (Ey (fun n:Int=>.tup [.i n,.b (decide (ended g p))]) fun _=>True):=by
 have fj:=hg.clauses
 refine Yg BL ?_
 simp[BL]
 refine eF.e (0:Int) (fun y=>[(2,.ptr 0 0 0),(3,.ptr 1 0 0),(9,dN 4 Clause.cells g.clauses),(10,.i g.clauses.length),(11,.i y)]) (fun y=>[.row 41 0 g.cells,.row 44 0 p.cells]) (fun y=>0≤y∧y≤g.clauses.length∧∀ c∈g.clauses.take y.toNat,¬ kX p c) (fun y=>(g.clauses.length-y).toNat) ?_ ?_
 ·simp
 rintro i ⟨i0,i1,i2⟩
 by_cases hi:i<g.clauses.length
 ·have hm:=eH i0 hi
  have hc:=hg.clause _ hm
  have ho:=hc.ok
  have Gn:kX p (gt g.clauses i)→decide (ended g p)=true:=fun h=>decide_eq_true ⟨_,hm,h⟩
  have mm:¬ kX p (gt g.clauses i)→∀ c∈g.clauses.take (i+1).toNat,¬ kX p c:=fun h c hc=>by
   rw[gj i0 hi]at hc
   rcases List.mem_append.1 hc with hc|hc
   ·exact i2 c hc
   ·rw[List.mem_singleton.1 hc];exact h
  simp[hi]
  (with_reducible repeat' first|refine Xk ?_<;>try simp|refine Xs ?_ ?_<;>intro h<;>(try intro h')<;>(try simp[h])<;>(try omega)|refine Xg ?_|omega)
  rcases(show(gt g.clauses i).cond=1∨(gt g.clauses i).cond=2∨(gt g.clauses i).cond=3 by omega)with e|e|e
  ·simp[e]
   refine Yt (f294 g hg p hp ⟨1,(gt g.clauses i).kind,(gt g.clauses i).n,(gt g.clauses i).out⟩ (by dsimp only;omega)) ?_
   simp
   have sK:kX p (gt g.clauses i)=(pJ p p.side (gt g.clauses i).kind=0):=by simp[kX,e]
   by_cases hx:pJ p p.side (gt g.clauses i).kind=0
   ·simp[hx]
    exact Ey.i (gt g.clauses i).out (by simp[Gn (sK▸hx)]) rfl trivial
   ·simp[hx]
    (with_reducible repeat' first|refine Xk ?_<;>try simp|refine Xs ?_ ?_<;>intro h<;>(try intro h')<;>(try simp[h])<;>(try omega)|refine Xg ?_|omega)
    refine LJ.e (i+1) ?_
    exact⟨by omega,by omega,by omega,mm (sK▸hx)⟩
  ·simp[e]
   refine Yt (f296 g hg p hp ⟨2,(gt g.clauses i).kind,(gt g.clauses i).n,(gt g.clauses i).out⟩ (by dsimp only;omega) (by dsimp only;omega)) ?_
   simp
   have sK:kX p (gt g.clauses i)=(gt p.cs (gt g.clauses i).n=ju (gt g.clauses i).kind (1-p.side)):=by simp[kX,e]
   by_cases hx:gt p.cs (gt g.clauses i).n=ju (gt g.clauses i).kind (1-p.side)
   ·simp[hx]
    exact Ey.i (gt g.clauses i).out (by simp[Gn (sK▸hx)]) rfl trivial
   ·simp[hx]
    (with_reducible repeat' first|refine Xk ?_<;>try simp|refine Xs ?_ ?_<;>intro h<;>(try intro h')<;>(try simp[h])<;>(try omega)|refine Xg ?_|omega)
    refine LJ.e (i+1) ?_
    exact⟨by omega,by omega,by omega,mm (sK▸hx)⟩
  ·simp[e]
   refine Yt (f297 g hg p hp ⟨3,(gt g.clauses i).kind,(gt g.clauses i).n,(gt g.clauses i).out⟩) ?_
   simp
   have sK:kX p (gt g.clauses i)=(pJ p p.side (-1)≤(gt g.clauses i).n):=by simp[kX,e]
   by_cases hx:pJ p p.side (-1)≤(gt g.clauses i).n
   ·simp[hx]
    exact Ey.i (gt g.clauses i).out (by simp[Gn (sK▸hx)]) rfl trivial
   ·simp[hx]
    (with_reducible repeat' first|refine Xk ?_<;>try simp|refine Xs ?_ ?_<;>intro h<;>(try intro h')<;>(try simp[h])<;>(try omega)|refine Xg ?_|omega)
    refine LJ.e (i+1) ?_
    exact⟨by omega,by omega,by omega,mm (sK▸hx)⟩
 ·simp[hi]
  have:¬ ended g p:=fun⟨c,hc,h⟩=>i2 c (by rw[iH (by omega)];exact hc) h
  exact Ey.i 0 (by simp[this]) rfl trivial
