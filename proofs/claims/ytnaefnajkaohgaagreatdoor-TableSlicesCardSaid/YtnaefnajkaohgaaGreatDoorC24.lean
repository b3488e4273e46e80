/- Part 24 of the proof of skewer.skewerlaw15.TableSlices. -/
import Derived.Test.YtnaefnajkaohgaaGreatDoorC22
import Derived.Test.YtnaefnajkaohgaaGreatDoorC14
import Derived.Test.YtnaefnajkaohgaaGreatDoorC18
set_option linter.all false
namespace Go.AL
open Go
@[simp] theorem simA_yld(n v:Nat):simA n (.yld v)=decide (v<n):=rfl
@[simp] theorem okOb_dfr(n:Nat):okOb n .dfr=true:=rfl
@[simp] theorem okOb_rcd(n rf:Nat)(e:Env)(st:RSt):okOb n (.rcd rf e st)=e.all fun x=>simA n x.2:=rfl
theorem keepOf_all{n m:Nat}(h:n≤m):keepOf n (List.range' n (m-n))=keepOf m []:=by
 unfold keepOf
 rw[List.map_nil,List.append_nil,← List.map_append,List.range_eq_range',List.range_eq_range']
 congr 1
 have:=List.range'_append (s:=0) (m:=n) (n:=m-n) (step:=1)
 simp only[Nat.one_mul,Nat.zero_add]at this
 rw[this];congr 1;omega
theorem cut_all{n:Nat}{live:List Nat}{env:Env}{H:Heap}{r:Bool}(hlt:n≤H.length)(he:((forget live env).all fun p=>simA n p.2)=true)
  (hr:dedup (((H.take n).map (obRefs n)).flatten.filter (· < H.length))=List.range' n (H.length-n)) (hH:okH H.length H):cut n live { env:=env,H:=H,marks:=[],rnd:=r } = { env:=forget live env,H:=H,marks:=[],rnd:=r }:=by
 by_cases h:H.length≤n
 ·exact cut_none h
 ·unfold cut
  dsimp only
  rw[if_neg h]
  have e1:((forget live env).map fun p=>topRef n p.2).flatten = []:=flatten_nil fun p hp=>topRef_sim (List.all_eq_true.1 he p hp)
  rw[e1,List.filter_nil,List.append_nil,List.nil_append,hr,keepOf_all hlt]
  have e2:=shedH_keepOf (n:=H.length) (H:=H) (G:=[]) rfl hH
  rw[List.append_nil]at e2
  rw[e2]
  congr 1
  conv=>rhs;rw[← List.map_id (forget live env)]
  exact List.map_congr_left fun p hp=>by
   rw[shed_simA (n:=n) (fun u hu=>rho_keepOf (by omega)) (List.all_eq_true.1 he p hp)];rfl
theorem leave_all{n:Nat}{H:Heap}{d:D}(hlt:n≤H.length)(hd:simA n d=true)
  (hr:dedup (((H.take n).map (obRefs n)).flatten.filter (· < H.length))=List.range' n (H.length-n)) (hH:okH H.length H):leave 0 n H d=(d,H):=by
 by_cases h:H.length≤n
 ·exact leave0 h 0
 ·unfold leave
  rw[if_neg h]
  simp only[List.nil_append]
  rw[hr,keepOf_all hlt]
  have e2:=shedH_keepOf (n:=H.length) (H:=H) (G:=[]) rfl hH
  rw[List.append_nil]at e2
  rw[e2,shed_simA (n:=n) (fun u hu=>rho_keepOf (by omega)) hd]
def shYld:Option Nat→D
 | some v'=>.yld v'
 | none=>.any
@[simp] theorem shYld_some(v:Nat):shYld (some v) = .yld v:=rfl
@[simp] theorem shed_yld(ρ:Nat→Option Nat)(H:Heap)(k v:Nat):shed ρ H (k+1) (.yld v)=shYld (ρ v):=by
 rw[shed,if_neg (by simp[closed])]
 unfold shYld;rfl
@[simp] theorem closed_dN6(l:List Outc):closed (dN 6 Outc.cells l)=true:=closed_dN (fun a=>by simp[closedL]) l
end Go.AL
namespace Go.Proofs.YtnaefnajkaohgaaGreatDoor
open Go Go.AL Classical
set_option maxRecDepth 10000
set_option maxHeartbeats 4000000
theorem ext_gt{a b:List Int}(hl:a.length=b.length)(h:∀ k:Int,0≤k→k<a.length→gt a k=gt b k):a=b:=
 List.ext_getElem hl fun i h1 h2=>by
  have:=h i (by omega) (by omega)
  simpa[gt,h1,h2]using this
noncomputable def cntL(cs:List Int)(side:Int)(K:Nat):List Int:=(upto K).map fun k=>(cs.countP fun c=>decide (isMan side k c):Nat)
@[simp] theorem cntL_len(cs:List Int)(side:Int)(K:Nat):(cntL cs side K).length=K:=by simp[cntL,upto]
theorem cntL_gt{cs:List Int}{side:Int}{K:Nat}{k:Int}(h0:0≤k)(h:k<K):gt (cntL cs side K) k=(cs.countP fun c=>decide (isMan side k c):Nat):=by
 have h1:k.toNat<K:=by omega
 simp[cntL,upto,gt,h1,Int.toNat_of_nonneg h0]
theorem cntL_add{cs:List Int}{side:Int}{K:Nat}{c:Int}(hc:0<c∧c≤12)(hK:(c-1) / 2<K)(hs:(c-1) % 2=side):pt (cntL cs side K) ((c-1) / 2) (gt (cntL cs side K) ((c-1) / 2)+1)=cntL (cs ++ [c]) side K:=by
 have h0:0≤(c-1) / 2:=by omega
 have hl:=pt_len (l:=cntL cs side K) (n:=(c-1) / 2) (v:=gt (cntL cs side K) ((c-1) / 2)+1) h0 (by simpa using hK)
 refine ext_gt (by rw[hl];simp) fun k k0 k1=>?_
 rw[hl]at k1
 simp at k1
 have hm:manK c=(c-1) / 2∧manS c=side:=by unfold manK manS;rw[if_pos (by omega),if_pos (by omega)];exact⟨rfl,hs⟩
 rw[gt_pt h0 (by simpa using hK) k0,cntL_gt (cs:=cs ++ [c]) k0 k1,List.countP_append]
 simp only[List.countP_cons,List.countP_nil,isMan,hm.1,hm.2]
 split
 ·rename_i e
  subst e
  rw[cntL_gt h0 hK]
  simp[h0,isMan]
 ·rename_i e
  rw[cntL_gt k0 k1]
  simp[isMan]
  rw[if_neg (by omega)]
  simp
theorem cntL_skip{cs:List Int}{side:Int}{K:Nat}{c:Int}(h:c≤0∨(c-1) % 2≠side):cntL cs side K=cntL (cs ++ [c]) side K:=by
 refine ext_gt (by simp) fun k k0 k1=>?_
 simp at k1
 rw[cntL_gt k0 k1,cntL_gt k0 k1,List.countP_append]
 simp only[List.countP_cons,List.countP_nil,isMan]
 have:¬ (0≤manK c∧manS c=side∧(k<0∨manK c=k)):=by
  unfold manK manS
  split
  ·omega
  ·omega
 simp[this]
theorem cntL_nil(side:Int)(K:Nat):cntL [] side K=List.replicate K 0:=by
 refine ext_gt (by simp) fun k k0 k1=>?_
 simp at k1
 rw[cntL_gt k0 k1]
 have:k.toNat<K:=by omega
 simp[gt,this]
theorem f295(g:Game)(hg:GameOK g)(p:Pos)(hp:PosOK g p)(side:Int)(hs:0≤side∧side≤1):Wf T 295 [dG g,dP p,.i side] [] (Is (dI (cntL p.cs side g.kinds.length))):=by
 have hz:=hp.size
 have hb:=hg.board.size
 have hk:=hg.kinds
 refine Yg F295 ?_
 simp[F295]
 (with_reducible repeat' first|refine Xk ?_<;>try simp|refine Xs ?_ ?_<;>intro h<;>(try intro h')<;>(try simp[h])<;>(try omega)|refine Xg ?_|omega)
 refine XLoop.e ((0,List.replicate g.kinds.length 0):Int×List Int) (fun y=>[(2,.i side),(7,.osl 2 0 1 0 g.kinds.length),(15,dI p.cs),(16,.i p.cs.length),(17,.i y.1)]) (fun y=>[.row 41 0 g.cells,.row 44 0 p.cells,.row 3 0 (cl f1 y.2)]) (fun y=>0≤y.1∧y.1≤p.cs.length∧y.2=cntL (p.cs.take y.1.toNat) side g.kinds.length) (fun y=>(p.cs.length-y.1).toNat) ?_ ?_
 ·simp[cntL_nil]
 rintro⟨i,cn⟩ ⟨i0,i1,i2⟩
 dsimp only at i0 i1 i2 ⊢
 have hcl:cn.length=g.kinds.length:=by rw[i2];simp
 by_cases hi:i<p.cs.length
 ·have hc:=hp.cs _ (gt_mem i0 hi)
  have hT:=take_gt i0 hi
  have hr:=remI_eq (a:=gt p.cs i-1) (b:=2)
  by_cases hpos:0<gt p.cs i
  ·have hr:=hr (by omega)
   have hq:=quoI_eq (a:=gt p.cs i-1) (b:=2) (by omega) (by omega) (by omega)
   by_cases hsd:(gt p.cs i-1) % 2=side
   ·have hb2:gt cn ((gt p.cs i-1) / 2)≤9∧0≤gt cn ((gt p.cs i-1) / 2):=by
     rw[i2,cntL_gt (by omega) (by omega)]
     have:=List.countP_le_length (p:=fun c=>decide (isMan side ((gt p.cs i-1) / 2) c)) (l:=p.cs.take i.toNat)
     rw[List.length_take]at this
     omega
    simp[hi,hpos,hr,hq,hsd]
    (with_reducible repeat' first|refine Xk ?_<;>try simp[hr,hq,hsd]|refine Xs ?_ ?_<;>intro h<;>(try intro h')<;>(try simp[h,hr,hq,hsd])<;>(try omega)|refine Xg ?_|omega)
    refine LJ.e (i+1,pt cn ((gt p.cs i-1) / 2) (gt cn ((gt p.cs i-1) / 2)+1)) ?_
    refine⟨by dsimp only;omega,by dsimp only;omega,by dsimp only;omega,?_⟩
    dsimp only
    rw[hT,i2]
    exact cntL_add (by omega) (by omega) hsd
   ·simp[hi,hpos,hr,hsd]
    (with_reducible repeat' first|refine Xk ?_<;>try simp[hr,hsd]|refine Xs ?_ ?_<;>intro h<;>(try intro h')<;>(try simp[h,hr,hsd])<;>(try omega)|refine Xg ?_|omega)
    refine LJ.e (i+1,cn) ?_
    refine⟨by dsimp only;omega,by dsimp only;omega,by dsimp only;omega,?_⟩
    dsimp only
    rw[hT,i2]
    exact cntL_skip (.inr hsd)
  ·simp[hi,hpos]
   (with_reducible repeat' first|refine Xk ?_<;>try simp|refine Xs ?_ ?_<;>intro h<;>(try intro h')<;>(try simp[h])<;>(try omega)|refine Xg ?_|omega)
   refine LJ.e (i+1,cn) ?_
   refine⟨by dsimp only;omega,by dsimp only;omega,by dsimp only;omega,?_⟩
   dsimp only
   rw[hT,i2]
   exact cntL_skip (by omega)
 ·simp[hi]
  rw[i2,take_all (by omega),fzR_cl (by simp)]
  rfl
theorem cnt_all{side:Int}{K:Int}(hK:1≤K∧K≤2):∀ {cs:List Int},(∀ c∈cs,0≤c∧c≤2*K)→(cs.countP fun c=>decide (isMan side (-1) c))=(cs.countP fun c=>decide (isMan side 0 c))+(if K=2 then cs.countP fun c=>decide (isMan side 1 c)else 0)
 | [],_=>by simp
 | c::cs,h=>by
  have hc:=h c (by simp)
  have ih:=cnt_all (side:=side) hK (cs:=cs) fun x hx=>h x (by simp[hx])
  simp only[List.countP_cons,ih]
  have e:(if decide (isMan side (-1) c)=true then 1 else 0)=(if decide (isMan side 0 c)=true then 1 else 0)+(if K=2 then(if decide (isMan side 1 c)=true then 1 else 0)else 0):=by
   unfold isMan
   simp only[decide_eq_true_eq]
   by_cases h1:1≤c∧c≤12
   ·have:manK c=(c-1) / 2:=by unfold manK;rw[if_pos h1]
    rw[this]
    by_cases hs:manS c=side
    ·simp only[hs,true_and]
     by_cases h0:(c-1) / 2=0
     ·rw[if_pos (by omega),if_pos (by omega)]
      by_cases hk2:K=2
      ·rw[if_pos hk2,if_neg (by omega)]
      ·rw[if_neg hk2]
     ·rw[if_pos (by omega),if_neg (by omega),if_pos (by omega),if_pos (by omega)]
    ·simp[hs]
   ·have:manK c = -1:=by unfold manK;rw[if_neg h1]
    simp[this]
  rw[e]
  split<;>omega
theorem f294(g:Game)(hg:GameOK g)(p:Pos)(hp:PosOK g p)(c:Clause)(hc:0≤c.kind∧c.kind<g.kinds.length):Wf T 294 [dG g,dP p,.agg c.cells] [] (Is (.b (decide (menC p p.side c.kind=0)))):=by
 have hs:=hp.side
 refine Yg F294 ?_
 simp[F294]
 refine Yt (f295 g hg p hp p.side hs) ?_
 simp
 simp[cntL_gt hc.1 hc.2,← menC_def]
 (with_reducible repeat' first|refine Xk ?_<;>try simp|refine Xs ?_ ?_<;>intro h<;>(try intro h')<;>(try simp[h])<;>(try omega)|refine Xg ?_|omega)
theorem f296(g:Game)(hg:GameOK g)(p:Pos)(hp:PosOK g p)(c:Clause)(hc:0≤c.kind∧c.kind<g.kinds.length)(hn:0≤c.n∧c.n<g.size):Wf T 296 [dG g,dP p,.agg c.cells] [] (Is (.b (decide (gt p.cs c.n=codeM c.kind (1-p.side))))):=by
 have hs:=hp.side
 have hz:=hp.size
 have hk:=hg.kinds
 refine Yg F296 ?_
 simp[F296]
 (with_reducible repeat' first|refine Xk ?_<;>try simp|refine Xs ?_ ?_<;>intro h<;>(try intro h')<;>(try simp[h])<;>(try omega)|refine Xg ?_|omega)
 refine Yt (f92 (k:=c.kind) (s:=1-p.side) (by omega) (by omega) (by omega) (by omega)) ?_
 simp
 simp[codeM]
theorem cntL_1(cs:List Int)(side:Int):cntL cs side 1 = [((cs.countP fun c=>decide (isMan side 0 c):Nat):Int)]:=by
 simp[cntL,upto,List.range,List.range.loop]
theorem cntL_2(cs:List Int)(side:Int):cntL cs side 2 = [((cs.countP fun c=>decide (isMan side 0 c):Nat):Int),(cs.countP fun c=>decide (isMan side 1 c):Nat)]:=by
 simp[cntL,upto,List.range,List.range.loop]
theorem f297(g:Game)(hg:GameOK g)(p:Pos)(hp:PosOK g p)(c:Clause):Wf T 297 [dG g,dP p,.agg c.cells] [] (Is (.b (decide (menC p p.side (-1)≤c.n)))):=by
 have hs:=hp.side
 have hz:=hp.size
 have hb:=hg.board.size
 have hk:=hg.kinds
 have ha:=cnt_all (side:=p.side) (K:=g.kinds.length) (by omega) (cs:=p.cs) hp.cs
 have l0:=List.countP_le_length (p:=fun c=>decide (isMan p.side 0 c)) (l:=p.cs)
 have l1:=List.countP_le_length (p:=fun c=>decide (isMan p.side 1 c)) (l:=p.cs)
 rw[menC_def,ha]
 refine Yg F297 ?_
 simp[F297]
 refine Yc (f295 g hg p hp p.side hs) ?_
 simp
 rcases(show g.kinds.length=1∨g.kinds.length=2 by omega)with e|e
 ·rw[e,cntL_1]
  simp
  generalize (p.cs.countP fun c=>decide (isMan p.side 0 c))=n0 at *
  have g0:gt [(n0:Int)] 0=n0:=rfl
  refine XLoop.un ?_
  refine XLoopN.u ?_
  simp[g0]
  (with_reducible repeat' first|refine Xk ?_<;>try simp[g0]|refine Xs ?_ ?_<;>intro h<;>(try intro h')<;>(try simp[h,g0])<;>(try omega)|refine Xg ?_|omega)
  refine XLoopN.u ?_
  simp[g0]
 ·rw[e,cntL_2]
  simp
  generalize (p.cs.countP fun c=>decide (isMan p.side 0 c))=n0 at *
  generalize (p.cs.countP fun c=>decide (isMan p.side 1 c))=n1 at *
  have g0:gt [(n0:Int),n1] 0=n0:=rfl
  have g1:gt [(n0:Int),n1] 1=n1:=rfl
  refine XLoop.un ?_
  refine XLoopN.u ?_
  simp[g0]
  (with_reducible repeat' first|refine Xk ?_<;>try simp[g0]|refine Xs ?_ ?_<;>intro h<;>(try intro h')<;>(try simp[h,g0])<;>(try omega)|refine Xg ?_|omega)
  refine XLoopN.u ?_
  simp[g1]
  (with_reducible repeat' first|refine Xk ?_<;>try simp[g1]|refine Xs ?_ ?_<;>intro h<;>(try intro h')<;>(try simp[h,g1])<;>(try omega)|refine Xg ?_|omega)
  refine XLoopN.u ?_
  simp[g1]
theorem f46(g:Game)(hg:GameOK g)(p:Pos)(hp:PosOK g p):Wf T 46 [dG g,dP p] [] (Ey (fun n:Int=>.tup [.i n,.b (decide (ended g p))]) fun _=>True):=by
 have hcl:=hg.clauses
 refine Yg F46 ?_
 simp[F46]
 refine XLoop.e (0:Int) (fun y=>[(2,.ptr 0 0 0),(3,.ptr 1 0 0),(9,dN 4 Clause.cells g.clauses),(10,.i g.clauses.length),(11,.i y)]) (fun y=>[.row 41 0 g.cells,.row 44 0 p.cells]) (fun y=>0≤y∧y≤g.clauses.length∧∀ c∈g.clauses.take y.toNat,¬ condL p c) (fun y=>(g.clauses.length-y).toNat) ?_ ?_
 ·simp
 rintro i ⟨i0,i1,i2⟩
 by_cases hi:i<g.clauses.length
 ·have hm:=gt_mem i0 hi
  have hc:=hg.clause _ hm
  have ho:=hc.ok
  have hdone:condL p (gt g.clauses i)→decide (ended g p)=true:=fun h=>decide_eq_true ⟨_,hm,h⟩
  have hnext:¬ condL p (gt g.clauses i)→∀ c∈g.clauses.take (i+1).toNat,¬ condL p c:=fun h c hc=>by
   rw[take_gt i0 hi]at hc
   rcases List.mem_append.1 hc with hc|hc
   ·exact i2 c hc
   ·rw[List.mem_singleton.1 hc];exact h
  simp[hi]
  (with_reducible repeat' first|refine Xk ?_<;>try simp|refine Xs ?_ ?_<;>intro h<;>(try intro h')<;>(try simp[h])<;>(try omega)|refine Xg ?_|omega)
  rcases(show(gt g.clauses i).cond=1∨(gt g.clauses i).cond=2∨(gt g.clauses i).cond=3 by omega)with e|e|e
  ·simp[e]
   refine Yt (f294 g hg p hp ⟨1,(gt g.clauses i).kind,(gt g.clauses i).n,(gt g.clauses i).out⟩ (by dsimp only;omega)) ?_
   simp
   have hcd:condL p (gt g.clauses i)=(menC p p.side (gt g.clauses i).kind=0):=by simp[condL,e]
   by_cases hx:menC p p.side (gt g.clauses i).kind=0
   ·simp[hx]
    exact Ey.i (gt g.clauses i).out (by simp[hdone (hcd▸hx)]) rfl trivial
   ·simp[hx]
    (with_reducible repeat' first|refine Xk ?_<;>try simp|refine Xs ?_ ?_<;>intro h<;>(try intro h')<;>(try simp[h])<;>(try omega)|refine Xg ?_|omega)
    refine LJ.e (i+1) ?_
    exact⟨by omega,by omega,by omega,hnext (hcd▸hx)⟩
  ·simp[e]
   refine Yt (f296 g hg p hp ⟨2,(gt g.clauses i).kind,(gt g.clauses i).n,(gt g.clauses i).out⟩ (by dsimp only;omega) (by dsimp only;omega)) ?_
   simp
   have hcd:condL p (gt g.clauses i)=(gt p.cs (gt g.clauses i).n=codeM (gt g.clauses i).kind (1-p.side)):=by simp[condL,e]
   by_cases hx:gt p.cs (gt g.clauses i).n=codeM (gt g.clauses i).kind (1-p.side)
   ·simp[hx]
    exact Ey.i (gt g.clauses i).out (by simp[hdone (hcd▸hx)]) rfl trivial
   ·simp[hx]
    (with_reducible repeat' first|refine Xk ?_<;>try simp|refine Xs ?_ ?_<;>intro h<;>(try intro h')<;>(try simp[h])<;>(try omega)|refine Xg ?_|omega)
    refine LJ.e (i+1) ?_
    exact⟨by omega,by omega,by omega,hnext (hcd▸hx)⟩
  ·simp[e]
   refine Yt (f297 g hg p hp ⟨3,(gt g.clauses i).kind,(gt g.clauses i).n,(gt g.clauses i).out⟩) ?_
   simp
   have hcd:condL p (gt g.clauses i)=(menC p p.side (-1)≤(gt g.clauses i).n):=by simp[condL,e]
   by_cases hx:menC p p.side (-1)≤(gt g.clauses i).n
   ·simp[hx]
    exact Ey.i (gt g.clauses i).out (by simp[hdone (hcd▸hx)]) rfl trivial
   ·simp[hx]
    (with_reducible repeat' first|refine Xk ?_<;>try simp|refine Xs ?_ ?_<;>intro h<;>(try intro h')<;>(try simp[h])<;>(try omega)|refine Xg ?_|omega)
    refine LJ.e (i+1) ?_
    exact⟨by omega,by omega,by omega,hnext (hcd▸hx)⟩
 ·simp[hi]
  have:¬ ended g p:=fun⟨c,hc,h⟩=>i2 c (by rw[take_all (by omega)];exact hc) h
  exact Ey.i 0 (by simp[this]) rfl trivial
end Go.Proofs.YtnaefnajkaohgaaGreatDoor
