/- Part 25 of the proof of skewer.skewerlaw15.TableZero. -/
import Derived.Test.YtnaefnajkaohgaaGreatDoorF23
import Derived.Test.YtnaefnajkaohgaaGreatDoorF14
import Derived.Test.YtnaefnajkaohgaaGreatDoorF19
set_option linter.all false
namespace Go.AL
open Go
@[simp] theorem ai8(n v:Nat):js n (.gv v)=decide (v<n):=rfl
@[simp] theorem ajb(n v:Nat):kZ n (.gv v)=decide (v<n):=rfl
@[simp] theorem ai3(n:Nat)(cs:List D):js n (.eF cs)=cs.all (kZ n):=rfl
@[simp] theorem ahx(n:Nat):pC n .jv=true:=rfl
@[simp] theorem ahz(n rf:Nat)(e:Env)(st:nP):pC n (.fy rf e st)=e.all fun x=>js n x.2:=rfl
theorem L3{n m:Nat}(h:n≤m):gu n (List.range' n (m-n))=gu m []:=by
 unfold gu
 rw[List.map_nil,av,← List.map_append,dj,dj]
 congr 1
 have:=List.range'_append (s:=0) (m:=n) (n:=m-n) (step:=1)
 simp only[Nat.one_mul,aX]at this
 rw[this];congr 1;omega
theorem O'{n:Nat}{live:List Nat}{env:Env}{H:U}{r:Bool}(e7:n≤H.length)(he:((forget live env).all fun p=>js n p.2)=true)
  (hr:dedup (((H.take n).map (lM n)).flatten.filter (· < H.length))=List.range' n (H.length-n)) (hH:ow H.length H):cut n live { env:=env,H:=H,marks:=[],fM:=r } = { env:=forget live env,H:=H,marks:=[],fM:=r }:=by
 by_cases h:H.length≤n
 ·exact Fi h
 ·unfold cut
  dsimp only
  rw[if_neg h]
  have e1:((forget live env).map fun p=>gx n p.2).flatten = []:=flatten_nil fun p hp=>EL (ao.1 he p hp)
  rw[e1,List.filter_nil,av,bJ,hr,L3 e7]
  have e2:=HY (n:=H.length) (H:=H) (G:=[]) rfl hH
  rw[av]at e2
  rw[e2]
  congr 1
  conv=>rhs;rw[← aQ (forget live env)]
  exact ak fun p hp=>by
   rw[zy (n:=n) (fun u hu=>zn (by omega)) (ao.1 he p hp)];rfl
theorem To{n:Nat}{H:U}{d:D}(e7:n≤H.length)(hd:js n d=true)
  (hr:dedup (((H.take n).map (lM n)).flatten.filter (· < H.length))=List.range' n (H.length-n)) (hH:ow H.length H):leave 0 n H d=(d,H):=by
 by_cases h:H.length≤n
 ·exact Tm h 0
 ·unfold leave
  rw[if_neg h]
  simp only[bJ]
  rw[hr,L3 e7]
  have e2:=HY (n:=H.length) (H:=H) (G:=[]) rfl hH
  rw[av]at e2
  rw[e2,zy (n:=n) (fun u hu=>zn (by omega)) hd]
def Eo:Option Nat→D
 | some v'=>.gv v'
 | none=>.any
@[simp] theorem aiM(v:Nat):Eo (some v) = .gv v:=rfl
@[simp] theorem aiL:Eo none = .any:=rfl
@[simp] theorem aiZ(ρ:Nat→Option Nat)(H:U)(k v:Nat):eB ρ H (k+1) (.gv v)=Eo (ρ v):=by
 rw[eB,if_neg (by simp[closed])]
 unfold Eo;rfl
@[simp] theorem ad8(l:List eW):closed (dN 6 eW.cells l)=true:=tj (fun a=>by simp[eT]) l
end Go.AL
namespace Go.Proofs.YtnaefnajkaohgaaGreatDoor
open Go Go.AL Classical
set_option maxRecDepth 10000
set_option maxHeartbeats 4000000
theorem CP{a b:List Int}(hl:a.length=b.length)(h:∀ k:Int,0≤k→k<a.length→gt a k=gt b k):a=b:=
 List.ext_getElem hl fun i h1 h2=>by
  have:=h i (by omega) (by omega)
  simpa[gt,h1,h2]using this
noncomputable def lS(cs:List Int)(side:Int)(K:Nat):List Int:=(upto K).map fun k=>(cs.countP fun c=>decide (jb side k c):Nat)
@[simp] theorem aep(cs:List Int)(side:Int)(K:Nat):(lS cs side K).length=K:=by simp[lS,upto]
theorem r7{cs:List Int}{side:Int}{K:Nat}{k:Int}(h0:0≤k)(h:k<K):gt (lS cs side K) k=(cs.countP fun c=>decide (jb side k c):Nat):=by
 have h1:k.toNat<K:=by omega
 simp[lS,upto,gt,h1,bZ h0]
theorem OZ{cs:List Int}{side:Int}{K:Nat}{c:Int}(hc:0<c∧c≤12)(hK:(c-1) / 2<K)(hs:(c-1) % 2=side):pt (lS cs side K) ((c-1) / 2) (gt (lS cs side K) ((c-1) / 2)+1)=lS (cs ++ [c]) side K:=by
 have h0:0≤(c-1) / 2:=by omega
 have hl:=fX (l:=lS cs side K) (n:=(c-1) / 2) (v:=gt (lS cs side K) ((c-1) / 2)+1) h0 (by simpa using hK)
 refine CP (by rw[hl];simp) fun k k0 k1=>?_
 rw[hl]at k1
 simp at k1
 have hm:eR c=(c-1) / 2∧gR c=side:=by unfold eR gR;rw[if_pos (by omega),if_pos (by omega)];exact⟨rfl,hs⟩
 rw[nU h0 (by simpa using hK) k0,r7 (cs:=cs ++ [c]) k0 k1,cc]
 simp only[b7,List.countP_nil,jb,hm.1,hm.2]
 split
 ·rename_i e
  subst e
  rw[r7 h0 hK]
  simp[h0,jb]
 ·rename_i e
  rw[r7 k0 k1]
  simp[jb]
  rw[if_neg (by omega)]
  simp
theorem JQ{cs:List Int}{side:Int}{K:Nat}{c:Int}(h:c≤0∨(c-1) % 2≠side):lS cs side K=lS (cs ++ [c]) side K:=by
 refine CP (by simp) fun k k0 k1=>?_
 simp at k1
 rw[r7 k0 k1,r7 k0 k1,cc]
 simp only[b7,List.countP_nil,jb]
 have:¬ (0≤eR c∧gR c=side∧(k<0∨eR c=k)):=by
  unfold eR gR
  split
  ·omega
  ·omega
 simp[this]
theorem O0(side:Int)(K:Nat):lS [] side K=List.replicate K 0:=by
 refine CP (by simp) fun k k0 k1=>?_
 simp at k1
 rw[r7 k0 k1]
 have:k.toNat<K:=by omega
 simp[gt,this]
theorem f295(g:ew)(hg:eU g)(p:Pos)(hp:fj g p)(side:Int)(hs:0≤side∧side≤1):Wf T 295 [dG g,dP p,.i side] [] (Is (dI (lS p.cs side g.kinds.length))):=by
 have hz:=hp.size
 have hb:=hg.gF.size
 have hk:=hg.kinds
 refine Yg Bs ?_
 simp[Bs]
 (with_reducible repeat' first|refine Xk ?_<;>try simp|refine Xs ?_ ?_<;>intro h<;>(try intro h')<;>(try simp[h])<;>(try omega)|refine Xg ?_|omega)
 refine eE.e ((0,List.replicate g.kinds.length 0):Int×List Int) (fun y=>[(2,.i side),(7,.et 2 0 1 0 g.kinds.length),(15,dI p.cs),(16,.i p.cs.length),(17,.i y.1)]) (fun y=>[.row 41 0 g.cells,.row 44 0 p.cells,.row 3 0 (cl f1 y.2)]) (fun y=>0≤y.1∧y.1≤p.cs.length∧y.2=lS (p.cs.take y.1.toNat) side g.kinds.length) (fun y=>(p.cs.length-y.1).toNat) ?_ ?_
 ·simp[O0]
 rintro⟨i,cn⟩ ⟨i0,i1,i2⟩
 dsimp only at i0 i1 i2 ⊢
 have ff:cn.length=g.kinds.length:=by rw[i2];simp
 by_cases hi:i<p.cs.length
 ·have hc:=hp.cs _ (eI i0 hi)
  have hT:=gg i0 hi
  have hr:=jk (a:=gt p.cs i-1) (b:=2)
  by_cases iu:0<gt p.cs i
  ·have hr:=hr (by omega)
   have hq:=wj (a:=gt p.cs i-1) (b:=2) (by omega) (by omega) (by omega)
   by_cases gp:(gt p.cs i-1) % 2=side
   ·have hb2:gt cn ((gt p.cs i-1) / 2)≤9∧0≤gt cn ((gt p.cs i-1) / 2):=by
     rw[i2,r7 (by omega) (by omega)]
     have:=cF (p:=fun c=>decide (jb side ((gt p.cs i-1) / 2) c)) (l:=p.cs.take i.toNat)
     rw[aP]at this
     omega
    simp[hi,iu,hr,hq,gp]
    (with_reducible repeat' first|refine Xk ?_<;>try simp[hr,hq,gp]|refine Xs ?_ ?_<;>intro h<;>(try intro h')<;>(try simp[h,hr,hq,gp])<;>(try omega)|refine Xg ?_|omega)
    refine LJ.e (i+1,pt cn ((gt p.cs i-1) / 2) (gt cn ((gt p.cs i-1) / 2)+1)) ?_
    refine⟨by dsimp only;omega,by dsimp only;omega,by dsimp only;omega,?_⟩
    dsimp only
    rw[hT,i2]
    exact OZ (by omega) (by omega) gp
   ·simp[hi,iu,hr,gp]
    (with_reducible repeat' first|refine Xk ?_<;>try simp[hr,gp]|refine Xs ?_ ?_<;>intro h<;>(try intro h')<;>(try simp[h,hr,gp])<;>(try omega)|refine Xg ?_|omega)
    refine LJ.e (i+1,cn) ?_
    refine⟨by dsimp only;omega,by dsimp only;omega,by dsimp only;omega,?_⟩
    dsimp only
    rw[hT,i2]
    exact JQ (.inr gp)
  ·simp[hi,iu]
   (with_reducible repeat' first|refine Xk ?_<;>try simp|refine Xs ?_ ?_<;>intro h<;>(try intro h')<;>(try simp[h])<;>(try omega)|refine Xg ?_|omega)
   refine LJ.e (i+1,cn) ?_
   refine⟨by dsimp only;omega,by dsimp only;omega,by dsimp only;omega,?_⟩
   dsimp only
   rw[hT,i2]
   exact JQ (by omega)
 ·simp[hi]
  rw[i2,iD (by omega),qU (by simp)]
  rfl
theorem JR{side:Int}{K:Int}(hK:1≤K∧K≤2):∀ {cs:List Int},(∀ c∈cs,0≤c∧c≤2*K)→(cs.countP fun c=>decide (jb side (-1) c))=(cs.countP fun c=>decide (jb side 0 c))+(if K=2 then cs.countP fun c=>decide (jb side 1 c)else 0)
 | [],_=>by simp
 | c::cs,h=>by
  have hc:=h c (by simp)
  have ih:=JR (side:=side) hK (cs:=cs) fun x hx=>h x (by simp[hx])
  simp only[b7,ih]
  have e:(if decide (jb side (-1) c)=true then 1 else 0)=(if decide (jb side 0 c)=true then 1 else 0)+(if K=2 then(if decide (jb side 1 c)=true then 1 else 0)else 0):=by
   unfold jb
   simp only[decide_eq_true_eq]
   by_cases h1:1≤c∧c≤12
   ·have:eR c=(c-1) / 2:=by unfold eR;rw[if_pos h1]
    rw[this]
    by_cases hs:gR c=side
    ·simp only[hs,true_and]
     by_cases h0:(c-1) / 2=0
     ·rw[if_pos (by omega),if_pos (by omega)]
      by_cases jr:K=2
      ·rw[if_pos jr,if_neg (by omega)]
      ·rw[if_neg jr]
     ·rw[if_pos (by omega),if_neg (by omega),if_pos (by omega),if_pos (by omega)]
    ·simp[hs]
   ·have:eR c = -1:=by unfold eR;rw[if_neg h1]
    simp[this]
  rw[e]
  split<;>omega
theorem f294(g:ew)(hg:eU g)(p:Pos)(hp:fj g p)(c:Clause)(hc:0≤c.kind∧c.kind<g.kinds.length):Wf T 294 [dG g,dP p,.agg c.cells] [] (Is (.b (decide (pB p p.side c.kind=0)))):=by
 have hs:=hp.side
 refine Yg Br ?_
 simp[Br]
 refine Yt (f295 g hg p hp p.side hs) ?_
 simp
 simp[r7 hc.1 hc.2,← Ho]
 (with_reducible repeat' first|refine Xk ?_<;>try simp|refine Xs ?_ ?_<;>intro h<;>(try intro h')<;>(try simp[h])<;>(try omega)|refine Xg ?_|omega)
theorem f296(g:ew)(hg:eU g)(p:Pos)(hp:fj g p)(c:Clause)(hc:0≤c.kind∧c.kind<g.kinds.length)(hn:0≤c.n∧c.n<g.size):Wf T 296 [dG g,dP p,.agg c.cells] [] (Is (.b (decide (gt p.cs c.n=jq c.kind (1-p.side))))):=by
 have hs:=hp.side
 have hz:=hp.size
 have hk:=hg.kinds
 refine Yg Bt ?_
 simp[Bt]
 (with_reducible repeat' first|refine Xk ?_<;>try simp|refine Xs ?_ ?_<;>intro h<;>(try intro h')<;>(try simp[h])<;>(try omega)|refine Xg ?_|omega)
 refine Yt (f92 (k:=c.kind) (s:=1-p.side) (by omega) (by omega) (by omega) (by omega)) ?_
 simp
 simp[jq]
theorem OX(cs:List Int)(side:Int):lS cs side 1 = [((cs.countP fun c=>decide (jb side 0 c):Nat):Int)]:=by
 simp[lS,upto,List.range,List.range.loop]
theorem OY(cs:List Int)(side:Int):lS cs side 2 = [((cs.countP fun c=>decide (jb side 0 c):Nat):Int),(cs.countP fun c=>decide (jb side 1 c):Nat)]:=by
 simp[lS,upto,List.range,List.range.loop]
theorem f297(g:ew)(hg:eU g)(p:Pos)(hp:fj g p)(c:Clause):Wf T 297 [dG g,dP p,.agg c.cells] [] (Is (.b (decide (pB p p.side (-1)≤c.n)))):=by
 have hs:=hp.side
 have hz:=hp.size
 have hb:=hg.gF.size
 have hk:=hg.kinds
 have ha:=JR (side:=p.side) (K:=g.kinds.length) (by omega) (cs:=p.cs) hp.cs
 have l0:=cF (p:=fun c=>decide (jb p.side 0 c)) (l:=p.cs)
 have l1:=cF (p:=fun c=>decide (jb p.side 1 c)) (l:=p.cs)
 rw[Ho,ha]
 refine Yg Bu ?_
 simp[Bu]
 refine Yc (f295 g hg p hp p.side hs) ?_
 simp
 rcases(show g.kinds.length=1∨g.kinds.length=2 by omega)with e|e
 ·rw[e,OX]
  simp
  generalize (p.cs.countP fun c=>decide (jb p.side 0 c))=n0 at *
  have g0:gt [(n0:Int)] 0=n0:=rfl
  refine eE.un ?_
  refine ib.u ?_
  simp[g0]
  (with_reducible repeat' first|refine Xk ?_<;>try simp[g0]|refine Xs ?_ ?_<;>intro h<;>(try intro h')<;>(try simp[h,g0])<;>(try omega)|refine Xg ?_|omega)
  refine ib.u ?_
  simp[g0]
 ·rw[e,OY]
  simp
  generalize (p.cs.countP fun c=>decide (jb p.side 0 c))=n0 at *
  generalize (p.cs.countP fun c=>decide (jb p.side 1 c))=n1 at *
  have g0:gt [(n0:Int),n1] 0=n0:=rfl
  have g1:gt [(n0:Int),n1] 1=n1:=rfl
  refine eE.un ?_
  refine ib.u ?_
  simp[g0]
  (with_reducible repeat' first|refine Xk ?_<;>try simp[g0]|refine Xs ?_ ?_<;>intro h<;>(try intro h')<;>(try simp[h,g0])<;>(try omega)|refine Xg ?_|omega)
  refine ib.u ?_
  simp[g1]
  (with_reducible repeat' first|refine Xk ?_<;>try simp[g1]|refine Xs ?_ ?_<;>intro h<;>(try intro h')<;>(try simp[h,g1])<;>(try omega)|refine Xg ?_|omega)
  refine ib.u ?_
  simp[g1]
theorem f46(g:ew)(hg:eU g)(p:Pos)(hp:fj g p):Wf T 46 [dG g,dP p] [] (Ey (fun n:Int=>.tup [.i n,.b (decide (ended g p))]) fun _=>True):=by
 have ff:=hg.clauses
 refine Yg BB ?_
 simp[BB]
 refine eE.e (0:Int) (fun y=>[(2,.ptr 0 0 0),(3,.ptr 1 0 0),(9,dN 4 Clause.cells g.clauses),(10,.i g.clauses.length),(11,.i y)]) (fun y=>[.row 41 0 g.cells,.row 44 0 p.cells]) (fun y=>0≤y∧y≤g.clauses.length∧∀ c∈g.clauses.take y.toNat,¬ kQ p c) (fun y=>(g.clauses.length-y).toNat) ?_ ?_
 ·simp
 rintro i ⟨i0,i1,i2⟩
 by_cases hi:i<g.clauses.length
 ·have hm:=eI i0 hi
  have hc:=hg.clause _ hm
  have ho:=hc.ok
  have Gb:kQ p (gt g.clauses i)→decide (ended g p)=true:=fun h=>decide_eq_true ⟨_,hm,h⟩
  have mg:¬ kQ p (gt g.clauses i)→∀ c∈g.clauses.take (i+1).toNat,¬ kQ p c:=fun h c hc=>by
   rw[gg i0 hi]at hc
   rcases List.mem_append.1 hc with hc|hc
   ·exact i2 c hc
   ·rw[List.mem_singleton.1 hc];exact h
  simp[hi]
  (with_reducible repeat' first|refine Xk ?_<;>try simp|refine Xs ?_ ?_<;>intro h<;>(try intro h')<;>(try simp[h])<;>(try omega)|refine Xg ?_|omega)
  rcases(show(gt g.clauses i).cond=1∨(gt g.clauses i).cond=2∨(gt g.clauses i).cond=3 by omega)with e|e|e
  ·simp[e]
   refine Yt (f294 g hg p hp ⟨1,(gt g.clauses i).kind,(gt g.clauses i).n,(gt g.clauses i).out⟩ (by dsimp only;omega)) ?_
   simp
   have sx:kQ p (gt g.clauses i)=(pB p p.side (gt g.clauses i).kind=0):=by simp[kQ,e]
   by_cases hx:pB p p.side (gt g.clauses i).kind=0
   ·simp[hx]
    exact Ey.i (gt g.clauses i).out (by simp[Gb (sx▸hx)]) rfl trivial
   ·simp[hx]
    (with_reducible repeat' first|refine Xk ?_<;>try simp|refine Xs ?_ ?_<;>intro h<;>(try intro h')<;>(try simp[h])<;>(try omega)|refine Xg ?_|omega)
    refine LJ.e (i+1) ?_
    exact⟨by omega,by omega,by omega,mg (sx▸hx)⟩
  ·simp[e]
   refine Yt (f296 g hg p hp ⟨2,(gt g.clauses i).kind,(gt g.clauses i).n,(gt g.clauses i).out⟩ (by dsimp only;omega) (by dsimp only;omega)) ?_
   simp
   have sx:kQ p (gt g.clauses i)=(gt p.cs (gt g.clauses i).n=jq (gt g.clauses i).kind (1-p.side)):=by simp[kQ,e]
   by_cases hx:gt p.cs (gt g.clauses i).n=jq (gt g.clauses i).kind (1-p.side)
   ·simp[hx]
    exact Ey.i (gt g.clauses i).out (by simp[Gb (sx▸hx)]) rfl trivial
   ·simp[hx]
    (with_reducible repeat' first|refine Xk ?_<;>try simp|refine Xs ?_ ?_<;>intro h<;>(try intro h')<;>(try simp[h])<;>(try omega)|refine Xg ?_|omega)
    refine LJ.e (i+1) ?_
    exact⟨by omega,by omega,by omega,mg (sx▸hx)⟩
  ·simp[e]
   refine Yt (f297 g hg p hp ⟨3,(gt g.clauses i).kind,(gt g.clauses i).n,(gt g.clauses i).out⟩) ?_
   simp
   have sx:kQ p (gt g.clauses i)=(pB p p.side (-1)≤(gt g.clauses i).n):=by simp[kQ,e]
   by_cases hx:pB p p.side (-1)≤(gt g.clauses i).n
   ·simp[hx]
    exact Ey.i (gt g.clauses i).out (by simp[Gb (sx▸hx)]) rfl trivial
   ·simp[hx]
    (with_reducible repeat' first|refine Xk ?_<;>try simp|refine Xs ?_ ?_<;>intro h<;>(try intro h')<;>(try simp[h])<;>(try omega)|refine Xg ?_|omega)
    refine LJ.e (i+1) ?_
    exact⟨by omega,by omega,by omega,mg (sx▸hx)⟩
 ·simp[hi]
  have:¬ ended g p:=fun⟨c,hc,h⟩=>i2 c (by rw[iD (by omega)];exact hc) h
  exact Ey.i 0 (by simp[this]) rfl trivial
