/- Part 38 of the proof of skewer.skewerlaw15.TableAgain. -/
import Derived.Test.YtnaefnajkaohgaaGreatDoorD28
import Derived.Test.YtnaefnajkaohgaaGreatDoorD23
set_option linter.all false
namespace Go.Proofs.YtnaefnajkaohgaaGreatDoor
open Go Go.AL Classical
set_option maxRecDepth 10000
set_option maxHeartbeats 4000000
def jZ(v:List eT)(b:List Bool):Nat→Int
 | 0 => -1
 | n+1=>if gt b (n:Int)=false∧(gt v (n:Int)).1≠2 then max (jZ v b n) (gt v (n:Int)).2 else jZ v b n
@[simp] theorem ah8(v:List eT)(b:List Bool):jZ v b 0 = -1:=rfl
theorem Td{v:List eT}{b:List Bool}{i:Int}(i0:0≤i):jZ v b (i+1).toNat=if gt b i=false∧(gt v i).1≠2 then max (jZ v b i.toNat) (gt v i).2 else jZ v b i.toNat:=by
 have h:(i+1).toNat=i.toNat+1:=by omega
 have h2:((i.toNat:Nat):Int)=i:=by omega
 rw[h,jZ,h2]
theorem f163(v:List eT)(b:List Bool)(g:eO)(l:List Pos)(nx:List (List Int))(hb:b.length=v.length)(h9:v.length≤4000):Wf T 163 [.eZ [gq v,.sl 1 (b.map fB),.i g.size,.sl 1 (g.next.map fI),dI g.gN,.sl 3 (g.kinds.map Kind.cells),.i g.fg,.b g.kS,dN 4 Clause.cells g.clauses,.i g.blocked,.i g.oK,fW l,.sl 1 (nx.map fN)]] [] (Is (.i (jZ v b v.length))):=by
 refine Yg B5 ?_
 simp[B5]
 (with_reducible repeat' first|refine Xk ?_<;>try simp|refine Xs ?_ ?_<;>intro h<;>(try intro h')<;>(try simp[h])<;>(try omega)|refine Xg ?_|omega)
 refine eW.e (0:Int) (fun y=>[(0,.eZ [gq v,.sl 1 (b.map fB),.i g.size,.sl 1 (g.next.map fI),dI g.gN,.sl 3 (g.kinds.map Kind.cells),.i g.fg,.b g.kS,dN 4 Clause.cells g.clauses,.i g.blocked,.i g.oK,fW l,.sl 1 (nx.map fN)]),(3,.i (jZ v b y.toNat)),(9,gq v),(10,.i v.length),(11,.i y)]) (fun y=>[]) (fun y=>0≤y∧y≤v.length) (fun y=>(v.length-y).toNat) ?_ ?_
 ·simp
 rintro i ⟨i0,i1⟩
 dsimp only at i0 i1 ⊢
 by_cases hi:i<v.length
 ·have oj:=Td (v:=v) (b:=b) i0
  simp[hi]
  (with_reducible repeat' first|refine Xk ?_<;>try simp|refine Xs ?_ ?_<;>intro h<;>(try intro h')<;>(try simp[h])<;>(try omega)|refine Xg ?_|omega)
  all_goals
   refine LJ.i (i+1) (by first|rfl|simp[oj,h, *]) (by first|rfl|simp[oj,h, *]) rfl rfl ?_
   omega
 ·have:i=v.length:=by omega
  subst this
  simp
def lD(b:List Bool)(part:List Int)(n:Int):Nat→Int×Int
 | 0=>(0,-1)
 | k+1=>if gt b (gt part (k:Int))=true∧uh (gt part (k:Int)) n≠(lD b part n k).2 then((lD b part n k).1+1,uh (gt part (k:Int)) n)else lD b part n k
@[simp] theorem ai3(b:List Bool)(part:List Int)(n:Int):lD b part n 0=(0,-1):=rfl
theorem We{b:List Bool}{part:List Int}{n i:Int}(i0:0≤i):lD b part n (i+1).toNat=if gt b (gt part i)=true∧uh (gt part i) n≠(lD b part n i.toNat).2 then((lD b part n i.toNat).1+1,uh (gt part i) n)else lD b part n i.toNat:=by
 have h:(i+1).toNat=i.toNat+1:=by omega
 have h2:((i.toNat:Nat):Int)=i:=by omega
 rw[h,lD,h2]
theorem Ft(b:List Bool)(part:List Int)(n:Int):∀ k:Nat,0≤(lD b part n k).1∧(lD b part n k).1≤k
 | 0=>by simp
 | k+1=>by
  have:=Ft b part n k
  unfold lD
  split
  ·dsimp only;omega
  ·omega
theorem f118(v:List eT)(b:List Bool)(g:eO)(l:List Pos)(nx:List (List Int))(part:List Int)(n:Int)(hp:∀ i∈part,0≤i∧i<b.length)(h9:part.length≤4000)(hb:b.length≤4000)(hn:1≤n∧n≤9223372036854775807):Wf T 118 [.eZ [gq v,.sl 1 (b.map fB),.i g.size,.sl 1 (g.next.map fI),dI g.gN,.sl 3 (g.kinds.map Kind.cells),.i g.fg,.b g.kS,dN 4 Clause.cells g.clauses,.i g.blocked,.i g.oK,fW l,.sl 1 (nx.map fN)],dI part,.i n] [] (Is (.i (lD b part n part.length).1)):=by
 refine Yg BD ?_
 simp[BD]
 (with_reducible repeat' first|refine Xk ?_<;>try simp|refine Xs ?_ ?_<;>intro h<;>(try intro h')<;>(try simp[h])<;>(try omega)|refine Xg ?_|omega)
 refine eW.e (0:Int) (fun y=>[(0,.eZ [gq v,.sl 1 (b.map fB),.i g.size,.sl 1 (g.next.map fI),dI g.gN,.sl 3 (g.kinds.map Kind.cells),.i g.fg,.b g.kS,dN 4 Clause.cells g.clauses,.i g.blocked,.i g.oK,fW l,.sl 1 (nx.map fN)]),(2,.i n),(7,.i (lD b part n y.toNat).1),(8,.i (lD b part n y.toNat).2),(12,dI part),(13,.i part.length),(14,.i y)]) (fun y=>[]) (fun y=>0≤y∧y≤part.length) (fun y=>(part.length-y).toNat) ?_ ?_
 ·simp
 rintro i ⟨i0,i1⟩
 dsimp only at i0 i1 ⊢
 by_cases hi:i<part.length
 ·have oj:=We (b:=b) (part:=part) (n:=n) i0
  have fw:=hp _ (eY i0 hi)
  have hk:=Ft b part n i.toNat
  simp[hi]
  (with_reducible repeat' first|refine Xk ?_<;>try simp|refine Xs ?_ ?_<;>intro h<;>(try intro h')<;>(try simp[h])<;>(try omega)|refine Xg ?_|omega)
  all_goals
   refine LJ.i (i+1) (by first|rfl|simp[oj,h, *]) (by first|rfl|simp[oj,h, *]) rfl rfl ?_
   omega
 ·have:i=part.length:=by omega
  subst this
  simp
noncomputable def uT(g:eO)(p:Pos):Int:=if ended g p then(gt g.clauses (pI g p)).out else 0
theorem Sd{g:eO}{p:Pos}{i:Int}(i0:0≤i)(hi:i<g.clauses.length)(h2:∀ c∈g.clauses.take i.toNat,¬ iV p c)(h:iV p (gt g.clauses i)):uT g p=(gt g.clauses i).out:=by
 have he:ended g p:=⟨_,eY i0 hi,h⟩
 have hx:g.clauses.findIdx (fun c=>decide (iV p c))=i.toNat:=by
  rw[List.findIdx_eq (by omega)]
  refine⟨?_,fun j hj=>?_⟩
  ·have:gt g.clauses i=g.clauses[i.toNat]:=by
    unfold gt
    rw[List.getD_eq_getElem?_getD,List.getElem?_eq_getElem (by omega)];rfl
   rw[← this];simpa using h
  ·simp only[decide_eq_false_iff_not]
   refine h2 _ ?_
   rw[cW]
   exact⟨j,by omega,rfl⟩
 unfold uT pI
 rw[if_pos he,if_pos he,hx]
 congr 1
theorem SE(g:eO)(hg:fi g)(p:Pos)(hp:fF g p):Wf T 46 [dG g,dP p] [] (Is (.tup [.i (uT g p),.b (decide (ended g p))])):=by
 have fE:=hg.clauses
 refine Yg wz ?_
 simp[wz]
 refine eW.e (0:Int) (fun y=>[(2,.ptr 0 0 0),(3,.ptr 1 0 0),(9,dN 4 Clause.cells g.clauses),(10,.i g.clauses.length),(11,.i y)]) (fun y=>[.row 41 0 g.cells,.row 44 0 p.cells]) (fun y=>0≤y∧y≤g.clauses.length∧∀ c∈g.clauses.take y.toNat,¬ iV p c) (fun y=>(g.clauses.length-y).toNat) ?_ ?_
 ·simp
 rintro i ⟨i0,i1,i2⟩
 by_cases hi:i<g.clauses.length
 ·have hm:=eY i0 hi
  have hc:=hg.clause _ hm
  have ho:=hc.ok
  have EI:iV p (gt g.clauses i)→decide (ended g p)=true:=fun h=>decide_eq_true ⟨_,hm,h⟩
  have Ih:iV p (gt g.clauses i)→ended g p:=fun h=>⟨_,hm,h⟩
  have Ab:iV p (gt g.clauses i)→uT g p=(gt g.clauses i).out:=fun h=>Sd i0 hi i2 h
  have l9:¬ iV p (gt g.clauses i)→∀ c∈g.clauses.take (i+1).toNat,¬ iV p c:=fun h c hc=>by
   rw[gx i0 hi]at hc
   rcases List.mem_append.1 hc with hc|hc
   ·exact i2 c hc
   ·rw[List.mem_singleton.1 hc];exact h
  simp[hi]
  (with_reducible repeat' first|refine Xk ?_<;>try simp|refine Xs ?_ ?_<;>intro h<;>(try intro h')<;>(try simp[h])<;>(try omega)|refine Xg ?_|omega)
  rcases(show(gt g.clauses i).cond=1∨(gt g.clauses i).cond=2∨(gt g.clauses i).cond=3 by omega)with e|e|e
  ·simp[e]
   refine Yt (f294 g hg p hp ⟨1,(gt g.clauses i).kind,(gt g.clauses i).n,(gt g.clauses i).out⟩ (by dsimp only;omega)) ?_
   simp
   have l5:iV p (gt g.clauses i)=(oy p p.side (gt g.clauses i).kind=0):=by simp[iV,e]
   by_cases hx:oy p p.side (gt g.clauses i).kind=0
   ·simp[hx]
    exact⟨(Ab (l5▸hx)).symm,Ih (l5▸hx)⟩
   ·simp[hx]
    (with_reducible repeat' first|refine Xk ?_<;>try simp|refine Xs ?_ ?_<;>intro h<;>(try intro h')<;>(try simp[h])<;>(try omega)|refine Xg ?_|omega)
    refine LJ.e (i+1) ?_
    exact⟨by omega,by omega,by omega,l9 (l5▸hx)⟩
  ·simp[e]
   refine Yt (f296 g hg p hp ⟨2,(gt g.clauses i).kind,(gt g.clauses i).n,(gt g.clauses i).out⟩ (by dsimp only;omega) (by dsimp only;omega)) ?_
   simp
   have l5:iV p (gt g.clauses i)=(gt p.cs (gt g.clauses i).n=iG (gt g.clauses i).kind (1-p.side)):=by simp[iV,e]
   by_cases hx:gt p.cs (gt g.clauses i).n=iG (gt g.clauses i).kind (1-p.side)
   ·simp[hx]
    exact⟨(Ab (l5▸hx)).symm,Ih (l5▸hx)⟩
   ·simp[hx]
    (with_reducible repeat' first|refine Xk ?_<;>try simp|refine Xs ?_ ?_<;>intro h<;>(try intro h')<;>(try simp[h])<;>(try omega)|refine Xg ?_|omega)
    refine LJ.e (i+1) ?_
    exact⟨by omega,by omega,by omega,l9 (l5▸hx)⟩
  ·simp[e]
   refine Yt (f297 g hg p hp ⟨3,(gt g.clauses i).kind,(gt g.clauses i).n,(gt g.clauses i).out⟩) ?_
   simp
   have l5:iV p (gt g.clauses i)=(oy p p.side (-1)≤(gt g.clauses i).n):=by simp[iV,e]
   by_cases hx:oy p p.side (-1)≤(gt g.clauses i).n
   ·simp[hx]
    exact⟨(Ab (l5▸hx)).symm,Ih (l5▸hx)⟩
   ·simp[hx]
    (with_reducible repeat' first|refine Xk ?_<;>try simp|refine Xs ?_ ?_<;>intro h<;>(try intro h')<;>(try simp[h])<;>(try omega)|refine Xg ?_|omega)
    refine LJ.e (i+1) ?_
    exact⟨by omega,by omega,by omega,l9 (l5▸hx)⟩
 ·simp[hi]
  have:¬ ended g p:=fun⟨c,hc,h⟩=>i2 c (by rw[jg (by omega)];exact hc) h
  simp[uT,this]
theorem f54(g:eO)(hg:fi g)(p:Pos)(hp:fF g p):Wf T 54 [dG g,dP p] [] (Is (.tup [.i (stat g p).1,.b (stat g p).2])):=by
 have he:ended g p→gM g p = []:=JI
 refine Yg C6 ?_
 simp[C6]
 refine Yc (SE g hg p hp) ?_
 simp
 by_cases h0:ended g p
 ·simp[h0,stat,uT,he h0]
 ·simp[h0,stat,uT]
  refine Yc (f26 g hg p hp) ?_
  simp
  (with_reducible repeat' first|refine Xk ?_<;>try simp|refine Xs ?_ ?_<;>intro h<;>(try intro h')<;>(try simp[h])<;>(try omega)|refine Xg ?_|omega)
  all_goals simp[h0, *]
set_option maxRecDepth 10000
set_option maxHeartbeats 8000000
def jr(v:List eT)(b:List Bool)(x:List Int):Nat→Int×Int
 | 0=>(0,-1)
 | j+1=>if gt b (gt x (j:Int))=false∧(gt v (gt x (j:Int))).1=1 then((jr v b x j).1+1,max (jr v b x j).2 (gt v (gt x (j:Int))).2)else jr v b x j
@[simp] theorem am2(v:List eT)(b:List Bool)(x:List Int):jr v b x 0=(0,-1):=rfl
theorem ac6{v:List eT}{b:List Bool}{x:List Int}{i:Int}(i0:0≤i):jr v b x (i+1).toNat=if gt b (gt x i)=false∧(gt v (gt x i)).1=1 then((jr v b x i.toNat).1+1,max (jr v b x i.toNat).2 (gt v (gt x i)).2)else jr v b x i.toNat:=by
 have h:(i+1).toNat=i.toNat+1:=by omega
 have h2:((i.toNat:Nat):Int)=i:=by omega
 rw[h,jr,h2]
def qv(v:List eT)(b:List Bool)(x:List Int)(n:Int):Prop:=∃ k∈x,gt b k=false∧gt v k=(3,n-1)
noncomputable def jz(g:eO)(p:Pos)(v:List eT)(b:List Bool)(x:List Int)(n:Int):eT×Bool:=
 if n=0 then(((stat g p).1,0),(stat g p).2)else
 if qv v b x n then((1,n),true)else((3,n),decide (0<x.length∧(jr v b x x.length).1=x.length∧(jr v b x x.length).2=n-1))
theorem GD(v:List eT)(b:List Bool)(x:List Int):∀ k:Nat,0≤(jr v b x k).1∧(jr v b x k).1≤k
 | 0=>by simp
 | k+1=>by
  have:=GD v b x k
  unfold jr
  split
  ·dsimp only;omega
  ·omega
theorem f119(g:eO)(hg:fi g)(l:List Pos)(hl:∀ p∈l,fF g p)(v:List eT)(b:List Bool)(nx:List (List Int))(i n:Int)(hi:0≤i∧i<l.length)(hn:0≤n∧n≤4000)(hx:nx.length=l.length)
  (hk:∀ k∈gt nx i,0≤k∧k<l.length) (hv:v.length=l.length) (hb:b.length=l.length) (qq:(gt nx i).length≤4000000000) :
  Wf T 119 [.eZ [gq v,.sl 1 (b.map fB),.i g.size,.sl 1 (g.next.map fI),dI g.gN,.sl 3 (g.kinds.map Kind.cells),.i g.fg,.b g.kS,dN 4 Clause.cells g.clauses,.i g.blocked,.i g.oK,fW l,.sl 1 (nx.map fN)],.i i,.i n] []
   (Is (.tup [.agg [.i (jz g (gt l i) v b (gt nx i) n).1.1,.i (jz g (gt l i) v b (gt nx i) n).1.2],.b (jz g (gt l i) v b (gt nx i) n).2])):=by
 refine Yg BE ?_
 simp[BE]
 (with_reducible repeat' first|refine Xk ?_<;>try simp[oc]|refine Xs ?_ ?_<;>intro h<;>(try intro h')<;>(try simp[h,oc])<;>(try omega)|refine Xg ?_|omega)
 ·refine Yt (f54 g hg _ (hl _ (eY hi.1 hi.2))) ?_
  simp
  simp[jz,h]
 generalize hX:gt nx i=x at *
 refine eW.e (0:Int) (fun y=>[(0,.eZ [gq v,.sl 1 (b.map fB),.i g.size,.sl 1 (g.next.map fI),dI g.gN,.sl 3 (g.kinds.map Kind.cells),.i g.fg,.b g.kS,dN 4 Clause.cells g.clauses,.i g.blocked,.i g.oK,fW l,.sl 1 (nx.map fN)]),(1,.i i),(2,.i n),(6,.ptr 0 0 0),(10,.i (jr v b x y.toNat).1),(11,.i (jr v b x y.toNat).2),(41,dN 1 f1 x),(42,.i x.length),(43,.i y)]) (fun y=>[.row 58 0 [.i 0,.i 0]]) (fun y=>0≤y∧y≤x.length∧∀ k∈x.take y.toNat,¬ (gt b k=false∧gt v k=(3,n-1))) (fun y=>(x.length-y).toNat) ?_ ?_
 ·simp
 rintro j ⟨j0,j1,j2⟩
 dsimp only at j0 j1 j2 ⊢
 by_cases hj:j<x.length
 ·have oj:=ac6 (v:=v) (b:=b) (x:=x) j0
  have fw:=hk _ (eY j0 hj)
  have hw:=GD v b x j.toNat
  have l9:¬ (gt b (gt x j)=false∧gt v (gt x j)=(3,n-1))→∀ k∈x.take (j+1).toNat,¬ (gt b k=false∧gt v k=(3,n-1)):=fun h k hk=>by
   rw[gx j0 hj]at hk
   rcases List.mem_append.1 hk with hk|hk
   ·exact j2 k hk
   ·rw[List.mem_singleton.1 hk];exact h
  have k8:∀ y:eT,gt v (gt x j)=y↔(gt v (gt x j)).1=y.1∧(gt v (gt x j)).2=y.2:=fun y=>Prod.ext_iff
  simp[hj]
  (with_reducible repeat' first|refine Xk ?_<;>try simp|refine Xs ?_ ?_<;>intro h<;>(try intro h')<;>(try simp[h])<;>(try omega)|refine Xg ?_|omega)
  ·refine LJ.i (j+1) (by first|rfl|simp[oj, *]) (by first|rfl|simp[oj, *]) rfl rfl ?_
   exact⟨by omega,by omega,by omega,l9 (by simp[*])⟩
  ·have hl:qv v b x n:=⟨_,eY j0 hj,by assumption,(k8 _).2 ⟨by assumption,by assumption⟩⟩
   simp[jz,hl, *]
  ·refine LJ.i (j+1) (by first|rfl|simp[oj, *]) (by first|rfl|simp[oj, *]) rfl rfl ?_
   exact⟨by omega,by omega,by omega,l9 (by rw[k8];simp[*])⟩
  ·refine LJ.i (j+1) (by first|rfl|simp[oj, *]) (by first|rfl|simp[oj, *]) rfl rfl ?_
   exact⟨by omega,by omega,by omega,l9 (by rw[k8];simp[*])⟩
  ·refine LJ.i (j+1) (by first|rfl|simp[oj, *]) (by first|rfl|simp[oj, *]) rfl rfl ?_
   exact⟨by omega,by omega,by omega,l9 (by rw[k8];simp[*])⟩
 ·have Ir:j=x.length:=by omega
  subst Ir
  have hl:¬ qv v b x n:=fun⟨k,hk,h⟩=>j2 k (by rw[jg (by omega)];exact hk) h
  simp[hj,oc,hX]
  (with_reducible repeat' first|refine Xk ?_<;>try simp[oc,hX]|refine Xs ?_ ?_<;>intro h<;>(try intro h')<;>(try simp[h,oc,hX])<;>(try omega)|refine Xg ?_|omega)
  all_goals simp[jz, *]
end Go.Proofs.YtnaefnajkaohgaaGreatDoor
namespace Go.AL
open Go
section
variable{T:gb}{live:List Nat}{a:IR}{s:St}{K:gv}{α:Type}
theorem eW.kg(ms:List Nat)(rd:Bool)(x0:α)(E:α→Env)(Hp:α→U)(P:α→Prop)(μ:α→Nat)
  (h0:P x0) (hE:forget ((E x0).map (·.1)) s.env=E x0) (hH:s.H=Hp x0) (hm:s.marks=ms) (hr:s.fL=rd) (sv:(((E x0).map (·.1)).all fun k=>live.contains k)=true)
  (h:∀ x,P x→XC T a { env:=E x,H:=Hp x,marks:=ms,fL:=rd } (sJ s.H.length live ((E x0).map (·.1)) (LJ E Hp ms rd (fun x'=>μ x'<μ x∧P x') .mk) K)):eW T live a s K .mk:=
 eW.j x0 E Hp P μ h0 hE hH sv (by rw[hm,hr];exact h)
end
def D7(H:U):Option Ob→Option D
 | some (.jt (.omap m) since seen)=>(jW H m).bind fun p=>seen.getLast?.bind fun i=>p.2[i]?.bind fun e=>if p.2.length=since then some (.tup [.val e.1,e.2])else none
 | _=>none
theorem Se(H:U)(x:Option Ob):(match x with
  | some (.jt (.omap m) since seen)=>(match jW H m,seen.getLast? with
   | some (_,es),some i=>(match es[i]? with
    | some (k,d)=>if es.length=since then some (.tup [.val k,d])else none
    | none=>none)
   | _,_=>none)
  | _=>none)=D7 H x:=by
 unfold D7
 split
 ·rename_i m since seen
  cases hm:jW H m with
  | none=>simp
  | some p=>
   cases hs:seen.getLast? with
   | none=>simp
   | some i=>
    simp only[Option.bind_some]
    cases p.2[i]? <;> rfl
 ·rfl
@[simp] theorem ahp(v:Nat)(H:U):D8 (.ptr v 0 0) H=D7 H H[v]? := Se H H[v]?
@[simp] theorem aho(H:U)(m since:Nat)(seen:List Nat):D7 H (some (.jt (.omap m) since seen))=(jW H m).bind fun p=>seen.getLast?.bind fun i=>p.2[i]?.bind fun e=>if p.2.length=since then some (.tup [.val e.1,e.2])else none:=rfl
@[simp] theorem akY(m:Nat)(H:U)(vn:Nat):AR (.omap m) H vn=(jW H m).bind fun p=>some (.ptr vn 0 0,.new (.jt (.omap m) p.2.length [])):=by
 simp only[AR]
 cases jW H m<;>rfl
theorem rO.at{v m since:Nat}{seen:List Nat}{kk:KK}{es:List (Value×D)}{dst:Option Nat}{s:St}{K:St→Prop}(hv:s.H[v]? = some (.jt (.omap m) since seen))(hm:s.H[m]? = some (.map kk es))(hs:es.length=since)
  (h0:(∀ i,i<es.length→i∈seen)→K { s with env:=put s.env dst (.tup [.b false]) })
  (h1:∀ i k d,es[i]? = some (k,d)→i ∉ seen→K { s with env:=put s.env dst (.tup [.b true,.val k,d]),H:=s.H.set v (.jt (.omap m) since (seen ++ [i])) }):rO (.ptr v 0 0) dst s K .mk:=
 ⟨v,m,since,seen,kk,es,rfl,hv,hm,hs,h0,h1⟩
@[simp] theorem af3(t:TypeId)(v k o n:Nat):pG t (.ptr v k o) n=some (.ptr n 0 0,.new (.row t 0 [.ptr v k o])):=rfl
@[simp] theorem afZ(t:TypeId)(l:List Int)(n:Nat):pG t (dI l) n=some (.ptr n 0 0,.new (.row t 0 [dI l])):=by unfold dI;rfl
@[simp] theorem akg(n:Nat)(m:D)(since:Nat)(seen:List Nat):mc n (.jt m since seen) = []:=rfl
@[simp] theorem alG(ρ:Nat→Option Nat)(H:U)(m:D)(since:Nat)(seen:List Nat):pz ρ H (some (.jt m since seen)) = .jt (eS ρ H 40 m) since seen:=rfl
@[simp] theorem ak6(H:U)(k:Nat)(f:Fn)(a b:List D):fX H (k+1) (.fn f a b)=(a.map (fX H k)).flatten++(b.map (fX H k)).flatten:=by
 by_cases h:closed (.fn f a b)=true
 ·have h':=h
  simp only[G8,ah]at h'
  rw[AV h,AW h'.1,AW h'.2];rfl
 ·rw[fX,if_neg h]
theorem V6(a b:Int):ox (.int .i64 a) (.int .i64 b)=decide (a=b):=by
 simp[ox,BEq.beq]
end Go.AL
namespace Go.Proofs.YtnaefnajkaohgaaGreatDoor
open Go Go.AL Classical
set_option maxRecDepth 10000
set_option maxHeartbeats 8000000
theorem Ew{α:Type}[Inhabited α]{l l':List α}(h:l.length=l'.length)(k:∀ j:Int,0≤j→j<l.length→gt l j=gt l' j):l=l':=
 List.ext_getElem h fun i h1 h2=>by
  have:=k i (by omega) (by omega)
  rwa [tB h1,tB h2]at this
def iX{α:Type}(v:List α)(en:Int→α):List Int→List α
 | []=>v
 | i::r=>iX (pt v i (en i)) en r
@[simp] theorem akV{α:Type}(en:Int→α)(v:List α):iX v en []=v:=rfl
theorem sP{α:Type}(en:Int→α)(i:Int):∀ (r:List Int) (v:List α),iX v en (r ++ [i])=pt (iX v en r) i (en i)
 | [],v=>rfl
 | j::r,v=>sP en i r (pt v j (en j))
theorem oz{α:Type}[Inhabited α](en:Int→α):∀ (r:List Int) (v:List α),(∀ i∈r,0≤i∧i<v.length)→(iX v en r).length=v.length
 | [],v,_=>rfl
 | i::r,v,h=>by
  have h1:=h i (by simp)
  have h2:=gC (v:=en i) h1.1 h1.2
  rw[iX,oz en r _ fun j hj=>by rw[h2];exact h j (by simp[hj]),h2]
theorem sf{α:Type}[Inhabited α](en:Int→α):∀ (r:List Int) (v:List α),(∀ i∈r,0≤i∧i<v.length)→∀ j:Int,0≤j→j<v.length→gt (iX v en r) j=if j∈r then en j else gt v j
 | [],v,_,j,_,_=>by simp[iX]
 | i::r,v,h,j,j0,j1=>by
  have h1:=h i (by simp)
  have h2:=gC (v:=en i) h1.1 h1.2
  rw[iX,sf en r _ (fun k hk=>by rw[h2];exact h k (by simp[hk])) j j0 (by omega),lA h1.1 h1.2 j0]
  by_cases hr:j∈r
  ·simp[hr]
  ·by_cases e:j=i
   ·subst e;simp[hr]
   ·simp[hr,e]
theorem PA{α:Type}[Inhabited α]{en:Int→α}{r r':List Int}{v:List α}(h:∀ i∈r,0≤i∧i<v.length)(hm:∀ i,i∈r↔i∈r'):iX v en r=iX v en r':=by
 have h':∀ i∈r',0≤i∧i<v.length:=fun i hi=>h i ((hm i).2 hi)
 have e1:=oz en r v h
 have e2:=oz en r' v h'
 refine Ew (by omega) fun j j0 j1=>?_
 rw[sf en r v h j j0 (by omega),sf en r' v h' j j0 (by omega)]
 simp only[hm]
def lH(en:Int→eT)(ds:List Int):List (Value×D):=ds.map fun i=>(.int .i64 i,.agg [.i (en i).1,.i (en i).2])
theorem OZ{en:Int→eT}{i:Int}:∀ {ds:List Int},i ∉ ds→kl (lH en ds) (.int .i64 i) (.agg [.i (en i).1,.i (en i).2])=lH en (ds ++ [i])
 | [],_=>by simp[lH,kl]
 | j::ds,h=>by
  have h1:i≠j:=fun e=>h (by simp[e])
  have h2:i ∉ ds:=fun e=>h (by simp[e])
  have:=OZ (en:=en) h2
  unfold lH at this ⊢
  rw[List.map_cons,kl,V6,this]
  simp[h1]
@[simp] theorem aht(en:Int→eT):lH en [] = []:=rfl
@[simp] theorem Sm(en:Int→eT)(ds:List Int):(lH en ds).length=ds.length:=by simp[lH]
theorem Sl{en:Int→eT}{ds:List Int}{i:Nat}{k:Value}{d:D}(h:(lH en ds)[i]? = some (k,d)):i<ds.length∧k = .int .i64 (gt ds (i:Int))∧d = .agg [.i (en (gt ds (i:Int))).1,.i (en (gt ds (i:Int))).2]:=by
 unfold lH at h
 rw[ar]at h
 obtain⟨a,ha,he⟩:=ai.1 h
 obtain⟨hi,e⟩:=ae.1 ha
 refine⟨hi,?_⟩
 rw[tB hi,e]
 exact⟨(congrArg Prod.fst he).symm,(congrArg Prod.snd he).symm⟩
@[simp] theorem alM(ρ:Nat→Option Nat)(H:U)(en:Int→eT)(ds:List Int):((lH en ds).map fun x=>(x.1,eS ρ H 40 x.2))=lH en ds:=by
 unfold lH
 rw[cd]
 refine aj fun i _=>?_
 simp
@[simp] theorem amF(n:Nat)(en:Int→eT)(ds:List Int):((lH en ds).map fun x=>gE n x.2)=ds.map fun _=>[]:=by
 unfold lH
 rw[cd]
 rfl
@[simp] theorem ahD(p:Nat→Bool)(n:Nat)(en:Int→eT)(ds:List Int):((lH en ds).map ((List.filter p) ∘ fun x=>gE n x.2))=ds.map fun _=>[]:=by
 unfold lH
 rw[cd]
 rfl
@[simp] theorem ahN{α β:Type}(ds:List α):(ds.map fun _=>([]:List β)).flatten = []:=by
 induction ds with
 | nil=>rfl
 | cons a r ih=>simp
section
variable(g:eO)(l:List Pos)(nx:List (List Int))(part:List Int)
noncomputable def oa(v:List eT)(b:List Bool)(n:Int)(i:Int):eT:=(jz g (gt l i) v b (gt nx i) n).1
noncomputable def kc(v:List eT)(b:List Bool)(n:Int)(i:Int):Bool:=(jz g (gt l i) v b (gt nx i) n).2&&gt b i
noncomputable def lX(v:List eT)(b:List Bool)(n:Int):List Int:=part.filter (kc g l nx v b n)
noncomputable def rV(v:List eT)(b:List Bool)(n:Int):List eT:=iX v (oa g l nx v b n) (lX g l nx part v b n)
noncomputable def rB(v:List eT)(b:List Bool)(n:Int):List Bool:=iX b (fun _=>false) (lX g l nx part v b n)
noncomputable def iF(bu:Int):Nat→Int→List eT→List Bool→Int→Int×List eT×List Bool
 | 0,_,v,b,t=>(t,v,b)
 | f+1,n,v,b,t=>if n≤jZ (rV g l nx part v b n) (rB g l nx part v b n) v.length∧n<4000
  then iF bu f (n+1) (rV g l nx part v b n) (rB g l nx part v b n) (t+(lD b part bu part.length).1)
  else(t+(lD b part bu part.length).1,rV g l nx part v b n,rB g l nx part v b n)
def ky(v:List eT)(b:List Bool):List eT×List Bool:=(iX v (fun _=>(2,0)) (part.filter fun i=>gt b i),iX b (fun _=>false) (part.filter fun i=>gt b i))
@[simp] theorem ahE(v:List eT)(b:List Bool):ky [] v b=(v,b):=rfl
noncomputable def jM(bu:Int)(v:List eT)(b:List Bool):Int×List eT×List Bool:=
 let r:=iF g l nx part bu 4001 0 v (iX b (fun _=>true) part) 0
 (r.1,ky part r.2.1 r.2.2)
end
def gk(ds:List Int)(ys:List Nat):List Int:=ys.map fun j:Nat=>gt ds (j:Int)
@[simp] theorem ah7(ds:List Int):gk ds [] = []:=rfl
theorem O3{ds:List Int}{ys:List Nat}(fj:∀ j∈ys,j<ds.length)(gy:∀ j,j<ds.length→j∈ys)(i:Int):i∈gk ds ys↔i∈ds:=by
 unfold gk
 simp only[av]
 constructor
 ·rintro⟨j,hj,rfl⟩
  exact eY (by omega) (by have:=fj j hj;omega)
 ·intro h
  obtain⟨n,n0,n1,e⟩:=rv.1 h
  exact⟨n.toNat,gy _ (by omega),by rw[show((n.toNat:Nat):Int)=n by omega];exact e⟩
theorem Es{L:Nat}{ds:List Int}(mu:∀ i∈ds,0≤i∧i<L){ys:List Nat}(fj:∀ j∈ys,j<ds.length):∀ i∈gk ds ys,0≤i∧i<L:=fun i hi=>by
 unfold gk at hi
 obtain⟨j,hj,rfl⟩:=av.1 hi
 exact mu _ (eY (by omega) (by have:=fj j hj;omega))
theorem Et(ds:List Int)(ys:List Nat)(i:Nat):gk ds (ys ++ [i])=gk ds ys ++ [gt ds (i:Int)]:=by simp[gk]
theorem mn{l:List eT}{n:Int}(a b:Int):(cl fS l).take (n.toNat*2) ++ .i a :: .i b::(cl fS l).drop (n.toNat*2+2)=cl fS (pt l n (a,b)):=by
 rw[show n.toNat*2+2=(n.toNat+1)*2 by omega,rY,rZ]
 unfold pt
 rw[← yX,mH,tw]
 rfl
theorem D1{g:eO}{l:List Pos}{nx:List (List Int)}{part:List Int}{v:List eT}{b:List Bool}{n i:Int}(h:i∈lX g l nx part v b n):i∈part:=(aI.1 h).1
def jR(w:Bool)(g:eO)(l:List Pos)(nx:List (List Int)):List D:=[.eN (bif w then 3 else 4) (bif w then 0 else 1) 2 0 l.length,.eN (bif w then 4 else 3) 0 1 0 l.length,.i g.size,.sl 1 (g.next.map fI),dI g.gN,.sl 3 (g.kinds.map Kind.cells),.i g.fg,.b g.kS,dN 4 Clause.cells g.clauses,.i g.blocked,.i g.oK,fW l,.sl 1 (nx.map fN)]
def tp(w:Bool):D:=.ptr (bif w then 2 else 1) 0 0
def H5(w:Bool)(z:List eT)(g:eO)(l:List Pos)(nx:List (List Int))(m:List Int)(v:List eT)(b:List Bool):U:=
 bif w then [.row 41 0 g.cells,.row 50 0 [dI m],.row 148 0 (jR w g l nx),.row 58 0 (cl fS v),.row 4 0 (cl fB b)]else [.row 41 0 g.cells,.row 148 0 (jR w g l nx),.row 58 0 (cl fS z),.row 4 0 (cl fB b),.row 58 1 (cl fS v)]
def HF(w:Bool)(z:List eT)(g:eO)(l:List Pos)(nx:List (List Int))(m:List Int)(part:List Int)(n t:Int)(v:List eT)(b:List Bool)(st:oZ):U:=
 H5 w z g l nx m v b ++ [.row 139 0 [tp w],.row 33 0 [dI part],.row 3 0 [.i n],.row 3 0 [.i t],.row 139 0 [tp w],.jL,.fZ 4992 [(3,.ptr 5 0 0),(4,.ptr 6 0 0),(5,.ptr 7 0 0),(9,.ptr 8 0 0)] st]
structure ke(g:eO)(l:List Pos)(nx:List (List Int))(part:List Int)(bu:Int):Prop where
 gm:fi g
 ps:∀ p∈l,fF g p
 len:l.length≤4000
 Xb:nx.length=l.length
 xI:∀ i:Int,0≤i→i<l.length→(∀ k∈gt nx i,0≤k∧k<l.length)∧(gt nx i).length≤4000000000
 prt:∀ i∈part,0≤i∧i<l.length
 nd:part.Nodup
 pl:part.length≤4000
 bu:1≤bu∧bu≤9223372036854775807
end Go.Proofs.YtnaefnajkaohgaaGreatDoor
namespace Go.AL
open Go
def Hv:Nat→List (Int×List Int)→List (Value×D)
 | _,[]=>[]
 | k,e::r=>(.int .i64 e.1,.eN k (e.2.length-1) 1 0 e.2.length)::Hv (k+1) r
def rwF(ls:List (Int×List Int)):U:=ls.map fun e=>.row 3 (e.2.length-1) (cl f1 e.2)
def LH(m:List Int)(ls:List (Int×List Int)):U:=.row 50 0 [dI m] :: .map (.int .i64) (Hv 2 ls)::rwF ls
theorem Qg{ρ:Nat→Option Nat}{H:U}{v g sz off len v':Nat}(h:ρ v=some v'):eS ρ H 40 (.eN v g sz off len) = .eN v' g sz off len:=by
 rw[AL.Gl,h,Qc]
def nU(n:Nat)(env:Env):Prop:=∀ p∈env,gE n p.2 = []∧∀ ρ:Nat→Option Nat,∀ H,(∀ v,v<n→ρ v=some v)→eS ρ H 40 p.2=p.2
theorem nz{n k:Nat}{d:D}{env:Env}(hd:closed d=true)(h:nU n env):nU n ((k,d)::env):=fun p hp=>by
 rcases au.1 hp with rfl|hp
 ·exact⟨Be n hd,fun ρ H _=>mf hd⟩
 ·exact h p hp
theorem Pe{n k v g o:Nat}{env:Env}(hv:v<n)(h:nU n env):nU n ((k,.ptr v g o)::env):=fun p hp=>by
 rcases au.1 hp with rfl|hp
 ·exact⟨by simp;omega,fun ρ H e=>by simp[e v hv]⟩
 ·exact h p hp
theorem xK{n:Nat}:nU n []:=fun p hp=>by cases hp
theorem A0{ks:kf}{v i:Nat}(h:fM ks v=some i):ks[i]? = some (v,true):=by
 unfold fM at h
 rw[bY]at h
 obtain⟨hi,hp,_⟩:=h
 rw[List.getElem?_eq_getElem hi]
 congr 1
 have:ks[i].2=true∧ks[i].1=v:=by simpa using hp
 exact ef this.2 this.1
theorem abV{ks:kf}{v:Nat}(h:(v,true)∈ks):∃ i,fM ks v=some i:=by
 unfold fM
 cases hf:ks.findIdx? (fun p=>p.2&&p.1 == v)with
 | some i=>exact⟨i,rfl⟩
 | none=>
  rw[cV]at hf
  have:=hf _ h
  simp at this
theorem Qd{ks:kf}{H:U}{v i:Nat}{o:Ob}(h:fM ks v=some i)(ho:H[v]? = some o):(mF ks H)[i]? = some (lz (fM ks) H o):=by
 unfold mF
 rw[ar,A0 h]
 simp[ho]
def BI(bs:List (List Int))(H:U):Prop:=∃ (cells:List D) (f:Nat→Nat),H[0]? = some (.row 33 0 cells)∧cells.length=bs.length ∧
 (∀ j,j<bs.length→cells[j]? = some (if bs.getD j [] = []then .emp else .eN (f j) ((bs.getD j []).length-1) 1 0 (bs.getD j []).length)) ∧
 (∀ j,j<bs.length→bs.getD j []≠[]→0<f j∧H[f j]? = some (.row 3 ((bs.getD j []).length-1) (cl f1 (bs.getD j [])))) ∧
 (∀ i j,i<bs.length→j<bs.length→bs.getD i []≠[]→bs.getD j []≠[]→f i=f j→i=j)
theorem BI.cut{bs:List (List Int)}{H:U}(h:BI bs H){n:Nat}(hn:1≤n)(live:List Nat)(env:Env)(r:Bool):BI bs (AL.cut n live { env:=env,H:=H,marks:=[],fL:=r }).H:=by
 unfold AL.cut
 dsimp only
 split
 ·exact h
 rename_i fj
 obtain⟨cells,f,h0,hl,hc,hf,hi⟩:=h
 have ER:0<H.length:=(ae.1 h0).1
 generalize hK:dedup ((((forget live env).map fun p=>gE n p.2).flatten++((H.take n).map (mc n)).flatten++([]:List Nat).filter (n≤·)).filter (· < H.length))=K
 have T6:∀ j,j<bs.length→bs.getD j []≠[]→n≤f j→f j∈K:=fun j hj hb IC=>by
  rw[← hK]
  refine zc (aI.2 ⟨aP _ (bq _ ?_),by simpa using (ae.1 (hf j hj hb).2).1⟩)
  rw[aO]
  refine⟨_,av.2 ⟨.row 33 0 cells,?_,rfl⟩,?_⟩
  ·refine aD.2 ⟨0,?_⟩
   rw[az,if_pos (by omega),h0]
  ·rw[Xe,aO]
   refine⟨_,av.2 ⟨_,aW (hc j hj),rfl⟩,?_⟩
   rw[if_neg hb,Qy,if_pos IC]
   simp
 have E9:∀ j,j<bs.length→bs.getD j []≠[]→∃ i,fM (gh n K) (f j)=some i:=fun j hj hb=>by
  refine abV ?_
  unfold gh
  rw[List.mem_append]
  by_cases IC:n≤f j
  ·exact .inr (av.2 ⟨_,T6 j hj hb IC,rfl⟩)
  ·exact .inl (av.2 ⟨_,bx.2 (by omega),rfl⟩)
 have M7:fM (gh n K) 0=some 0:=by
  unfold gh
  obtain⟨m,rfl⟩:∃ m,n=m+1:=⟨n-1,by omega⟩
  rw[List.range_succ_eq_map]
  simp[fM,List.findIdx?_cons]
 generalize gh n K=ks at *
 refine⟨cells.map (eS (fM ks) H 40),fun j=>(fM ks (f j)).getD 0,Qd M7 h0,by rw[List.length_map,hl],fun j hj=>?_,fun j hj hb=>?_,fun i j lB hj hb l3 e=>?_⟩
 ·rw[ar,hc j hj]
  by_cases hb:bs.getD j [] = []
  ·rw[if_pos hb,if_pos hb];rfl
  ·obtain⟨i,lB⟩:=E9 j hj hb
   rw[if_neg hb,if_neg hb]
   simp only[aX,Qg lB,lB,aS]
 ·obtain⟨i,lB⟩:=E9 j hj hb
  obtain⟨p1,p2⟩:=hf j hj hb
  dsimp only
  rw[lB,aS]
  refine⟨?_,?_⟩
  ·show 0<i
   by_cases e:i=0
   ·subst e
    have a:=A0 lB
    have b:=A0 M7
    rw[a]at b
    simp at b
    omega
   ·omega
  ·have:=Qd lB p2
   rw[this]
   simp only[lz,Gk (qb _)]
 ·obtain⟨a,ha⟩:=E9 i lB hb
  obtain⟨b,vf⟩:=E9 j hj l3
  dsimp only at e
  rw[ha,vf]at e
  have e':a=b:=e
  subst e'
  have x:=A0 ha
  have y:=A0 vf
  rw[x]at y
  simp at y
  exact hi i j lB hj hb l3 y
theorem RZ{n:Nat}{live:List Nat}{env:Env}{H:U}{r:Bool}(he:nU n (forget live env)):(AL.cut n live { env:=env,H:=H,marks:=[],fL:=r }).env=forget live env:=by
 unfold AL.cut
 dsimp only
 split
 ·rfl
 ·dsimp only
  conv=>rhs;rw[← aR (forget live env)]
  refine aj fun p hp=>?_
  rw[(he p hp).2 _ H fun v hv=>?_]
  ·rfl
  ·generalize dedup _=K
   unfold gh fM
   rw[List.findIdx?_append,show((List.range n).map fun v=>(v,true)).findIdx? (fun p=>p.2&&p.1 == v)=some v from ?_]
   ·rfl
   ·rw[bY]
    exact⟨by simpa using hv,by simp,fun j hj=>by simp;omega⟩
theorem BI.put{bs:List (List Int)}{H H':U}{cells:List D}{f:Nat→Nat}(bl:cells.length=bs.length)
  (bc:∀ j,j<bs.length→cells[j]? = some (if bs.getD j [] = []then .emp else .eN (f j) ((bs.getD j []).length-1) 1 0 (bs.getD j []).length))
  (bf:∀ j,j<bs.length→bs.getD j []≠[]→0<f j∧H[f j]? = some (.row 3 ((bs.getD j []).length-1) (cl f1 (bs.getD j []))))
  (bi:∀ i j,i<bs.length→j<bs.length→bs.getD i []≠[]→bs.getD j []≠[]→f i=f j→i=j)
  {k p:Nat} {x:List Int} (hk:k<bs.length) (hx:x≠[]) (hp:0<p) (h0:H'[0]? = some (.row 33 0 (cells.set k (.eN p (x.length-1) 1 0 x.length))))
  (hr:H'[p]? = some (.row 3 (x.length-1) (cl f1 x))) (kp:∀ j,j<bs.length→j≠k→bs.getD j []≠[]→H'[f j]? = H[f j]?∧f j≠p):BI (bs.set k x) H':=by
 have hd:∀ j,(bs.set k x).getD j []=if j=k then x else bs.getD j []:=fun j=>by
  rw[List.getD_eq_getElem?_getD,bC,List.getD_eq_getElem?_getD]
  by_cases e:k=j
  ·subst e;simp[hk]
  ·rw[if_neg e,if_neg fun q=>e q.symm]
 refine⟨_,fun j=>if j=k then p else f j,h0,by simp[bl],fun j hj=>?_,fun j hj hb=>?_,fun i j hi hj hb l3 e=>?_⟩
 ·rw[hd,bC]
  rw[bN]at hj
  by_cases e:j=k
  ·subst e
   simp[hx,bl,hj]
  ·rw[if_neg fun q=>e q.symm,if_neg e,bc j hj]
   simp[e]
 ·rw[hd]at hb ⊢
  rw[bN]at hj
  by_cases e:j=k
  ·simp only[if_pos e]
   exact⟨hp,hr⟩
  ·simp only[if_neg e]at hb ⊢
   rw[(kp j hj e hb).1]
   exact bf j hj hb
 ·rw[hd]at hb l3
  rw[bN]at hi hj
  dsimp only at e
  by_cases e1:i=k<;>by_cases e2:j=k
  ·rw[e1,e2]
  ·rw[if_pos e1,if_neg e2]at e
   rw[if_neg e2]at l3
   exact absurd e.symm (kp j hj e2 l3).2
  ·rw[if_neg e1,if_pos e2]at e
   rw[if_neg e1]at hb
   exact absurd e (kp i hi e1 hb).2
  ·rw[if_neg e1,if_neg e2]at e
   rw[if_neg e1]at hb
   rw[if_neg e2]at l3
   exact bi i j hi hj hb l3 e
theorem xL{n k v g w o l:Nat}{env:Env}(hv:v<n)(h:nU n env):nU n ((k,.eN v g w o l)::env):=fun p hp=>by
 rcases au.1 hp with rfl|hp
 ·exact⟨by rw[Qy,if_neg (by omega)],fun ρ H kR=>by rw[Qg (kR v hv)]⟩
 ·exact h p hp
theorem BI.c{bs:List (List Int)}{H:U}(h:BI bs H){n:Nat}(hn:1≤n){live:List Nat}{env:Env}(he:nU n (forget live env))(r:Bool) :
  ∃ H',AL.cut n live { env:=env,H:=H,marks:=[],fL:=r } = { env:=forget live env,H:=H',marks:=[],fL:=r }∧BI bs H':=by
 refine⟨_,?_,h.cut hn live env r⟩
 have h1:=RZ (H:=H) (r:=r) he
 generalize hs:AL.cut n live { env:=env,H:=H,marks:=[],fL:=r }=s at *
 have hm:s.marks = []∧s.fL=r:=by
  rw[← hs]
  unfold AL.cut
  dsimp only
  split<;>exact⟨rfl,rfl⟩
 obtain⟨e,H2,m,r2⟩:=s
 dsimp only at h1 hm ⊢
 rw[h1,hm.1,hm.2]
theorem DC{id n:Nat}{live:List Nat}{K:gv}{env:Env}{H:U}{r:Bool}{bs:List (List Int)}(h:BI bs H)(hn:1≤n)(he:nU n (forget live env))
  (k:∀ H',BI bs H'→K (.norm { env:=forget live env,H:=H',marks:=[],fL:=r })):rS id n live K (.norm { env:=env,H:=H,marks:=[],fL:=r }):=by
 obtain⟨H',e,hB⟩:=h.c hn he r
 rw[LM,e]
 exact k H' hB
theorem Jq{n:Nat}{live keys:List Nat}{J:Env→U→List Nat→Bool→Prop}{K:gv}{env:Env}{H:U}{r:Bool}{bs:List (List Int)}(h:BI bs H)(hn:1≤n)(he:nU n (forget live env))
  (k:∀ H',BI bs H'→J (forget keys (forget live env)) H' [] r):sJ n live keys J K (.norm { env:=env,H:=H,marks:=[],fL:=r }):=by
 obtain⟨H',e,hB⟩:=h.c hn he r
 rw[OI,e]
 exact k H' hB
theorem BI.start(n:Nat):BI (List.replicate n []) [.row 33 0 (List.replicate n .emp)]:=
 ⟨_,fun _=>0,rfl,by simp,fun j hj=>by simp at hj ⊢;simp[hj],fun j hj hb=>by simp at hj;simp[hj]at hb,fun i j hi hj hb=>by simp at hi;simp[hi]at hb⟩
theorem Q9{id n:Nat}{live:List Nat}{K:gv}{env:Env}{H:U}{r:Bool}{bs:List (List Int)}(h:BI bs H)(hn:1≤n)(he:nU n (forget live env))
  (k:∀ H',BI bs H'→K (.norm { env:=forget live env,H:=H',marks:=[],fL:=r })):rS id n live K (.exit id { env:=env,H:=H,marks:=[],fL:=r }):=by
 obtain⟨H',e,hB⟩:=h.c hn he r
 rw[LN,e]
 exact k H' hB
