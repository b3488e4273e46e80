/- Part 39 of the proof of skewer.skewerlaw15.TableSlices. -/
import Derived.Test.YtnaefnajkaohgaaGreatDoorC29
set_option linter.all false
namespace Go.Proofs.YtnaefnajkaohgaaGreatDoor
open Go Go.AL Classical
set_option maxRecDepth 10000
set_option maxHeartbeats 4000000
def grt(v:List Stp)(b:List Bool):Nat→Int
 | 0 => -1
 | n+1=>if gt b (n:Int)=false∧(gt v (n:Int)).1≠2 then max (grt v b n) (gt v (n:Int)).2 else grt v b n
@[simp] theorem grt_0(v:List Stp)(b:List Bool):grt v b 0 = -1:=rfl
theorem grt_s{v:List Stp}{b:List Bool}{i:Int}(i0:0≤i):grt v b (i+1).toNat=if gt b i=false∧(gt v i).1≠2 then max (grt v b i.toNat) (gt v i).2 else grt v b i.toNat:=by
 have h:(i+1).toNat=i.toNat+1:=by omega
 have h2:((i.toNat:Nat):Int)=i:=by omega
 rw[h,grt,h2]
theorem f163(v:List Stp)(b:List Bool)(g:Game)(l:List Pos)(nx:List (List Int))(hb:b.length=v.length)(h9:v.length≤4000):Wf T 163 [.fptr [dProg v,.sl 1 (b.map fB),.i g.size,.sl 1 (g.next.map fI),dI g.turn,.sl 3 (g.kinds.map Kind.cells),.i g.rights,.b g.must,dN 4 Clause.cells g.clauses,.i g.blocked,.i g.endless,dPs l,.sl 1 (nx.map fN)]] [] (Is (.i (grt v b v.length))):=by
 refine Yg F163 ?_
 simp[F163]
 (with_reducible repeat' first|refine Xk ?_<;>try simp|refine Xs ?_ ?_<;>intro h<;>(try intro h')<;>(try simp[h])<;>(try omega)|refine Xg ?_|omega)
 refine XLoop.e (0:Int) (fun y=>[(0,.fptr [dProg v,.sl 1 (b.map fB),.i g.size,.sl 1 (g.next.map fI),dI g.turn,.sl 3 (g.kinds.map Kind.cells),.i g.rights,.b g.must,dN 4 Clause.cells g.clauses,.i g.blocked,.i g.endless,dPs l,.sl 1 (nx.map fN)]),(3,.i (grt v b y.toNat)),(9,dProg v),(10,.i v.length),(11,.i y)]) (fun y=>[]) (fun y=>0≤y∧y≤v.length) (fun y=>(v.length-y).toNat) ?_ ?_
 ·simp
 rintro i ⟨i0,i1⟩
 dsimp only at i0 i1 ⊢
 by_cases hi:i<v.length
 ·have hg1:=grt_s (v:=v) (b:=b) i0
  simp[hi]
  (with_reducible repeat' first|refine Xk ?_<;>try simp|refine Xs ?_ ?_<;>intro h<;>(try intro h')<;>(try simp[h])<;>(try omega)|refine Xg ?_|omega)
  all_goals
   refine LJ.i (i+1) (by first|rfl|simp[hg1,h, *]) (by first|rfl|simp[hg1,h, *]) rfl rfl ?_
   omega
 ·have:i=v.length:=by omega
  subst this
  simp
def lds(b:List Bool)(part:List Int)(n:Int):Nat→Int×Int
 | 0=>(0,-1)
 | k+1=>if gt b (gt part (k:Int))=true∧quoI (gt part (k:Int)) n≠(lds b part n k).2 then((lds b part n k).1+1,quoI (gt part (k:Int)) n)else lds b part n k
@[simp] theorem lds_0(b:List Bool)(part:List Int)(n:Int):lds b part n 0=(0,-1):=rfl
theorem lds_s{b:List Bool}{part:List Int}{n i:Int}(i0:0≤i):lds b part n (i+1).toNat=if gt b (gt part i)=true∧quoI (gt part i) n≠(lds b part n i.toNat).2 then((lds b part n i.toNat).1+1,quoI (gt part i) n)else lds b part n i.toNat:=by
 have h:(i+1).toNat=i.toNat+1:=by omega
 have h2:((i.toNat:Nat):Int)=i:=by omega
 rw[h,lds,h2]
theorem lds_in(b:List Bool)(part:List Int)(n:Int):∀ k:Nat,0≤(lds b part n k).1∧(lds b part n k).1≤k
 | 0=>by simp
 | k+1=>by
  have:=lds_in b part n k
  unfold lds
  split
  ·dsimp only;omega
  ·omega
theorem f118(v:List Stp)(b:List Bool)(g:Game)(l:List Pos)(nx:List (List Int))(part:List Int)(n:Int)(hp:∀ i∈part,0≤i∧i<b.length)(h9:part.length≤4000)(hb:b.length≤4000)(hn:1≤n∧n≤9223372036854775807):Wf T 118 [.fptr [dProg v,.sl 1 (b.map fB),.i g.size,.sl 1 (g.next.map fI),dI g.turn,.sl 3 (g.kinds.map Kind.cells),.i g.rights,.b g.must,dN 4 Clause.cells g.clauses,.i g.blocked,.i g.endless,dPs l,.sl 1 (nx.map fN)],dI part,.i n] [] (Is (.i (lds b part n part.length).1)):=by
 refine Yg F118 ?_
 simp[F118]
 (with_reducible repeat' first|refine Xk ?_<;>try simp|refine Xs ?_ ?_<;>intro h<;>(try intro h')<;>(try simp[h])<;>(try omega)|refine Xg ?_|omega)
 refine XLoop.e (0:Int) (fun y=>[(0,.fptr [dProg v,.sl 1 (b.map fB),.i g.size,.sl 1 (g.next.map fI),dI g.turn,.sl 3 (g.kinds.map Kind.cells),.i g.rights,.b g.must,dN 4 Clause.cells g.clauses,.i g.blocked,.i g.endless,dPs l,.sl 1 (nx.map fN)]),(2,.i n),(7,.i (lds b part n y.toNat).1),(8,.i (lds b part n y.toNat).2),(12,dI part),(13,.i part.length),(14,.i y)]) (fun y=>[]) (fun y=>0≤y∧y≤part.length) (fun y=>(part.length-y).toNat) ?_ ?_
 ·simp
 rintro i ⟨i0,i1⟩
 dsimp only at i0 i1 ⊢
 by_cases hi:i<part.length
 ·have hg1:=lds_s (b:=b) (part:=part) (n:=n) i0
  have hin:=hp _ (gt_mem i0 hi)
  have hk:=lds_in b part n i.toNat
  simp[hi]
  (with_reducible repeat' first|refine Xk ?_<;>try simp|refine Xs ?_ ?_<;>intro h<;>(try intro h')<;>(try simp[h])<;>(try omega)|refine Xg ?_|omega)
  all_goals
   refine LJ.i (i+1) (by first|rfl|simp[hg1,h, *]) (by first|rfl|simp[hg1,h, *]) rfl rfl ?_
   omega
 ·have:i=part.length:=by omega
  subst this
  simp
noncomputable def endN(g:Game)(p:Pos):Int:=if ended g p then(gt g.clauses (endI g p)).out else 0
theorem endN_at{g:Game}{p:Pos}{i:Int}(i0:0≤i)(hi:i<g.clauses.length)(h2:∀ c∈g.clauses.take i.toNat,¬ condL p c)(h:condL p (gt g.clauses i)):endN g p=(gt g.clauses i).out:=by
 have he:ended g p:=⟨_,gt_mem i0 hi,h⟩
 have hx:g.clauses.findIdx (fun c=>decide (condL p c))=i.toNat:=by
  rw[List.findIdx_eq (by omega)]
  refine⟨?_,fun j hj=>?_⟩
  ·have:gt g.clauses i=g.clauses[i.toNat]:=by
    unfold gt
    rw[List.getD_eq_getElem?_getD,List.getElem?_eq_getElem (by omega)];rfl
   rw[← this];simpa using h
  ·simp only[decide_eq_false_iff_not]
   refine h2 _ ?_
   rw[List.mem_take_iff_getElem]
   exact⟨j,by omega,rfl⟩
 unfold endN endI
 rw[if_pos he,if_pos he,hx]
 congr 1
theorem f46e(g:Game)(hg:GameOK g)(p:Pos)(hp:PosOK g p):Wf T 46 [dG g,dP p] [] (Is (.tup [.i (endN g p),.b (decide (ended g p))])):=by
 have hcl:=hg.clauses
 refine Yg F46 ?_
 simp[F46]
 refine XLoop.e (0:Int) (fun y=>[(2,.ptr 0 0 0),(3,.ptr 1 0 0),(9,dN 4 Clause.cells g.clauses),(10,.i g.clauses.length),(11,.i y)]) (fun y=>[.row 41 0 g.cells,.row 44 0 p.cells]) (fun y=>0≤y∧y≤g.clauses.length∧∀ c∈g.clauses.take y.toNat,¬ condL p c) (fun y=>(g.clauses.length-y).toNat) ?_ ?_
 ·simp
 rintro i ⟨i0,i1,i2⟩
 by_cases hi:i<g.clauses.length
 ·have hm:=gt_mem i0 hi
  have hc:=hg.clause _ hm
  have ho:=hc.ok
  have hdone:condL p (gt g.clauses i)→decide (ended g p)=true:=fun h=>decide_eq_true ⟨_,hm,h⟩
  have hdone':condL p (gt g.clauses i)→ended g p:=fun h=>⟨_,hm,h⟩
  have hval:condL p (gt g.clauses i)→endN g p=(gt g.clauses i).out:=fun h=>endN_at i0 hi i2 h
  have hnext:¬ condL p (gt g.clauses i)→∀ c∈g.clauses.take (i+1).toNat,¬ condL p c:=fun h c hc=>by
   rw[take_gt i0 hi]at hc
   rcases List.mem_append.1 hc with hc|hc
   ·exact i2 c hc
   ·rw[List.mem_singleton.1 hc];exact h
  simp[hi]
  (with_reducible repeat' first|refine Xk ?_<;>try simp|refine Xs ?_ ?_<;>intro h<;>(try intro h')<;>(try simp[h])<;>(try omega)|refine Xg ?_|omega)
  rcases(show(gt g.clauses i).cond=1∨(gt g.clauses i).cond=2∨(gt g.clauses i).cond=3 by omega)with e|e|e
  ·simp[e]
   refine Yt (f294 g hg p hp ⟨1,(gt g.clauses i).kind,(gt g.clauses i).n,(gt g.clauses i).out⟩ (by dsimp only;omega)) ?_
   simp
   have hcd:condL p (gt g.clauses i)=(menC p p.side (gt g.clauses i).kind=0):=by simp[condL,e]
   by_cases hx:menC p p.side (gt g.clauses i).kind=0
   ·simp[hx]
    exact⟨(hval (hcd▸hx)).symm,hdone' (hcd▸hx)⟩
   ·simp[hx]
    (with_reducible repeat' first|refine Xk ?_<;>try simp|refine Xs ?_ ?_<;>intro h<;>(try intro h')<;>(try simp[h])<;>(try omega)|refine Xg ?_|omega)
    refine LJ.e (i+1) ?_
    exact⟨by omega,by omega,by omega,hnext (hcd▸hx)⟩
  ·simp[e]
   refine Yt (f296 g hg p hp ⟨2,(gt g.clauses i).kind,(gt g.clauses i).n,(gt g.clauses i).out⟩ (by dsimp only;omega) (by dsimp only;omega)) ?_
   simp
   have hcd:condL p (gt g.clauses i)=(gt p.cs (gt g.clauses i).n=codeM (gt g.clauses i).kind (1-p.side)):=by simp[condL,e]
   by_cases hx:gt p.cs (gt g.clauses i).n=codeM (gt g.clauses i).kind (1-p.side)
   ·simp[hx]
    exact⟨(hval (hcd▸hx)).symm,hdone' (hcd▸hx)⟩
   ·simp[hx]
    (with_reducible repeat' first|refine Xk ?_<;>try simp|refine Xs ?_ ?_<;>intro h<;>(try intro h')<;>(try simp[h])<;>(try omega)|refine Xg ?_|omega)
    refine LJ.e (i+1) ?_
    exact⟨by omega,by omega,by omega,hnext (hcd▸hx)⟩
  ·simp[e]
   refine Yt (f297 g hg p hp ⟨3,(gt g.clauses i).kind,(gt g.clauses i).n,(gt g.clauses i).out⟩) ?_
   simp
   have hcd:condL p (gt g.clauses i)=(menC p p.side (-1)≤(gt g.clauses i).n):=by simp[condL,e]
   by_cases hx:menC p p.side (-1)≤(gt g.clauses i).n
   ·simp[hx]
    exact⟨(hval (hcd▸hx)).symm,hdone' (hcd▸hx)⟩
   ·simp[hx]
    (with_reducible repeat' first|refine Xk ?_<;>try simp|refine Xs ?_ ?_<;>intro h<;>(try intro h')<;>(try simp[h])<;>(try omega)|refine Xg ?_|omega)
    refine LJ.e (i+1) ?_
    exact⟨by omega,by omega,by omega,hnext (hcd▸hx)⟩
 ·simp[hi]
  have:¬ ended g p:=fun⟨c,hc,h⟩=>i2 c (by rw[take_all (by omega)];exact hc) h
  simp[endN,this]
theorem f54(g:Game)(hg:GameOK g)(p:Pos)(hp:PosOK g p):Wf T 54 [dG g,dP p] [] (Is (.tup [.i (stat g p).1,.b (stat g p).2])):=by
 have he:ended g p→mvL g p = []:=mvL_ended
 refine Yg F54 ?_
 simp[F54]
 refine Yc (f46e g hg p hp) ?_
 simp
 by_cases h0:ended g p
 ·simp[h0,stat,endN,he h0]
 ·simp[h0,stat,endN]
  refine Yc (f26 g hg p hp) ?_
  simp
  (with_reducible repeat' first|refine Xk ?_<;>try simp|refine Xs ?_ ?_<;>intro h<;>(try intro h')<;>(try simp[h])<;>(try omega)|refine Xg ?_|omega)
  all_goals simp[h0, *]
set_option maxRecDepth 10000
set_option maxHeartbeats 8000000
def wnM(v:List Stp)(b:List Bool)(x:List Int):Nat→Int×Int
 | 0=>(0,-1)
 | j+1=>if gt b (gt x (j:Int))=false∧(gt v (gt x (j:Int))).1=1 then((wnM v b x j).1+1,max (wnM v b x j).2 (gt v (gt x (j:Int))).2)else wnM v b x j
@[simp] theorem wnM_0(v:List Stp)(b:List Bool)(x:List Int):wnM v b x 0=(0,-1):=rfl
theorem wnM_s{v:List Stp}{b:List Bool}{x:List Int}{i:Int}(i0:0≤i):wnM v b x (i+1).toNat=if gt b (gt x i)=false∧(gt v (gt x i)).1=1 then((wnM v b x i.toNat).1+1,max (wnM v b x i.toNat).2 (gt v (gt x i)).2)else wnM v b x i.toNat:=by
 have h:(i+1).toNat=i.toNat+1:=by omega
 have h2:((i.toNat:Nat):Int)=i:=by omega
 rw[h,wnM,h2]
def lostN(v:List Stp)(b:List Bool)(x:List Int)(n:Int):Prop:=∃ k∈x,gt b k=false∧gt v k=(3,n-1)
noncomputable def entE(g:Game)(p:Pos)(v:List Stp)(b:List Bool)(x:List Int)(n:Int):Stp×Bool:=
 if n=0 then(((stat g p).1,0),(stat g p).2)else
 if lostN v b x n then((1,n),true)else((3,n),decide (0<x.length∧(wnM v b x x.length).1=x.length∧(wnM v b x x.length).2=n-1))
theorem wnM_in(v:List Stp)(b:List Bool)(x:List Int):∀ k:Nat,0≤(wnM v b x k).1∧(wnM v b x k).1≤k
 | 0=>by simp
 | k+1=>by
  have:=wnM_in v b x k
  unfold wnM
  split
  ·dsimp only;omega
  ·omega
theorem f119(g:Game)(hg:GameOK g)(l:List Pos)(hl:∀ p∈l,PosOK g p)(v:List Stp)(b:List Bool)(nx:List (List Int))(i n:Int)(hi:0≤i∧i<l.length)(hn:0≤n∧n≤4000)(hx:nx.length=l.length)
  (hk:∀ k∈gt nx i,0≤k∧k<l.length) (hv:v.length=l.length) (hb:b.length=l.length) (hxl:(gt nx i).length≤4000000000) :
  Wf T 119 [.fptr [dProg v,.sl 1 (b.map fB),.i g.size,.sl 1 (g.next.map fI),dI g.turn,.sl 3 (g.kinds.map Kind.cells),.i g.rights,.b g.must,dN 4 Clause.cells g.clauses,.i g.blocked,.i g.endless,dPs l,.sl 1 (nx.map fN)],.i i,.i n] []
   (Is (.tup [.agg [.i (entE g (gt l i) v b (gt nx i) n).1.1,.i (entE g (gt l i) v b (gt nx i) n).1.2],.b (entE g (gt l i) v b (gt nx i) n).2])):=by
 refine Yg F119 ?_
 simp[F119]
 (with_reducible repeat' first|refine Xk ?_<;>try simp[fN_def]|refine Xs ?_ ?_<;>intro h<;>(try intro h')<;>(try simp[h,fN_def])<;>(try omega)|refine Xg ?_|omega)
 ·refine Yt (f54 g hg _ (hl _ (gt_mem hi.1 hi.2))) ?_
  simp
  simp[entE,h]
 generalize hX:gt nx i=x at *
 refine XLoop.e (0:Int) (fun y=>[(0,.fptr [dProg v,.sl 1 (b.map fB),.i g.size,.sl 1 (g.next.map fI),dI g.turn,.sl 3 (g.kinds.map Kind.cells),.i g.rights,.b g.must,dN 4 Clause.cells g.clauses,.i g.blocked,.i g.endless,dPs l,.sl 1 (nx.map fN)]),(1,.i i),(2,.i n),(6,.ptr 0 0 0),(10,.i (wnM v b x y.toNat).1),(11,.i (wnM v b x y.toNat).2),(41,dN 1 f1 x),(42,.i x.length),(43,.i y)]) (fun y=>[.row 58 0 [.i 0,.i 0]]) (fun y=>0≤y∧y≤x.length∧∀ k∈x.take y.toNat,¬ (gt b k=false∧gt v k=(3,n-1))) (fun y=>(x.length-y).toNat) ?_ ?_
 ·simp
 rintro j ⟨j0,j1,j2⟩
 dsimp only at j0 j1 j2 ⊢
 by_cases hj:j<x.length
 ·have hg1:=wnM_s (v:=v) (b:=b) (x:=x) j0
  have hin:=hk _ (gt_mem j0 hj)
  have hw:=wnM_in v b x j.toNat
  have hnext:¬ (gt b (gt x j)=false∧gt v (gt x j)=(3,n-1))→∀ k∈x.take (j+1).toNat,¬ (gt b k=false∧gt v k=(3,n-1)):=fun h k hk=>by
   rw[take_gt j0 hj]at hk
   rcases List.mem_append.1 hk with hk|hk
   ·exact j2 k hk
   ·rw[List.mem_singleton.1 hk];exact h
  have hpr:∀ y:Stp,gt v (gt x j)=y↔(gt v (gt x j)).1=y.1∧(gt v (gt x j)).2=y.2:=fun y=>Prod.ext_iff
  simp[hj]
  (with_reducible repeat' first|refine Xk ?_<;>try simp|refine Xs ?_ ?_<;>intro h<;>(try intro h')<;>(try simp[h])<;>(try omega)|refine Xg ?_|omega)
  ·refine LJ.i (j+1) (by first|rfl|simp[hg1, *]) (by first|rfl|simp[hg1, *]) rfl rfl ?_
   exact⟨by omega,by omega,by omega,hnext (by simp[*])⟩
  ·have hl:lostN v b x n:=⟨_,gt_mem j0 hj,by assumption,(hpr _).2 ⟨by assumption,by assumption⟩⟩
   simp[entE,hl, *]
  ·refine LJ.i (j+1) (by first|rfl|simp[hg1, *]) (by first|rfl|simp[hg1, *]) rfl rfl ?_
   exact⟨by omega,by omega,by omega,hnext (by rw[hpr];simp[*])⟩
  ·refine LJ.i (j+1) (by first|rfl|simp[hg1, *]) (by first|rfl|simp[hg1, *]) rfl rfl ?_
   exact⟨by omega,by omega,by omega,hnext (by rw[hpr];simp[*])⟩
  ·refine LJ.i (j+1) (by first|rfl|simp[hg1, *]) (by first|rfl|simp[hg1, *]) rfl rfl ?_
   exact⟨by omega,by omega,by omega,hnext (by rw[hpr];simp[*])⟩
 ·have hje:j=x.length:=by omega
  subst hje
  have hl:¬ lostN v b x n:=fun⟨k,hk,h⟩=>j2 k (by rw[take_all (by omega)];exact hk) h
  simp[hj,fN_def,hX]
  (with_reducible repeat' first|refine Xk ?_<;>try simp[fN_def,hX]|refine Xs ?_ ?_<;>intro h<;>(try intro h')<;>(try simp[h,fN_def,hX])<;>(try omega)|refine Xg ?_|omega)
  all_goals simp[entE, *]
end Go.Proofs.YtnaefnajkaohgaaGreatDoor
namespace Go.AL
open Go
section
variable{T:Tab}{live:List Nat}{a:IR}{s:St}{K:OutP}{α:Type}
theorem XLoop.kg(ms:List Nat)(rd:Bool)(x0:α)(E:α→Env)(Hp:α→Heap)(P:α→Prop)(μ:α→Nat)
  (h0:P x0) (hE:forget ((E x0).map (·.1)) s.env=E x0) (hH:s.H=Hp x0) (hm:s.marks=ms) (hr:s.rnd=rd) (hks:(((E x0).map (·.1)).all fun k=>live.contains k)=true)
  (h:∀ x,P x→XC T a { env:=E x,H:=Hp x,marks:=ms,rnd:=rd } (loopK s.H.length live ((E x0).map (·.1)) (LJ E Hp ms rd (fun x'=>μ x'<μ x∧P x') .mk) K)):XLoop T live a s K .mk:=
 XLoop.j x0 E Hp P μ h0 hE hH hks (by rw[hm,hr];exact h)
end
def entR(H:Heap):Option Ob→Option D
 | some (.miter (.omap m) since seen)=>(mapAt H m).bind fun p=>seen.getLast?.bind fun i=>p.2[i]?.bind fun e=>if p.2.length=since then some (.tup [.val e.1,e.2])else none
 | _=>none
theorem entR_eq(H:Heap)(x:Option Ob):(match x with
  | some (.miter (.omap m) since seen)=>(match mapAt H m,seen.getLast? with
   | some (_,es),some i=>(match es[i]? with
    | some (k,d)=>if es.length=since then some (.tup [.val k,d])else none
    | none=>none)
   | _,_=>none)
  | _=>none)=entR H x:=by
 unfold entR
 split
 ·rename_i m since seen
  cases hm:mapAt H m with
  | none=>simp
  | some p=>
   cases hs:seen.getLast? with
   | none=>simp
   | some i=>
    simp only[Option.bind_some]
    cases p.2[i]? <;> rfl
 ·rfl
@[simp] theorem entry_ptr(v:Nat)(H:Heap):entryO (.ptr v 0 0) H=entR H H[v]? := entR_eq H H[v]?
@[simp] theorem entR_it(H:Heap)(m since:Nat)(seen:List Nat):entR H (some (.miter (.omap m) since seen))=(mapAt H m).bind fun p=>seen.getLast?.bind fun i=>p.2[i]?.bind fun e=>if p.2.length=since then some (.tup [.val e.1,e.2])else none:=rfl
@[simp] theorem rangeM_def(m:Nat)(H:Heap)(vn:Nat):rangeMO (.omap m) H vn=(mapAt H m).bind fun p=>some (.ptr vn 0 0,.new (.miter (.omap m) p.2.length [])):=by
 simp only[rangeMO]
 cases mapAt H m<;>rfl
theorem XNext.at{v m since:Nat}{seen:List Nat}{kk:KK}{es:List (Value×D)}{dst:Option Nat}{s:St}{K:St→Prop}(hv:s.H[v]? = some (.miter (.omap m) since seen))(hm:s.H[m]? = some (.map kk es))(hs:es.length=since)
  (h0:(∀ i,i<es.length→i∈seen)→K { s with env:=put s.env dst (.tup [.b false]) })
  (h1:∀ i k d,es[i]? = some (k,d)→i ∉ seen→K { s with env:=put s.env dst (.tup [.b true,.val k,d]),H:=s.H.set v (.miter (.omap m) since (seen ++ [i])) }):XNext (.ptr v 0 0) dst s K .mk:=
 ⟨v,m,since,seen,kk,es,rfl,hv,hm,hs,h0,h1⟩
@[simp] theorem box_ptr(t:TypeId)(v k o n:Nat):boxO t (.ptr v k o) n=some (.ptr n 0 0,.new (.row t 0 [.ptr v k o])):=rfl
@[simp] theorem box_dI(t:TypeId)(l:List Int)(n:Nat):boxO t (dI l) n=some (.ptr n 0 0,.new (.row t 0 [dI l])):=by unfold dI;rfl
@[simp] theorem obRefs_miter(n:Nat)(m:D)(since:Nat)(seen:List Nat):obRefs n (.miter m since seen) = []:=rfl
@[simp] theorem shedAt_miter(ρ:Nat→Option Nat)(H:Heap)(m:D)(since:Nat)(seen:List Nat):shedAt ρ H (some (.miter m since seen)) = .miter (shed ρ H 40 m) since seen:=rfl
@[simp] theorem refsD_fn(H:Heap)(k:Nat)(f:Fn)(a b:List D):refsD H (k+1) (.fn f a b)=(a.map (refsD H k)).flatten++(b.map (refsD H k)).flatten:=by
 by_cases h:closed (.fn f a b)=true
 ·have h':=h
  simp only[closed_fn,Bool.and_eq_true]at h'
  rw[refsD_closed h,refsD_closedL h'.1,refsD_closedL h'.2];rfl
 ·rw[refsD,if_neg h]
theorem keyEq_i(a b:Int):keyEq (.int .i64 a) (.int .i64 b)=decide (a=b):=by
 simp[keyEq,BEq.beq]
end Go.AL
namespace Go.Proofs.YtnaefnajkaohgaaGreatDoor
open Go Go.AL Classical
set_option maxRecDepth 10000
set_option maxHeartbeats 8000000
theorem gt_ext{α:Type}[Inhabited α]{l l':List α}(h:l.length=l'.length)(k:∀ j:Int,0≤j→j<l.length→gt l j=gt l' j):l=l':=
 List.ext_getElem h fun i h1 h2=>by
  have:=k i (by omega) (by omega)
  rwa [gt_nat h1,gt_nat h2]at this
def ptw{α:Type}(v:List α)(en:Int→α):List Int→List α
 | []=>v
 | i::r=>ptw (pt v i (en i)) en r
@[simp] theorem ptw_nil{α:Type}(en:Int→α)(v:List α):ptw v en []=v:=rfl
theorem ptw_snoc{α:Type}(en:Int→α)(i:Int):∀ (r:List Int) (v:List α),ptw v en (r ++ [i])=pt (ptw v en r) i (en i)
 | [],v=>rfl
 | j::r,v=>ptw_snoc en i r (pt v j (en j))
theorem ptw_len{α:Type}[Inhabited α](en:Int→α):∀ (r:List Int) (v:List α),(∀ i∈r,0≤i∧i<v.length)→(ptw v en r).length=v.length
 | [],v,_=>rfl
 | i::r,v,h=>by
  have h1:=h i (by simp)
  have h2:=pt_len (v:=en i) h1.1 h1.2
  rw[ptw,ptw_len en r _ fun j hj=>by rw[h2];exact h j (by simp[hj]),h2]
theorem gt_ptw{α:Type}[Inhabited α](en:Int→α):∀ (r:List Int) (v:List α),(∀ i∈r,0≤i∧i<v.length)→∀ j:Int,0≤j→j<v.length→gt (ptw v en r) j=if j∈r then en j else gt v j
 | [],v,_,j,_,_=>by simp[ptw]
 | i::r,v,h,j,j0,j1=>by
  have h1:=h i (by simp)
  have h2:=pt_len (v:=en i) h1.1 h1.2
  rw[ptw,gt_ptw en r _ (fun k hk=>by rw[h2];exact h k (by simp[hk])) j j0 (by omega),gt_pt h1.1 h1.2 j0]
  by_cases hr:j∈r
  ·simp[hr]
  ·by_cases e:j=i
   ·subst e;simp[hr]
   ·simp[hr,e]
theorem ptw_congr{α:Type}[Inhabited α]{en:Int→α}{r r':List Int}{v:List α}(h:∀ i∈r,0≤i∧i<v.length)(hm:∀ i,i∈r↔i∈r'):ptw v en r=ptw v en r':=by
 have h':∀ i∈r',0≤i∧i<v.length:=fun i hi=>h i ((hm i).2 hi)
 have e1:=ptw_len en r v h
 have e2:=ptw_len en r' v h'
 refine gt_ext (by omega) fun j j0 j1=>?_
 rw[gt_ptw en r v h j j0 (by omega),gt_ptw en r' v h' j j0 (by omega)]
 simp only[hm]
def esD(en:Int→Stp)(ds:List Int):List (Value×D):=ds.map fun i=>(.int .i64 i,.agg [.i (en i).1,.i (en i).2])
theorem mapSet_esD{en:Int→Stp}{i:Int}:∀ {ds:List Int},i ∉ ds→mapSet (esD en ds) (.int .i64 i) (.agg [.i (en i).1,.i (en i).2])=esD en (ds ++ [i])
 | [],_=>by simp[esD,mapSet]
 | j::ds,h=>by
  have h1:i≠j:=fun e=>h (by simp[e])
  have h2:i ∉ ds:=fun e=>h (by simp[e])
  have:=mapSet_esD (en:=en) h2
  unfold esD at this ⊢
  rw[List.map_cons,mapSet,keyEq_i,this]
  simp[h1]
@[simp] theorem esD_nil(en:Int→Stp):esD en [] = []:=rfl
@[simp] theorem esD_len(en:Int→Stp)(ds:List Int):(esD en ds).length=ds.length:=by simp[esD]
theorem esD_get{en:Int→Stp}{ds:List Int}{i:Nat}{k:Value}{d:D}(h:(esD en ds)[i]? = some (k,d)):i<ds.length∧k = .int .i64 (gt ds (i:Int))∧d = .agg [.i (en (gt ds (i:Int))).1,.i (en (gt ds (i:Int))).2]:=by
 unfold esD at h
 rw[List.getElem?_map]at h
 obtain⟨a,ha,he⟩:=Option.map_eq_some_iff.1 h
 obtain⟨hi,e⟩:=List.getElem?_eq_some_iff.1 ha
 refine⟨hi,?_⟩
 rw[gt_nat hi,e]
 exact⟨(congrArg Prod.fst he).symm,(congrArg Prod.snd he).symm⟩
@[simp] theorem shed_esD(ρ:Nat→Option Nat)(H:Heap)(en:Int→Stp)(ds:List Int):((esD en ds).map fun x=>(x.1,shed ρ H 40 x.2))=esD en ds:=by
 unfold esD
 rw[List.map_map]
 refine List.map_congr_left fun i _=>?_
 simp
@[simp] theorem topRef_esD(n:Nat)(en:Int→Stp)(ds:List Int):((esD en ds).map fun x=>topRef n x.2)=ds.map fun _=>[]:=by
 unfold esD
 rw[List.map_map]
 rfl
@[simp] theorem filRef_esD(p:Nat→Bool)(n:Nat)(en:Int→Stp)(ds:List Int):((esD en ds).map ((List.filter p) ∘ fun x=>topRef n x.2))=ds.map fun _=>[]:=by
 unfold esD
 rw[List.map_map]
 rfl
@[simp] theorem flatten_nils{α β:Type}(ds:List α):(ds.map fun _=>([]:List β)).flatten = []:=by
 induction ds with
 | nil=>rfl
 | cons a r ih=>simp
section
variable(g:Game)(l:List Pos)(nx:List (List Int))(part:List Int)
noncomputable def en1(v:List Stp)(b:List Bool)(n:Int)(i:Int):Stp:=(entE g (gt l i) v b (gt nx i) n).1
noncomputable def okE(v:List Stp)(b:List Bool)(n:Int)(i:Int):Bool:=(entE g (gt l i) v b (gt nx i) n).2&&gt b i
noncomputable def dcs(v:List Stp)(b:List Bool)(n:Int):List Int:=part.filter (okE g l nx v b n)
noncomputable def rV(v:List Stp)(b:List Bool)(n:Int):List Stp:=ptw v (en1 g l nx v b n) (dcs g l nx part v b n)
noncomputable def rB(v:List Stp)(b:List Bool)(n:Int):List Bool:=ptw b (fun _=>false) (dcs g l nx part v b n)
noncomputable def rnds(bu:Int):Nat→Int→List Stp→List Bool→Int→Int×List Stp×List Bool
 | 0,_,v,b,t=>(t,v,b)
 | f+1,n,v,b,t=>if n≤grt (rV g l nx part v b n) (rB g l nx part v b n) v.length∧n<4000
  then rnds bu f (n+1) (rV g l nx part v b n) (rB g l nx part v b n) (t+(lds b part bu part.length).1)
  else(t+(lds b part bu part.length).1,rV g l nx part v b n,rB g l nx part v b n)
def fin2(v:List Stp)(b:List Bool):List Stp×List Bool:=(ptw v (fun _=>(2,0)) (part.filter fun i=>gt b i),ptw b (fun _=>false) (part.filter fun i=>gt b i))
@[simp] theorem fin2_nil(v:List Stp)(b:List Bool):fin2 [] v b=(v,b):=rfl
noncomputable def fillR(bu:Int)(v:List Stp)(b:List Bool):Int×List Stp×List Bool:=
 let r:=rnds g l nx part bu 4001 0 v (ptw b (fun _=>true) part) 0
 (r.1,fin2 part r.2.1 r.2.2)
end
def gk(ds:List Int)(ys:List Nat):List Int:=ys.map fun j:Nat=>gt ds (j:Int)
@[simp] theorem gk_nil(ds:List Int):gk ds [] = []:=rfl
theorem mem_gk{ds:List Int}{ys:List Nat}(hlt:∀ j∈ys,j<ds.length)(hall:∀ j,j<ds.length→j∈ys)(i:Int):i∈gk ds ys↔i∈ds:=by
 unfold gk
 simp only[List.mem_map]
 constructor
 ·rintro⟨j,hj,rfl⟩
  exact gt_mem (by omega) (by have:=hlt j hj;omega)
 ·intro h
  obtain⟨n,n0,n1,e⟩:=mem_gt.1 h
  exact⟨n.toNat,hall _ (by omega),by rw[show((n.toNat:Nat):Int)=n by omega];exact e⟩
theorem gk_in{L:Nat}{ds:List Int}(hds:∀ i∈ds,0≤i∧i<L){ys:List Nat}(hlt:∀ j∈ys,j<ds.length):∀ i∈gk ds ys,0≤i∧i<L:=fun i hi=>by
 unfold gk at hi
 obtain⟨j,hj,rfl⟩:=List.mem_map.1 hi
 exact hds _ (gt_mem (by omega) (by have:=hlt j hj;omega))
theorem gk_snoc(ds:List Int)(ys:List Nat)(i:Nat):gk ds (ys ++ [i])=gk ds ys ++ [gt ds (i:Int)]:=by simp[gk]
theorem clS_put{l:List Stp}{n:Int}(a b:Int):(cl fS l).take (n.toNat*2) ++ .i a :: .i b::(cl fS l).drop (n.toNat*2+2)=cl fS (pt l n (a,b)):=by
 rw[show n.toNat*2+2=(n.toNat+1)*2 by omega,cl_drop,cl_take]
 unfold pt
 rw[← cl_app,cl_cons,fS_def]
 rfl
theorem dcs_sub{g:Game}{l:List Pos}{nx:List (List Int)}{part:List Int}{v:List Stp}{b:List Bool}{n i:Int}(h:i∈dcs g l nx part v b n):i∈part:=(List.mem_filter.1 h).1
def tbl(w:Bool)(g:Game)(l:List Pos)(nx:List (List Int)):List D:=[.osl (bif w then 3 else 4) (bif w then 0 else 1) 2 0 l.length,.osl (bif w then 4 else 3) 0 1 0 l.length,.i g.size,.sl 1 (g.next.map fI),dI g.turn,.sl 3 (g.kinds.map Kind.cells),.i g.rights,.b g.must,dN 4 Clause.cells g.clauses,.i g.blocked,.i g.endless,dPs l,.sl 1 (nx.map fN)]
def tp(w:Bool):D:=.ptr (bif w then 2 else 1) 0 0
def H5(w:Bool)(z:List Stp)(g:Game)(l:List Pos)(nx:List (List Int))(m:List Int)(v:List Stp)(b:List Bool):Heap:=
 bif w then [.row 41 0 g.cells,.row 50 0 [dI m],.row 148 0 (tbl w g l nx),.row 58 0 (cl fS v),.row 4 0 (cl fB b)]else [.row 41 0 g.cells,.row 148 0 (tbl w g l nx),.row 58 0 (cl fS z),.row 4 0 (cl fB b),.row 58 1 (cl fS v)]
def HF(w:Bool)(z:List Stp)(g:Game)(l:List Pos)(nx:List (List Int))(m:List Int)(part:List Int)(n t:Int)(v:List Stp)(b:List Bool)(st:RSt):Heap:=
 H5 w z g l nx m v b ++ [.row 139 0 [tp w],.row 33 0 [dI part],.row 3 0 [.i n],.row 3 0 [.i t],.row 139 0 [tp w],.dfr,.rcd 4992 [(3,.ptr 5 0 0),(4,.ptr 6 0 0),(5,.ptr 7 0 0),(9,.ptr 8 0 0)] st]
structure FOK(g:Game)(l:List Pos)(nx:List (List Int))(part:List Int)(bu:Int):Prop where
 gm:GameOK g
 ps:∀ p∈l,PosOK g p
 len:l.length≤4000
 nxl:nx.length=l.length
 nxk:∀ i:Int,0≤i→i<l.length→(∀ k∈gt nx i,0≤k∧k<l.length)∧(gt nx i).length≤4000000000
 prt:∀ i∈part,0≤i∧i<l.length
 nd:part.Nodup
 pl:part.length≤4000
 bu:1≤bu∧bu≤9223372036854775807
end Go.Proofs.YtnaefnajkaohgaaGreatDoor
namespace Go.Proofs.YtnaefnajkaohgaaGreatDoor
open Go Go.AL Classical
set_option maxRecDepth 10000
set_option maxHeartbeats 16000000
attribute [local simp] HF H5 tp tbl
theorem yld4992(w:Bool)(z:List Stp){g:Game}{l:List Pos}{nx:List (List Int)}{part:List Int}{bu:Int}(o:FOK g l nx part bu)(m:List Int)(n t:Int)(v:List Stp)(b:List Bool)(hn:0≤n∧n≤4000)(ht:0≤t∧t≤40000000)(hv:v.length=l.length)(hb:b.length=l.length)
  {dst:Option Nat} {env:Env} {K:St→Prop} (hk:K { env:=put env dst (.b true),H:=HF w z g l nx m part bu (t+(lds b part bu part.length).1) (rV g l nx part v b n) (rB g l nx part v b n) .ready }) :
  XYield T 11 [.i n] dst { env:=env,H:=HF w z g l nx m part bu t v b .ready } K .mk:=by
 obtain⟨u,hu⟩:∃ u,u=w:=⟨w,rfl⟩
 cases w
 all_goals
  have hp:=o.prt
  have hld:=lds_in b part bu part.length
  have hpl:=o.pl
  have hll:=o.len
  refine XYield.r (rf:=4992) (env0:=[(3,.ptr 5 0 0),(4,.ptr 6 0 0),(5,.ptr 7 0 0),(9,.ptr 8 0 0)]) (Rd:=R4992) (by simp[HF,H5,tp,tbl,hu]) rfl rfl R4992.a R4992.b (unfz_no rfl) (unfz_no rfl) ?_
  simp[R4992,HF,H5,tp,tbl,hu]
  refine XTCall.r rfl rfl (f118 v b g l nx part bu (fun i hi=>by rw[hb];exact hp i hi) hpl (by omega) o.bu) (by simp[hv,hb]) (by simp[flat]) (by simp) ?_
  simp
  (with_reducible repeat' first|refine Xk ?_<;>try simp|refine Xs ?_ ?_<;>intro h<;>(try intro h')<;>(try simp[h])<;>(try omega)|refine Xg ?_|omega)
  refine XLoop.s (by simp;rfl) ?_
  refine XLoop.kg [] true (0:Int) (fun y=>[(3,.ptr 5 0 0),(10,.i n),(11,.omap 12),(46,dI part),(47,.i part.length),(48,.i y)]) (fun y=>HF u z g l nx m part bu (t+(lds b part bu part.length).1) v b .busy ++ [.map (.int .i64) (esD (en1 g l nx v b n) ((part.take y.toNat).filter (okE g l nx v b n)))]) (fun y=>0≤y∧y≤part.length) (fun y=>(part.length-y).toNat) ?_ (by simp) (by first|rfl|(simp[cl_one];done)|(simp[*];done)) rfl rfl rfl ?_
  ·simp
  rintro y ⟨y0,y1⟩
  dsimp only at y0 y1 ⊢
  rw[hu]
  by_cases hy:y<part.length
  ·have hin:=hp _ (gt_mem y0 hy)
   have hx:=o.nxk _ hin.1 hin.2
   have hnot:gt part y ∉ (part.take y.toNat).filter (okE g l nx v b n):=fun hm=>by
    have h1:=(List.mem_filter.1 hm).1
    have h2:=o.nd
    rw[← List.take_append_drop y.toNat part,drop_gt y0 hy,List.nodup_append]at h2
    exact h2.2.2 _ h1 _ (List.mem_cons_self ..) rfl
   have hset:okE g l nx v b n (gt part y)=true→mapSet (esD (en1 g l nx v b n) ((part.take y.toNat).filter (okE g l nx v b n))) (.int .i64 (gt part y)) (.agg [.i (entE g (gt l (gt part y)) v b (gt nx (gt part y)) n).1.1,.i (entE g (gt l (gt part y)) v b (gt nx (gt part y)) n).1.2])=esD (en1 g l nx v b n) ((part.take (y+1).toNat).filter (okE g l nx v b n)):=fun h=>by
    rw[take_gt y0 hy,List.filter_append,List.filter_cons_of_pos h,List.filter_nil]
    exact mapSet_esD hnot
   have hoff:okE g l nx v b n (gt part y)=false→(part.take (y+1).toNat).filter (okE g l nx v b n)=(part.take y.toNat).filter (okE g l nx v b n):=fun h=>by
    rw[take_gt y0 hy,List.filter_append,List.filter_cons_of_neg (by rw[h];decide),List.filter_nil,List.append_nil]
   simp[hy,HF,H5,tp,tbl,hu]
   (with_reducible repeat' first|refine Xk ?_<;>try simp|refine Xs ?_ ?_<;>intro h<;>(try intro h')<;>(try simp[h])<;>(try omega)|refine Xg ?_|omega)
   refine XCall.r rfl rfl (f119 g o.gm l o.ps v b nx (gt part y) n hin hn o.nxl hx.1 hv hb hx.2) (by simp[hv,hb]) (by simp[flat,flatL]) (by simp) ?_
   simp
   (with_reducible repeat' first|refine Xk ?_<;>try simp|refine Xs ?_ ?_<;>intro h<;>(try intro h')<;>(try simp[h])<;>(try omega)|refine Xg ?_|omega)
   ·refine LJ.i (y+1) (by first|rfl|simp[hset (by simp[okE, *])]) (by first|rfl|simp[hset (by simp[okE, *])]) (by first|rfl|simp[hset (by simp[okE, *])]) (by first|rfl|simp[hset (by simp[okE, *])]) ?_
    omega
   ·refine LJ.i (y+1) (by first|rfl|simp[hoff (by simp[okE, *])]) (by first|rfl|simp[hoff (by simp[okE, *])]) (by first|rfl|simp[hoff (by simp[okE, *])]) (by first|rfl|simp[hoff (by simp[okE, *])]) ?_
    omega
   ·refine LJ.i (y+1) (by first|rfl|simp[hoff (by simp[okE, *])]) (by first|rfl|simp[hoff (by simp[okE, *])]) (by first|rfl|simp[hoff (by simp[okE, *])]) (by first|rfl|simp[hoff (by simp[okE, *])]) ?_
    omega
  ·have hye:y=part.length:=by omega
   subst hye
   simp[HF,H5,tp,tbl,hu]
   unfold rV rB dcs at hk
   have hds:∀ i∈part.filter (okE g l nx v b n),0≤i∧i<l.length:=fun i hi=>hp i (List.mem_filter.1 hi).1
   refine XLoop.s (by simp;rfl) ?_
   generalize part.filter (okE g l nx v b n)=ds at *
   refine XLoop.kg [] true ([]:List Nat) (fun y=>[(3,.ptr 5 0 0),(75,.ptr 13 0 0)]) (fun y=>HF u z g l nx m part bu (t+(lds b part bu part.length).1) (ptw v (en1 g l nx v b n) (gk ds y)) (ptw b (fun _=>false) (gk ds y)) .busy ++ [.map (.int .i64) (esD (en1 g l nx v b n) ds),.miter (.omap 12) ds.length y]) (fun y=>y.Nodup∧∀ j∈y,j<ds.length) (fun y=>ds.length-y.length) ?_ (by simp) (by first|rfl|(simp[cl_one];done)|(simp[*];done)) rfl rfl rfl ?_
   ·simp[gk]
   rintro ys ⟨hnd,hlt⟩
   dsimp only at hnd hlt ⊢
   rw[hu]
   simp[HF,H5,tp,tbl,hu]
   refine XNext.at (m:=12) (since:=ds.length) (seen:=ys) (kk:=.int .i64) (es:=esD (en1 g l nx v b n) ds) (by simp) (by simp) (by simp) (fun hall=>?_) fun i k d he hi=>?_
   ·rw[esD_len]at hall
    simp
    rw[ptw_congr (v:=v) (r:=gk ds ys) (r':=ds) (by rw[hv];exact gk_in hds hlt) (mem_gk hlt hall),ptw_congr (v:=b) (r:=gk ds ys) (r':=ds) (by rw[hb];exact gk_in hds hlt) (mem_gk hlt hall)]
    exact hk
   ·obtain⟨hi2,rfl,rfl⟩:=esD_get he
    have hin:=hds _ (gt_mem (l:=ds) (n:=(i:Int)) (by omega) (by omega))
    have hl1:=ptw_len (en1 g l nx v b n) (gk ds ys) v (by rw[hv];exact gk_in hds hlt)
    have hl2:=ptw_len (fun _=>false) (gk ds ys) b (by rw[hb];exact gk_in hds hlt)
    simp[he,clS_put]
    (with_reducible repeat' first|refine Xk ?_<;>try simp[hl1,hl2,hv,hb,clS_put]|refine Xs ?_ ?_<;>intro h<;>(try intro h')<;>(try simp[h,hl1,hl2,hv,hb,clS_put])<;>(try omega)|refine Xg ?_|omega)
    refine LJ.i (ys ++ [i]) (by first|rfl|simp[clS_put,gk_snoc,ptw_snoc]) (by first|rfl|simp[clS_put,gk_snoc,ptw_snoc]) (by first|rfl|simp[clS_put,gk_snoc,ptw_snoc]) (by first|rfl|simp[clS_put,gk_snoc,ptw_snoc]) ?_
    refine⟨?_,?_,fun j hj=>?_⟩
    ·have hnd':(ys ++ [i]).Nodup:=by
      rw[List.nodup_append]
      exact⟨hnd,by simp,fun a ha b hb e=>hi (by rw[List.mem_singleton.1 hb]at e;exact e▸ha)⟩
     have:=nodup_len hnd' (m:=List.range ds.length) fun x hx=>by
      rcases List.mem_append.1 hx with hx|hx
      ·exact List.mem_range.2 (hlt x hx)
      ·rw[List.mem_singleton.1 hx];exact List.mem_range.2 hi2
     simp at this ⊢
     omega
    ·rw[List.nodup_append]
     exact⟨hnd,by simp,fun a ha b hb e=>hi (by rw[List.mem_singleton.1 hb]at e;exact e▸ha)⟩
    ·rcases List.mem_append.1 hj with hj|hj
     ·exact hlt j hj
     ·rw[List.mem_singleton.1 hj];exact hi2
end Go.Proofs.YtnaefnajkaohgaaGreatDoor
