/- Part 37 of the proof of skewer.skewerlaw15.TableValues. -/
import Derived.Test.YtnaefnajkaohgaaGreatDoorE27
import Derived.Test.YtnaefnajkaohgaaGreatDoorE22
set_option linter.all false
namespace Go.Proofs.YtnaefnajkaohgaaGreatDoor
open Go Go.AL Classical
set_option maxRecDepth 10000
set_option maxHeartbeats 4000000
def lC(v:List eY)(b:List Bool):Nat→Int
 | 0 => -1
 | n+1=>if gt b (n:Int)=false∧(gt v (n:Int)).1≠2 then max (lC v b n) (gt v (n:Int)).2 else lC v b n
@[simp] theorem ajB(v:List eY)(b:List Bool):lC v b 0 = -1:=rfl
theorem Ui{v:List eY}{b:List Bool}{i:Int}(i0:0≤i):lC v b (i+1).toNat=if gt b i=false∧(gt v i).1≠2 then max (lC v b i.toNat) (gt v i).2 else lC v b i.toNat:=by
 have h:(i+1).toNat=i.toNat+1:=by omega
 have h2:((i.toNat:Nat):Int)=i:=by omega
 rw[h,lC,h2]
theorem f163(v:List eY)(b:List Bool)(g:eU)(l:List Pos)(nx:List (List Int))(hb:b.length=v.length)(h9:v.length≤4000):Wf T 163 [.fh [gQ v,.sl 1 (b.map fB),.i g.size,.sl 1 (g.next.map fI),dI g.gV,.sl 3 (g.kinds.map Kind.cells),.i g.fq,.b g.lq,dN 4 Clause.cells g.clauses,.i g.blocked,.i g.o4,gb l,.sl 1 (nx.map fN)]] [] (Is (.i (lC v b v.length))):=by
 refine Yg CT ?_
 simp[CT]
 (with_reducible repeat' first|refine Xk ?_<;>try simp|refine Xs ?_ ?_<;>intro h<;>(try intro h')<;>(try simp[h])<;>(try omega)|refine Xg ?_|omega)
 refine fe.e (0:Int) (fun y=>[(0,.fh [gQ v,.sl 1 (b.map fB),.i g.size,.sl 1 (g.next.map fI),dI g.gV,.sl 3 (g.kinds.map Kind.cells),.i g.fq,.b g.lq,dN 4 Clause.cells g.clauses,.i g.blocked,.i g.o4,gb l,.sl 1 (nx.map fN)]),(3,.i (lC v b y.toNat)),(9,gQ v),(10,.i v.length),(11,.i y)]) (fun y=>[]) (fun y=>0≤y∧y≤v.length) (fun y=>(v.length-y).toNat) ?_ ?_
 ·simp
 rintro i ⟨i0,i1⟩
 dsimp only at i0 i1 ⊢
 by_cases hi:i<v.length
 ·have oI:=Ui (v:=v) (b:=b) i0
  simp[hi]
  (with_reducible repeat' first|refine Xk ?_<;>try simp|refine Xs ?_ ?_<;>intro h<;>(try intro h')<;>(try simp[h])<;>(try omega)|refine Xg ?_|omega)
  all_goals
   refine LJ.i (i+1) (by first|rfl|simp[oI,h, *]) (by first|rfl|simp[oI,h, *]) rfl rfl ?_
   omega
 ·have:i=v.length:=by omega
  subst this
  simp
def lT(b:List Bool)(part:List Int)(n:Int):Nat→Int×Int
 | 0=>(0,-1)
 | k+1=>if gt b (gt part (k:Int))=true∧uM (gt part (k:Int)) n≠(lT b part n k).2 then((lT b part n k).1+1,uM (gt part (k:Int)) n)else lT b part n k
@[simp] theorem akt(b:List Bool)(part:List Int)(n:Int):lT b part n 0=(0,-1):=rfl
theorem XD{b:List Bool}{part:List Int}{n i:Int}(i0:0≤i):lT b part n (i+1).toNat=if gt b (gt part i)=true∧uM (gt part i) n≠(lT b part n i.toNat).2 then((lT b part n i.toNat).1+1,uM (gt part i) n)else lT b part n i.toNat:=by
 have h:(i+1).toNat=i.toNat+1:=by omega
 have h2:((i.toNat:Nat):Int)=i:=by omega
 rw[h,lT,h2]
theorem A9(b:List Bool)(part:List Int)(n:Int):∀ k:Nat,0≤(lT b part n k).1∧(lT b part n k).1≤k
 | 0=>by simp
 | k+1=>by
  have:=A9 b part n k
  unfold lT
  split
  ·dsimp only;omega
  ·omega
theorem f118(v:List eY)(b:List Bool)(g:eU)(l:List Pos)(nx:List (List Int))(part:List Int)(n:Int)(hp:∀ i∈part,0≤i∧i<b.length)(h9:part.length≤4000)(hb:b.length≤4000)(hn:1≤n∧n≤9223372036854775807):Wf T 118 [.fh [gQ v,.sl 1 (b.map fB),.i g.size,.sl 1 (g.next.map fI),dI g.gV,.sl 3 (g.kinds.map Kind.cells),.i g.fq,.b g.lq,dN 4 Clause.cells g.clauses,.i g.blocked,.i g.o4,gb l,.sl 1 (nx.map fN)],dI part,.i n] [] (Is (.i (lT b part n part.length).1)):=by
 refine Yg Cp ?_
 simp[Cp]
 (with_reducible repeat' first|refine Xk ?_<;>try simp|refine Xs ?_ ?_<;>intro h<;>(try intro h')<;>(try simp[h])<;>(try omega)|refine Xg ?_|omega)
 refine fe.e (0:Int) (fun y=>[(0,.fh [gQ v,.sl 1 (b.map fB),.i g.size,.sl 1 (g.next.map fI),dI g.gV,.sl 3 (g.kinds.map Kind.cells),.i g.fq,.b g.lq,dN 4 Clause.cells g.clauses,.i g.blocked,.i g.o4,gb l,.sl 1 (nx.map fN)]),(2,.i n),(7,.i (lT b part n y.toNat).1),(8,.i (lT b part n y.toNat).2),(12,dI part),(13,.i part.length),(14,.i y)]) (fun y=>[]) (fun y=>0≤y∧y≤part.length) (fun y=>(part.length-y).toNat) ?_ ?_
 ·simp
 rintro i ⟨i0,i1⟩
 dsimp only at i0 i1 ⊢
 by_cases hi:i<part.length
 ·have oI:=XD (b:=b) (part:=part) (n:=n) i0
  have fF:=hp _ (ff i0 hi)
  have hk:=A9 b part n i.toNat
  simp[hi]
  (with_reducible repeat' first|refine Xk ?_<;>try simp|refine Xs ?_ ?_<;>intro h<;>(try intro h')<;>(try simp[h])<;>(try omega)|refine Xg ?_|omega)
  all_goals
   refine LJ.i (i+1) (by first|rfl|simp[oI,h, *]) (by first|rfl|simp[oI,h, *]) rfl rfl ?_
   omega
 ·have:i=part.length:=by omega
  subst this
  simp
noncomputable def vt(g:eU)(p:Pos):Int:=if ended g p then(gt g.clauses (p9 g p)).out else 0
theorem Tb{g:eU}{p:Pos}{i:Int}(i0:0≤i)(hi:i<g.clauses.length)(h2:∀ c∈g.clauses.take i.toNat,¬ jh p c)(h:jh p (gt g.clauses i)):vt g p=(gt g.clauses i).out:=by
 have he:ended g p:=⟨_,ff i0 hi,h⟩
 have hx:g.clauses.findIdx (fun c=>decide (jh p c))=i.toNat:=by
  rw[List.findIdx_eq (by omega)]
  refine⟨?_,fun j hj=>?_⟩
  ·have:gt g.clauses i=g.clauses[i.toNat]:=by
    unfold gt
    rw[List.getD_eq_getElem?_getD,List.getElem?_eq_getElem (by omega)];rfl
   rw[← this];simpa using h
  ·simp only[decide_eq_false_iff_not]
   refine h2 _ ?_
   rw[de]
   exact⟨j,by omega,rfl⟩
 unfold vt p9
 rw[if_pos he,if_pos he,hx]
 congr 1
theorem TJ(g:eU)(hg:fr g)(p:Pos)(hp:fR g p):Wf T 46 [dG g,dP p] [] (Is (.tup [.i (vt g p),.b (decide (ended g p))])):=by
 have fQ:=hg.clauses
 refine Yg xc ?_
 simp[xc]
 refine fe.e (0:Int) (fun y=>[(2,.ptr 0 0 0),(3,.ptr 1 0 0),(9,dN 4 Clause.cells g.clauses),(10,.i g.clauses.length),(11,.i y)]) (fun y=>[.row 41 0 g.cells,.row 44 0 p.cells]) (fun y=>0≤y∧y≤g.clauses.length∧∀ c∈g.clauses.take y.toNat,¬ jh p c) (fun y=>(g.clauses.length-y).toNat) ?_ ?_
 ·simp
 rintro i ⟨i0,i1,i2⟩
 by_cases hi:i<g.clauses.length
 ·have hm:=ff i0 hi
  have hc:=hg.clause _ hm
  have ho:=hc.ok
  have Fz:jh p (gt g.clauses i)→decide (ended g p)=true:=fun h=>decide_eq_true ⟨_,hm,h⟩
  have I4:jh p (gt g.clauses i)→ended g p:=fun h=>⟨_,hm,h⟩
  have ye:jh p (gt g.clauses i)→vt g p=(gt g.clauses i).out:=fun h=>Tb i0 hi i2 h
  have mJ:¬ jh p (gt g.clauses i)→∀ c∈g.clauses.take (i+1).toNat,¬ jh p c:=fun h c hc=>by
   rw[gE i0 hi]at hc
   rcases List.mem_append.1 hc with hc|hc
   ·exact i2 c hc
   ·rw[List.mem_singleton.1 hc];exact h
  simp[hi]
  (with_reducible repeat' first|refine Xk ?_<;>try simp|refine Xs ?_ ?_<;>intro h<;>(try intro h')<;>(try simp[h])<;>(try omega)|refine Xg ?_|omega)
  rcases(show(gt g.clauses i).cond=1∨(gt g.clauses i).cond=2∨(gt g.clauses i).cond=3 by omega)with e|e|e
  ·simp[e]
   refine Yt (f294 g hg p hp ⟨1,(gt g.clauses i).kind,(gt g.clauses i).n,(gt g.clauses i).out⟩ (by dsimp only;omega)) ?_
   simp
   have mD:jh p (gt g.clauses i)=(oO p p.side (gt g.clauses i).kind=0):=by simp[jh,e]
   by_cases hx:oO p p.side (gt g.clauses i).kind=0
   ·simp[hx]
    exact⟨(ye (mD▸hx)).symm,I4 (mD▸hx)⟩
   ·simp[hx]
    (with_reducible repeat' first|refine Xk ?_<;>try simp|refine Xs ?_ ?_<;>intro h<;>(try intro h')<;>(try simp[h])<;>(try omega)|refine Xg ?_|omega)
    refine LJ.e (i+1) ?_
    exact⟨by omega,by omega,by omega,mJ (mD▸hx)⟩
  ·simp[e]
   refine Yt (f296 g hg p hp ⟨2,(gt g.clauses i).kind,(gt g.clauses i).n,(gt g.clauses i).out⟩ (by dsimp only;omega) (by dsimp only;omega)) ?_
   simp
   have mD:jh p (gt g.clauses i)=(gt p.cs (gt g.clauses i).n=iS (gt g.clauses i).kind (1-p.side)):=by simp[jh,e]
   by_cases hx:gt p.cs (gt g.clauses i).n=iS (gt g.clauses i).kind (1-p.side)
   ·simp[hx]
    exact⟨(ye (mD▸hx)).symm,I4 (mD▸hx)⟩
   ·simp[hx]
    (with_reducible repeat' first|refine Xk ?_<;>try simp|refine Xs ?_ ?_<;>intro h<;>(try intro h')<;>(try simp[h])<;>(try omega)|refine Xg ?_|omega)
    refine LJ.e (i+1) ?_
    exact⟨by omega,by omega,by omega,mJ (mD▸hx)⟩
  ·simp[e]
   refine Yt (f297 g hg p hp ⟨3,(gt g.clauses i).kind,(gt g.clauses i).n,(gt g.clauses i).out⟩) ?_
   simp
   have mD:jh p (gt g.clauses i)=(oO p p.side (-1)≤(gt g.clauses i).n):=by simp[jh,e]
   by_cases hx:oO p p.side (-1)≤(gt g.clauses i).n
   ·simp[hx]
    exact⟨(ye (mD▸hx)).symm,I4 (mD▸hx)⟩
   ·simp[hx]
    (with_reducible repeat' first|refine Xk ?_<;>try simp|refine Xs ?_ ?_<;>intro h<;>(try intro h')<;>(try simp[h])<;>(try omega)|refine Xg ?_|omega)
    refine LJ.e (i+1) ?_
    exact⟨by omega,by omega,by omega,mJ (mD▸hx)⟩
 ·simp[hi]
  have:¬ ended g p:=fun⟨c,hc,h⟩=>i2 c (by rw[js (by omega)];exact hc) h
  simp[vt,this]
theorem f54(g:eU)(hg:fr g)(p:Pos)(hp:fR g p):Wf T 54 [dG g,dP p] [] (Is (.tup [.i (stat g p).1,.b (stat g p).2])):=by
 have he:ended g p→gU g p = []:=Ko
 refine Yg DT ?_
 simp[DT]
 refine Yc (TJ g hg p hp) ?_
 simp
 by_cases h0:ended g p
 ·simp[h0,stat,vt,he h0]
 ·simp[h0,stat,vt]
  refine Yc (f26 g hg p hp) ?_
  simp
  (with_reducible repeat' first|refine Xk ?_<;>try simp|refine Xs ?_ ?_<;>intro h<;>(try intro h')<;>(try simp[h])<;>(try omega)|refine Xg ?_|omega)
  all_goals simp[h0, *]
set_option maxRecDepth 10000
set_option maxHeartbeats 8000000
def jC(v:List eY)(b:List Bool)(x:List Int):Nat→Int×Int
 | 0=>(0,-1)
 | j+1=>if gt b (gt x (j:Int))=false∧(gt v (gt x (j:Int))).1=1 then((jC v b x j).1+1,max (jC v b x j).2 (gt v (gt x (j:Int))).2)else jC v b x j
@[simp] theorem aov(v:List eY)(b:List Bool)(x:List Int):jC v b x 0=(0,-1):=rfl
theorem aeA{v:List eY}{b:List Bool}{x:List Int}{i:Int}(i0:0≤i):jC v b x (i+1).toNat=if gt b (gt x i)=false∧(gt v (gt x i)).1=1 then((jC v b x i.toNat).1+1,max (jC v b x i.toNat).2 (gt v (gt x i)).2)else jC v b x i.toNat:=by
 have h:(i+1).toNat=i.toNat+1:=by omega
 have h2:((i.toNat:Nat):Int)=i:=by omega
 rw[h,jC,h2]
def qU(v:List eY)(b:List Bool)(x:List Int)(n:Int):Prop:=∃ k∈x,gt b k=false∧gt v k=(3,n-1)
noncomputable def jI(g:eU)(p:Pos)(v:List eY)(b:List Bool)(x:List Int)(n:Int):eY×Bool:=
 if n=0 then(((stat g p).1,0),(stat g p).2)else
 if qU v b x n then((1,n),true)else((3,n),decide (0<x.length∧(jC v b x x.length).1=x.length∧(jC v b x x.length).2=n-1))
theorem Hu(v:List eY)(b:List Bool)(x:List Int):∀ k:Nat,0≤(jC v b x k).1∧(jC v b x k).1≤k
 | 0=>by simp
 | k+1=>by
  have:=Hu v b x k
  unfold jC
  split
  ·dsimp only;omega
  ·omega
theorem f119(g:eU)(hg:fr g)(l:List Pos)(hl:∀ p∈l,fR g p)(v:List eY)(b:List Bool)(nx:List (List Int))(i n:Int)(hi:0≤i∧i<l.length)(hn:0≤n∧n≤4000)(hx:nx.length=l.length)
  (hk:∀ k∈gt nx i,0≤k∧k<l.length) (hv:v.length=l.length) (hb:b.length=l.length) (pH:(gt nx i).length≤4000000000) :
  Wf T 119 [.fh [gQ v,.sl 1 (b.map fB),.i g.size,.sl 1 (g.next.map fI),dI g.gV,.sl 3 (g.kinds.map Kind.cells),.i g.fq,.b g.lq,dN 4 Clause.cells g.clauses,.i g.blocked,.i g.o4,gb l,.sl 1 (nx.map fN)],.i i,.i n] []
   (Is (.tup [.agg [.i (jI g (gt l i) v b (gt nx i) n).1.1,.i (jI g (gt l i) v b (gt nx i) n).1.2],.b (jI g (gt l i) v b (gt nx i) n).2])):=by
 refine Yg Cq ?_
 simp[Cq]
 (with_reducible repeat' first|refine Xk ?_<;>try simp[oa]|refine Xs ?_ ?_<;>intro h<;>(try intro h')<;>(try simp[h,oa])<;>(try omega)|refine Xg ?_|omega)
 ·refine Yt (f54 g hg _ (hl _ (ff hi.1 hi.2))) ?_
  simp
  simp[jI,h]
 generalize hX:gt nx i=x at *
 refine fe.e (0:Int) (fun y=>[(0,.fh [gQ v,.sl 1 (b.map fB),.i g.size,.sl 1 (g.next.map fI),dI g.gV,.sl 3 (g.kinds.map Kind.cells),.i g.fq,.b g.lq,dN 4 Clause.cells g.clauses,.i g.blocked,.i g.o4,gb l,.sl 1 (nx.map fN)]),(1,.i i),(2,.i n),(6,.ptr 0 0 0),(10,.i (jC v b x y.toNat).1),(11,.i (jC v b x y.toNat).2),(41,dN 1 f1 x),(42,.i x.length),(43,.i y)]) (fun y=>[.row 58 0 [.i 0,.i 0]]) (fun y=>0≤y∧y≤x.length∧∀ k∈x.take y.toNat,¬ (gt b k=false∧gt v k=(3,n-1))) (fun y=>(x.length-y).toNat) ?_ ?_
 ·simp
 rintro j ⟨j0,j1,j2⟩
 dsimp only at j0 j1 j2 ⊢
 by_cases hj:j<x.length
 ·have oI:=aeA (v:=v) (b:=b) (x:=x) j0
  have fF:=hk _ (ff j0 hj)
  have hw:=Hu v b x j.toNat
  have mJ:¬ (gt b (gt x j)=false∧gt v (gt x j)=(3,n-1))→∀ k∈x.take (j+1).toNat,¬ (gt b k=false∧gt v k=(3,n-1)):=fun h k hk=>by
   rw[gE j0 hj]at hk
   rcases List.mem_append.1 hk with hk|hk
   ·exact j2 k hk
   ·rw[List.mem_singleton.1 hk];exact h
  have lF:∀ y:eY,gt v (gt x j)=y↔(gt v (gt x j)).1=y.1∧(gt v (gt x j)).2=y.2:=fun y=>Prod.ext_iff
  simp[hj]
  (with_reducible repeat' first|refine Xk ?_<;>try simp|refine Xs ?_ ?_<;>intro h<;>(try intro h')<;>(try simp[h])<;>(try omega)|refine Xg ?_|omega)
  ·refine LJ.i (j+1) (by first|rfl|simp[oI, *]) (by first|rfl|simp[oI, *]) rfl rfl ?_
   exact⟨by omega,by omega,by omega,mJ (by simp[*])⟩
  ·have hl:qU v b x n:=⟨_,ff j0 hj,by assumption,(lF _).2 ⟨by assumption,by assumption⟩⟩
   simp[jI,hl, *]
  ·refine LJ.i (j+1) (by first|rfl|simp[oI, *]) (by first|rfl|simp[oI, *]) rfl rfl ?_
   exact⟨by omega,by omega,by omega,mJ (by rw[lF];simp[*])⟩
  ·refine LJ.i (j+1) (by first|rfl|simp[oI, *]) (by first|rfl|simp[oI, *]) rfl rfl ?_
   exact⟨by omega,by omega,by omega,mJ (by rw[lF];simp[*])⟩
  ·refine LJ.i (j+1) (by first|rfl|simp[oI, *]) (by first|rfl|simp[oI, *]) rfl rfl ?_
   exact⟨by omega,by omega,by omega,mJ (by rw[lF];simp[*])⟩
 ·have Jb:j=x.length:=by omega
  subst Jb
  have hl:¬ qU v b x n:=fun⟨k,hk,h⟩=>j2 k (by rw[js (by omega)];exact hk) h
  simp[hj,oa,hX]
  (with_reducible repeat' first|refine Xk ?_<;>try simp[oa,hX]|refine Xs ?_ ?_<;>intro h<;>(try intro h')<;>(try simp[h,oa,hX])<;>(try omega)|refine Xg ?_|omega)
  all_goals simp[jI, *]
end Go.Proofs.YtnaefnajkaohgaaGreatDoor
namespace Go.AL
open Go
section
variable{T:gj}{live:List Nat}{a:IR}{s:St}{K:gA}{α:Type}
theorem fe.kg(ms:List Nat)(rd:Bool)(x0:α)(E:α→Env)(Hp:α→U)(P:α→Prop)(μ:α→Nat)
  (h0:P x0) (hE:forget ((E x0).map (·.1)) s.env=E x0) (hH:s.H=Hp x0) (hm:s.marks=ms) (hr:s.fG=rd) (nN:(((E x0).map (·.1)).all fun k=>live.contains k)=true)
  (h:∀ x,P x→XC T a { env:=E x,H:=Hp x,marks:=ms,fG:=rd } (qT s.H.length live ((E x0).map (·.1)) (LJ E Hp ms rd (fun x'=>μ x'<μ x∧P x') .mk) K)):fe T live a s K .mk:=
 fe.j x0 E Hp P μ h0 hE hH nN (by rw[hm,hr];exact h)
end
def E0(H:U):Option Ob→Option D
 | some (.jd (.omap m) since seen)=>(jU H m).bind fun p=>seen.getLast?.bind fun i=>p.2[i]?.bind fun e=>if p.2.length=since then some (.tup [.val e.1,e.2])else none
 | _=>none
theorem Tc(H:U)(x:Option Ob):(match x with
  | some (.jd (.omap m) since seen)=>(match jU H m,seen.getLast? with
   | some (_,es),some i=>(match es[i]? with
    | some (k,d)=>if es.length=since then some (.tup [.val k,d])else none
    | none=>none)
   | _,_=>none)
  | _=>none)=E0 H x:=by
 unfold E0
 split
 ·rename_i m since seen
  cases hm:jU H m with
  | none=>simp
  | some p=>
   cases hs:seen.getLast? with
   | none=>simp
   | some i=>
    simp only[Option.bind_some]
    cases p.2[i]? <;> rfl
 ·rfl
@[simp] theorem aiR(v:Nat)(H:U):E3 (.ptr v 0 0) H=E0 H H[v]? := Tc H H[v]?
@[simp] theorem aiQ(H:U)(m since:Nat)(seen:List Nat):E0 H (some (.jd (.omap m) since seen))=(jU H m).bind fun p=>seen.getLast?.bind fun i=>p.2[i]?.bind fun e=>if p.2.length=since then some (.tup [.val e.1,e.2])else none:=rfl
@[simp] theorem amr(m:Nat)(H:U)(vn:Nat):Bx (.omap m) H vn=(jU H m).bind fun p=>some (.ptr vn 0 0,.new (.jd (.omap m) p.2.length [])):=by
 simp only[Bx]
 cases jU H m<;>rfl
theorem qw.at{v m since:Nat}{seen:List Nat}{kk:KK}{es:List (Value×D)}{dst:Option Nat}{s:St}{K:St→Prop}(hv:s.H[v]? = some (.jd (.omap m) since seen))(hm:s.H[m]? = some (.map kk es))(hs:es.length=since)
  (h0:(∀ i,i<es.length→i∈seen)→K { s with env:=put s.env dst (.tup [.b false]) })
  (h1:∀ i k d,es[i]? = some (k,d)→i ∉ seen→K { s with env:=put s.env dst (.tup [.b true,.val k,d]),H:=s.H.set v (.jd (.omap m) since (seen ++ [i])) }):qw (.ptr v 0 0) dst s K .mk:=
 ⟨v,m,since,seen,kk,es,rfl,hv,hm,hs,h0,h1⟩
@[simp] theorem ahx(t:TypeId)(v k o n:Nat):p6 t (.ptr v k o) n=some (.ptr n 0 0,.new (.row t 0 [.ptr v k o])):=rfl
@[simp] theorem aht(t:TypeId)(l:List Int)(n:Nat):p6 t (dI l) n=some (.ptr n 0 0,.new (.row t 0 [dI l])):=by unfold dI;rfl
@[simp] theorem alI(n:Nat)(m:D)(since:Nat)(seen:List Nat):lU n (.jd m since seen) = []:=rfl
@[simp] theorem am7(ρ:Nat→Option Nat)(H:U)(m:D)(since:Nat)(seen:List Nat):pk ρ H (some (.jd m since seen)) = .jd (eZ ρ H 40 m) since seen:=rfl
@[simp] theorem amz(H:U)(k:Nat)(f:Fn)(a b:List D):gh H (k+1) (.fn f a b)=(a.map (gh H k)).flatten++(b.map (gh H k)).flatten:=by
 by_cases h:closed (.fn f a b)=true
 ·have h':=h
  simp only[HU,ah]at h'
  rw[BA h,BB h'.1,BB h'.2];rfl
 ·rw[gh,if_neg h]
theorem Xu(a b:Int):nS (.int .i64 a) (.int .i64 b)=decide (a=b):=by
 simp[nS,BEq.beq]
end Go.AL
namespace Go.Proofs.YtnaefnajkaohgaaGreatDoor
open Go Go.AL Classical
set_option maxRecDepth 10000
set_option maxHeartbeats 8000000
theorem Ac{α:Type}[Inhabited α]{l l':List α}(h:l.length=l'.length)(k:∀ j:Int,0≤j→j<l.length→gt l j=gt l' j):l=l':=
 List.ext_getElem h fun i h1 h2=>by
  have:=k i (by omega) (by omega)
  rwa [qG h1,qG h2]at this
def jk{α:Type}(v:List α)(en:Int→α):List Int→List α
 | []=>v
 | i::r=>jk (pt v i (en i)) en r
@[simp] theorem amo{α:Type}(en:Int→α)(v:List α):jk v en []=v:=rfl
theorem tj{α:Type}(en:Int→α)(i:Int):∀ (r:List Int) (v:List α),jk v en (r ++ [i])=pt (jk v en r) i (en i)
 | [],v=>rfl
 | j::r,v=>tj en i r (pt v j (en j))
theorem oP{α:Type}[Inhabited α](en:Int→α):∀ (r:List Int) (v:List α),(∀ i∈r,0≤i∧i<v.length)→(jk v en r).length=v.length
 | [],v,_=>rfl
 | i::r,v,h=>by
  have h1:=h i (by simp)
  have h2:=gI (v:=en i) h1.1 h1.2
  rw[jk,oP en r _ fun j hj=>by rw[h2];exact h j (by simp[hj]),h2]
theorem sM{α:Type}[Inhabited α](en:Int→α):∀ (r:List Int) (v:List α),(∀ i∈r,0≤i∧i<v.length)→∀ j:Int,0≤j→j<v.length→gt (jk v en r) j=if j∈r then en j else gt v j
 | [],v,_,j,_,_=>by simp[jk]
 | i::r,v,h,j,j0,j1=>by
  have h1:=h i (by simp)
  have h2:=gI (v:=en i) h1.1 h1.2
  rw[jk,sM en r _ (fun k hk=>by rw[h2];exact h k (by simp[hk])) j j0 (by omega),mb h1.1 h1.2 j0]
  by_cases hr:j∈r
  ·simp[hr]
  ·by_cases e:j=i
   ·subst e;simp[hr]
   ·simp[hr,e]
theorem Qm{α:Type}[Inhabited α]{en:Int→α}{r r':List Int}{v:List α}(h:∀ i∈r,0≤i∧i<v.length)(hm:∀ i,i∈r↔i∈r'):jk v en r=jk v en r':=by
 have h':∀ i∈r',0≤i∧i<v.length:=fun i hi=>h i ((hm i).2 hi)
 have e1:=oP en r v h
 have e2:=oP en r' v h'
 refine Ac (by omega) fun j j0 j1=>?_
 rw[sM en r v h j j0 (by omega),sM en r' v h' j j0 (by omega)]
 simp only[hm]
def ma(en:Int→eY)(ds:List Int):List (Value×D):=ds.map fun i=>(.int .i64 i,.agg [.i (en i).1,.i (en i).2])
theorem PJ{en:Int→eY}{i:Int}:∀ {ds:List Int},i ∉ ds→jA (ma en ds) (.int .i64 i) (.agg [.i (en i).1,.i (en i).2])=ma en (ds ++ [i])
 | [],_=>by simp[ma,jA]
 | j::ds,h=>by
  have h1:i≠j:=fun e=>h (by simp[e])
  have h2:i ∉ ds:=fun e=>h (by simp[e])
  have:=PJ (en:=en) h2
  unfold ma at this ⊢
  rw[List.map_cons,jA,Xu,this]
  simp[h1]
@[simp] theorem aiV(en:Int→eY):ma en [] = []:=rfl
@[simp] theorem Tk(en:Int→eY)(ds:List Int):(ma en ds).length=ds.length:=by simp[ma]
theorem Tj{en:Int→eY}{ds:List Int}{i:Nat}{k:Value}{d:D}(h:(ma en ds)[i]? = some (k,d)):i<ds.length∧k = .int .i64 (gt ds (i:Int))∧d = .agg [.i (en (gt ds (i:Int))).1,.i (en (gt ds (i:Int))).2]:=by
 unfold ma at h
 rw[au]at h
 obtain⟨a,ha,he⟩:=ai.1 h
 obtain⟨hi,e⟩:=ae.1 ha
 refine⟨hi,?_⟩
 rw[qG hi,e]
 exact⟨(congrArg Prod.fst he).symm,(congrArg Prod.snd he).symm⟩
@[simp] theorem ane(ρ:Nat→Option Nat)(H:U)(en:Int→eY)(ds:List Int):((ma en ds).map fun x=>(x.1,eZ ρ H 40 x.2))=ma en ds:=by
 unfold ma
 rw[bA]
 refine aj fun i _=>?_
 simp
@[simp] theorem an6(n:Nat)(en:Int→eY)(ds:List Int):((ma en ds).map fun x=>gG n x.2)=ds.map fun _=>[]:=by
 unfold ma
 rw[bA]
 rfl
@[simp] theorem ai6(p:Nat→Bool)(n:Nat)(en:Int→eY)(ds:List Int):((ma en ds).map ((List.filter p) ∘ fun x=>gG n x.2))=ds.map fun _=>[]:=by
 unfold ma
 rw[bA]
 rfl
@[simp] theorem ajg{α β:Type}(ds:List α):(ds.map fun _=>([]:List β)).flatten = []:=by
 induction ds with
 | nil=>rfl
 | cons a r ih=>simp
section
variable(g:eU)(l:List Pos)(nx:List (List Int))(part:List Int)
noncomputable def oD(v:List eY)(b:List Bool)(n:Int)(i:Int):eY:=(jI g (gt l i) v b (gt nx i) n).1
noncomputable def kC(v:List eY)(b:List Bool)(n:Int)(i:Int):Bool:=(jI g (gt l i) v b (gt nx i) n).2&&gt b i
noncomputable def mA(v:List eY)(b:List Bool)(n:Int):List Int:=part.filter (kC g l nx v b n)
noncomputable def rV(v:List eY)(b:List Bool)(n:Int):List eY:=jk v (oD g l nx v b n) (mA g l nx part v b n)
noncomputable def rB(v:List eY)(b:List Bool)(n:Int):List Bool:=jk b (fun _=>false) (mA g l nx part v b n)
noncomputable def iR(bu:Int):Nat→Int→List eY→List Bool→Int→Int×List eY×List Bool
 | 0,_,v,b,t=>(t,v,b)
 | f+1,n,v,b,t=>if n≤lC (rV g l nx part v b n) (rB g l nx part v b n) v.length∧n<4000
  then iR bu f (n+1) (rV g l nx part v b n) (rB g l nx part v b n) (t+(lT b part bu part.length).1)
  else(t+(lT b part bu part.length).1,rV g l nx part v b n,rB g l nx part v b n)
def kP(v:List eY)(b:List Bool):List eY×List Bool:=(jk v (fun _=>(2,0)) (part.filter fun i=>gt b i),jk b (fun _=>false) (part.filter fun i=>gt b i))
@[simp] theorem ai7(v:List eY)(b:List Bool):kP [] v b=(v,b):=rfl
noncomputable def jJ(bu:Int)(v:List eY)(b:List Bool):Int×List eY×List Bool:=
 let r:=iR g l nx part bu 4001 0 v (jk b (fun _=>true) part) 0
 (r.1,kP part r.2.1 r.2.2)
end
def gk(ds:List Int)(ys:List Nat):List Int:=ys.map fun j:Nat=>gt ds (j:Int)
@[simp] theorem ajA(ds:List Int):gk ds [] = []:=rfl
theorem Kg{ds:List Int}{ys:List Nat}(ft:∀ j∈ys,j<ds.length)(gu:∀ j,j<ds.length→j∈ys)(i:Int):i∈gk ds ys↔i∈ds:=by
 unfold gk
 simp only[ao]
 constructor
 ·rintro⟨j,hj,rfl⟩
  exact ff (by omega) (by have:=ft j hj;omega)
 ·intro h
  obtain⟨n,n0,n1,e⟩:=qm.1 h
  exact⟨n.toNat,gu _ (by omega),by rw[show((n.toNat:Nat):Int)=n by omega];exact e⟩
theorem Fj{L:Nat}{ds:List Int}(lh:∀ i∈ds,0≤i∧i<L){ys:List Nat}(ft:∀ j∈ys,j<ds.length):∀ i∈gk ds ys,0≤i∧i<L:=fun i hi=>by
 unfold gk at hi
 obtain⟨j,hj,rfl⟩:=ao.1 hi
 exact lh _ (ff (by omega) (by have:=ft j hj;omega))
theorem xG(ds:List Int)(ys:List Nat)(i:Nat):gk ds (ys ++ [i])=gk ds ys ++ [gt ds (i:Int)]:=by simp[gk]
theorem nh{l:List eY}{n:Int}(a b:Int):(cl fS l).take (n.toNat*2) ++ .i a :: .i b::(cl fS l).drop (n.toNat*2+2)=cl fS (pt l n (a,b)):=by
 rw[show n.toNat*2+2=(n.toNat+1)*2 by omega,sG,sH]
 unfold pt
 rw[← zJ,ni,tY]
 rfl
theorem EU{g:eU}{l:List Pos}{nx:List (List Int)}{part:List Int}{v:List eY}{b:List Bool}{n i:Int}(h:i∈mA g l nx part v b n):i∈part:=(aK.1 h).1
def jW(w:Bool)(g:eU)(l:List Pos)(nx:List (List Int)):List D:=[.eT (bif w then 3 else 4) (bif w then 0 else 1) 2 0 l.length,.eT (bif w then 4 else 3) 0 1 0 l.length,.i g.size,.sl 1 (g.next.map fI),dI g.gV,.sl 3 (g.kinds.map Kind.cells),.i g.fq,.b g.lq,dN 4 Clause.cells g.clauses,.i g.blocked,.i g.o4,gb l,.sl 1 (nx.map fN)]
def tp(w:Bool):D:=.ptr (bif w then 2 else 1) 0 0
def H5(w:Bool)(z:List eY)(g:eU)(l:List Pos)(nx:List (List Int))(m:List Int)(v:List eY)(b:List Bool):U:=
 bif w then [.row 41 0 g.cells,.row 50 0 [dI m],.row 148 0 (jW w g l nx),.row 58 0 (cl fS v),.row 4 0 (cl fB b)]else [.row 41 0 g.cells,.row 148 0 (jW w g l nx),.row 58 0 (cl fS z),.row 4 0 (cl fB b),.row 58 1 (cl fS v)]
def HF(w:Bool)(z:List eY)(g:eU)(l:List Pos)(nx:List (List Int))(m:List Int)(part:List Int)(n t:Int)(v:List eY)(b:List Bool)(st:oV):U:=
 H5 w z g l nx m v b ++ [.row 139 0 [tp w],.row 33 0 [dI part],.row 3 0 [.i n],.row 3 0 [.i t],.row 139 0 [tp w],.jv,.gg 4992 [(3,.ptr 5 0 0),(4,.ptr 6 0 0),(5,.ptr 7 0 0),(9,.ptr 8 0 0)] st]
structure lx(g:eU)(l:List Pos)(nx:List (List Int))(part:List Int)(bu:Int):Prop where
 gm:fr g
 ps:∀ p∈l,fR g p
 len:l.length≤4000
 YI:nx.length=l.length
 yv:∀ i:Int,0≤i→i<l.length→(∀ k∈gt nx i,0≤k∧k<l.length)∧(gt nx i).length≤4000000000
 prt:∀ i∈part,0≤i∧i<l.length
 nd:part.Nodup
 pl:part.length≤4000
 bu:1≤bu∧bu≤9223372036854775807
end Go.Proofs.YtnaefnajkaohgaaGreatDoor
namespace Go.AL
open Go
def ik:Nat→List (Int×List Int)→List (Value×D)
 | _,[]=>[]
 | k,e::r=>(.int .i64 e.1,.eT k (e.2.length-1) 1 0 e.2.length)::ik (k+1) r
def l6(ls:List (Int×List Int)):U:=ls.map fun e=>.row 3 (e.2.length-1) (cl f1 e.2)
def LH(m:List Int)(ls:List (Int×List Int)):U:=.row 50 0 [dI m] :: .map (.int .i64) (ik 2 ls)::l6 ls
def ku(ls:List (Int×List Int)):List (Value×D):=ls.map fun e=>(.int .i64 e.1,dI e.2)
@[simp] theorem amW(ls:List (Int×List Int)):(l6 ls).length=ls.length:=by simp[l6]
@[simp] theorem zn(m:List Int)(ls:List (Int×List Int)):(LH m ls).length=ls.length+2:=by simp[LH]
theorem RD(m:List Int)(ls:List (Int×List Int)):(LH m ls)[0]? = some (.row 50 0 [dI m]):=rfl
theorem RE(m:List Int)(ls:List (Int×List Int)):(LH m ls)[1]? = some (.map (.int .i64) (ik 2 ls)):=rfl
theorem Tl(k:Nat)(a b:List (Int×List Int)):ik k (a++b)=ik k a++ik (k+a.length) b:=by
 induction a generalizing k with
 | nil=>rfl
 | cons e r ih=>simp only[bK,ik,ih,aG];rw[Nat.add_right_comm,bj k r.length 1]
theorem wu(a b:Int):nS (.int .i64 a) (.int .i64 b)=decide (a=b):=by simp[nS,BEq.beq]
theorem Tn{n:Int}{ls:List (Int×List Int)}(h:n ∉ ls.map (·.1))(k:Nat):kI (ik k ls) (.int .i64 n)=none:=by
 induction ls generalizing k with
 | nil=>rfl
 | cons e r ih=>
  simp only[List.map_cons,aq,not_or]at h
  have h1:¬ e.1=n:=fun x=>h.1 x.symm
  simp only[ik,kI,wu]
  simp[h1,ih h.2,h.1]
theorem Tp{n:Int}{ls:List (Int×List Int)}(h:n ∉ ls.map (·.1))(k:Nat)(d:D):jA (ik k ls) (.int .i64 n) d=ik k ls ++ [(.int .i64 n,d)]:=by
 induction ls generalizing k with
 | nil=>rfl
 | cons e r ih=>
  simp only[List.map_cons,aq,not_or]at h
  have h1:¬ e.1=n:=fun x=>h.1 x.symm
  simp only[ik,jA,wu]
  simp[h1,ih h.2,h.1]
theorem Tm{n:Int}{a:List (Int×List Int)}(h:n ∉ a.map (·.1))(k:Nat)(x:List Int)(b:List (Int×List Int)):kI (ik k (a++(n,x)::b)) (.int .i64 n)=some (.eT (k+a.length) (x.length-1) 1 0 x.length):=by
 induction a generalizing k with
 | nil=>simp[ik,kI,wu]
 | cons e r ih=>
  simp only[List.map_cons,aq,not_or]at h
  have h1:¬ e.1=n:=fun x=>h.1 x.symm
  simp only[bK,ik,kI,wu]
  simp[h1,h.1,ih h.2]
  omega
theorem To{n:Int}{a:List (Int×List Int)}(h:n ∉ a.map (·.1))(k:Nat)(x y:List Int)(b:List (Int×List Int)):jA (ik k (a++(n,x)::b)) (.int .i64 n) (.eT (k+a.length) (y.length-1) 1 0 y.length)=ik k (a++(n,y)::b):=by
 induction a generalizing k with
 | nil=>simp[ik,jA,wu]
 | cons e r ih=>
  simp only[List.map_cons,aq,not_or]at h
  have h1:¬ e.1=n:=fun x=>h.1 x.symm
  simp only[bK,ik,jA,wu]
  rw[show k+(e::r).length=k+1+r.length by simp only[aG];omega]
  simp[h1,h.1,ih h.2]
theorem L0(m:List Int)(a:List (Int×List Int))(e:Int×List Int)(b:List (Int×List Int))(G:U):(LH m (a++e::b)++G)[2+a.length]? = some (.row 3 (e.2.length-1) (cl f1 e.2)):=by
 rw[ag (by simp;omega),cQ]
 simp[LH,l6]
theorem RI(m:List Int)(a:List (Int×List Int))(n:Int)(x y:List Int)(b:List (Int×List Int))(G:U) :
  ((LH m (a++(n,x)::b)++G).set (2+a.length) (.row 3 (y.length-1) (cl f1 y))).set 1 (.map (.int .i64) (ik 2 (a++(n,y)::b)))=LH m (a++(n,y)::b)++G:=by
 rw[cN _ _ (by simp;omega),cN _ _ (by simp)]
 congr 1
 rw[cQ]
 simp[LH,l6]
theorem RH(m:List Int)(ls:List (Int×List Int))(es:List (Value×D))(G:U):(LH m ls++G).set 1 (.map (.int .i64) es) = .row 50 0 [dI m] :: .map (.int .i64) es::(l6 ls++G):=rfl
theorem Nd(n:Nat):∀ (ls:List (Int×List Int)) (k:Nat),((ik k ls).map fun x=>gG n x.2).flatten=(List.range' k ls.length).filter (n≤·)
 | [],_=>rfl
 | e::r,k=>by
  have:=Nd n r (k+1)
  simp only[ik,List.map_cons,aN,this,aG,bV,K6]
  by_cases h:n≤k<;>simp[h]
theorem ac4(n k:Nat):∀ (l:Nat),k≤n→n≤k+l→(List.range' k l).filter (n≤·)=List.range' n (k+l-n):=by
 intro l h1 h2
 have e:List.range' k l=List.range' k (n-k)++List.range' n (k+l-n):=by
  have:=List.range'_append_1 (s:=k) (m:=n-k) (n:=k+l-n)
  rw[show k+(n-k)=n by omega,show n-k+(k+l-n)=l by omega]at this
  exact this.symm
 rw[e,cj,cF.2 fun x hx=>?_,List.filter_eq_self.2 fun x hx=>?_,aU]
 ·have:=List.mem_range'_1.1 hx;simpa using this.1
 ·have:=List.mem_range'_1.1 hx;simp;omega
theorem MX:∀ {l:List Nat},l.Nodup→dedup l=l
 | [],_=>rfl
 | a::r,h=>by
  obtain⟨h1,h2⟩:=ct.1 h
  rw[dedup,if_neg h1,MX h2]
theorem QB(K:List Nat)(v:Nat):fL (K.map fun v=>(v,true)) v=K.findIdx? (· == v):=by
 unfold fL
 rw[List.findIdx?_map]
 rfl
theorem OZ(N v:Nat)(E:List Nat):(List.range N++E).findIdx? (· == v)=if v<N then some v else(E.findIdx? (· == v)).map (· + N):=by
 by_cases h:v<N
 ·rw[if_pos h,List.findIdx?_append,show(List.range N).findIdx? (· == v)=some v from ?_]
  ·rfl
  ·rw[bQ]
   exact⟨by simpa using h,by simp,fun j hj=>by simp;omega⟩
 ·rw[if_neg h,List.findIdx?_append,show(List.range N).findIdx? (· == v)=none from ?_]
  ·simp
  ·rw[cp]
   intro x hx
   have:=aX.1 hx
   simp;omega
theorem Ha{ρ:Nat→Option Nat}{H:U}{v g sz off len v':Nat}(h:ρ v=some v'):eZ ρ H 40 (.eT v g sz off len) = .eT v' g sz off len:=by
 rw[AL.BP,h,QX]
theorem Q0{ρ:Nat→Option Nat}{H:U}:∀ (ls:List (Int×List Int)) (k:Nat),(∀ v,v<k+ls.length→ρ v=some v)→((ik k ls).map fun x=>(x.1,eZ ρ H 40 x.2))=ik k ls
 | [],_,_=>rfl
 | e::r,k,h=>by
  simp only[aG]at h
  rw[ik,List.map_cons,Q0 r (k+1) (fun v hv=>h v (by omega))]
  dsimp only
  rw[Ha (h k (by omega))]
theorem adP{ρ:Nat→Option Nat}{H:U}(ls:List (Int×List Int)):(l6 ls).map (iL ρ H)=l6 ls:=by
 unfold l6
 rw[bA]
 refine aj fun e _=>?_
 simp[iL,BO (p7 _)]
theorem adJ{H:U}{ks:ki}(N:Nat)(E:List Nat)(hk:ks=(List.range N++E).map fun v=>(v,true))(hN:N≤H.length)(hE:∀ v∈E,v<H.length) :
  lV ks H=(H.take N).map (iL (fL ks) H)++E.map fun v=>iL (fL ks) H (H.getD v .dead):=by
 unfold lV
 generalize fL ks=ρ
 subst hk
 rw[bA,List.map_append]
 congr 1
 ·refine List.ext_getElem (by simp;omega) fun i h1 h2=>?_
  simp at h1
  simp[List.getElem?_eq_getElem (show i<H.length by omega)]
 ·refine aj fun v hv=>?_
  have:=hE v hv
  simp[List.getElem?_eq_getElem this]
def lr(n:Nat)(env:Env):Prop:=∀ p∈env,gG n p.2 = []∧∀ ρ:Nat→Option Nat,∀ H,(∀ v,v<n→ρ v=some v)→eZ ρ H 40 p.2=p.2
theorem mM{n k:Nat}{d:D}{env:Env}(hd:closed d=true)(h:lr n env):lr n ((k,d)::env):=fun p hp=>by
 rcases aq.1 hp with rfl|hp
 ·exact⟨Hr n hd,fun ρ H _=>lI hd⟩
 ·exact h p hp
theorem Ks{n k v g o:Nat}{env:Env}(hv:v<n)(h:lr n env):lr n ((k,.ptr v g o)::env):=fun p hp=>by
 rcases aq.1 hp with rfl|hp
 ·exact⟨by simp;omega,fun ρ H e=>by simp[e v hv]⟩
 ·exact h p hp
theorem ab5{n k v:Nat}{env:Env}(hv:v<n)(h:lr n env):lr n ((k,.omap v)::env):=fun p hp=>by
 rcases aq.1 hp with rfl|hp
 ·exact⟨by simp;omega,fun ρ H e=>by simp[e v hv]⟩
 ·exact h p hp
theorem wI{n:Nat}:lr n []:=fun p hp=>by cases hp
theorem ada(n:Nat)(ls:List (Int×List Int)):((l6 ls).map (lU n)).flatten = []:=by
 unfold l6
 rw[bA]
 induction ls with
 | nil=>rfl
 | cons e r ih=>simp
theorem L5{n:Nat}{live:List Nat}{env:Env}{m:List Int}{ls:List (Int×List Int)}{e2:List (Value×D)}{G:U}{E:List Nat}{r:Bool}(h2:2≤n)(hn:n≤ls.length+2)(hG:0<G.length∨n<ls.length+2)
  (he:lr n (forget live env)) (hE:E.Nodup) (Fs:∀ v∈E,ls.length+2≤v∧v<ls.length+2+G.length) (hr:(e2.map fun x=>gG n x.2).flatten=E) :
  cut n live { env:=env,H:=.row 50 0 [dI m] :: .map (.int .i64) (ik 2 ls++e2)::(l6 ls++G),marks:=[],fG:=r } =
   { env:=forget live env,H:=.row 50 0 [dI m] :: .map (.int .i64) (ik 2 ls++e2.map fun x=>(x.1,eZ (fL ((List.range (ls.length+2)++E).map fun v=>(v,true))) (.row 50 0 [dI m] :: .map (.int .i64) (ik 2 ls++e2)::(l6 ls++G)) 40 x.2))::(l6 ls++E.map fun v=>iL (fL ((List.range (ls.length+2)++E).map fun v=>(v,true))) (.row 50 0 [dI m] :: .map (.int .i64) (ik 2 ls++e2)::(l6 ls++G)) (G.getD (v-(ls.length+2)) .dead)),marks:=[],fG:=r }:=by
 generalize hH:(Ob.row 50 0 [dI m] :: .map (.int .i64) (ik 2 ls++e2)::(l6 ls++G):U)=H
 have hl:H.length=ls.length+2+G.length:=by rw[← hH];simp;omega
 have hrefs:((forget live env).map fun p=>gG n p.2).flatten = []:=by
  rw[List.flatten_eq_nil_iff]
  intro x hx
  obtain⟨p,hp,rfl⟩:=ao.1 hx
  exact(he p hp).1
 have VQ:((H.take n).map (lU n)).flatten=List.range' n (ls.length+2-n)++E:=by
  obtain⟨n',rfl⟩:∃ n',n=n'+2:=⟨n-2,by omega⟩
  rw[← hH,cE,cE]
  rw[bn (by simp;omega)]
  have e1:(((l6 ls).take n').map (lU (n'+2))).flatten = []:=by
   have:(l6 ls).take n'=l6 (ls.take n'):=by unfold l6;rw[List.map_take]
   rw[this];exact ada _ _
  simp only[List.map_cons,aN,e1,P2,YL,List.map_append,dX,hr,Nd]
  rw[ac4 _ _ _ (by omega) (by omega)]
  simp[aeu]
  omega
 have hK:dedup ((([]:List Nat)++(List.range' n (ls.length+2-n)++E)++([]:List Nat).filter (n≤·)).filter (· < H.length))=List.range' n (ls.length+2-n)++E:=by
  rw[cL,aw,aU,List.filter_eq_self.2 fun v hv=>?_]
  ·refine MX (aP.2 ⟨List.nodup_range',hE,fun a ha b hb e=>?_⟩)
   have h3:=List.mem_range'_1.1 ha
   have h4:=Fs b hb
   omega
  ·rcases List.mem_append.1 hv with hv|hv
   ·have h3:=List.mem_range'_1.1 hv
    simp;omega
   ·have h4:=Fs v hv
    simp;omega
 have nN:gq n (List.range' n (ls.length+2-n)++E)=(List.range (ls.length+2)++E).map fun v=>(v,true):=by
  unfold gq
  rw[← List.map_append,← bt]
  congr 2
  rw[cw,cw]
  have:=List.range'_append_1 (s:=0) (m:=n) (n:=ls.length+2-n)
  rw[aY,show n+(ls.length+2-n)=ls.length+2 by omega]at this
  exact this
 unfold cut
 dsimp only
 rw[if_neg (by omega),hrefs,VQ,hK,nN]
 generalize jE:((List.range (ls.length+2)++E).map fun v=>(v,true):ki)=ks
 have sT:∀ v,v<ls.length+2→fL ks v=some v:=fun v hv=>by rw[← jE,QB,OZ,if_pos hv]
 have e1:((forget live env).map fun p=>(p.1,eZ (fL ks) H 40 p.2))=forget live env:=by
  conv=>rhs;rw[← aT (forget live env)]
  refine aj fun p hp=>?_
  rw[(he p hp).2 (fL ks) H fun v hv=>sT v (by omega)]
  rfl
 have S8:lV ks H=(H.take (ls.length+2)).map (iL (fL ks) H)++E.map fun v=>iL (fL ks) H (H.getD v .dead):=adJ _ E jE.symm (by omega) fun v hv=>by have:=Fs v hv;omega
 have e3:H.take (ls.length+2) = .row 50 0 [dI m] :: .map (.int .i64) (ik 2 ls++e2)::l6 ls:=by
  rw[← hH,cE,cE,bn (by simp),aF (by simp)]
 have e4:∀ v∈E,H.getD v .dead=G.getD (v-(ls.length+2)) .dead:=fun v hv=>by
  have:=Fs v hv
  obtain⟨v',rfl⟩:∃ v',v=v'+ls.length+2:=⟨v-(ls.length+2),by omega⟩
  rw[← hH,List.getD_eq_getElem?_getD,List.getD_eq_getElem?_getD,cB,cB,ak (by simp)]
  simp
 rw[e1,S8,e3,aj (g:=fun v=>iL (fL ks) H (G.getD (v-(ls.length+2)) .dead)) (fun v hv=>by rw[e4 v hv])]
 have e5:iL (fL ks) H (.row 50 0 [dI m]) = .row 50 0 [dI m]:=by
  have:eZ (fL ks) H 40 (dI m)=dI m:=lI (EL m)
  simp only[iL,List.map_cons,List.map_nil,this]
 have e6:iL (fL ks) H (.map (.int .i64) (ik 2 ls++e2)) = .map (.int .i64) (ik 2 ls++e2.map fun x=>(x.1,eZ (fL ks) H 40 x.2)):=by
  simp only[iL,List.map_append]
  rw[Q0 ls 2 fun v hv=>sT v (by omega)]
 simp only[List.map_cons,e5,e6,adP,bK,List.map_nil]
theorem L3{n:Nat}{live:List Nat}{env:Env}{m:List Int}{ls:List (Int×List Int)}{G:U}{r:Bool}(h2:2≤n)(hn:n≤ls.length+2)(he:lr n (forget live env)) :
  cut n live { env:=env,H:=LH m ls++G,marks:=[],fG:=r } = { env:=forget live env,H:=LH m ls,marks:=[],fG:=r }:=by
 by_cases h:0<G.length∨n<ls.length+2
 ·have:=L5 (m:=m) (ls:=ls) (e2:=[]) (G:=G) (E:=[]) (r:=r) h2 hn h he List.nodup_nil (by simp) rfl
  simpa[LH]using this
 ·have hG:G = []:=by
   cases G with
   | nil=>rfl
   | cons a l=>exact absurd (.inl (by simp)) h
  subst hG
  rw[aw]
  exact xA (by simp;omega)
theorem RF{n:Nat}{live:List Nat}{env:Env}{m:List Int}{ls:List (Int×List Int)}{o1 o2:Ob}{k i:Int}{r:Bool}(h2:2≤n)(hn:n≤ls.length+2)(he:lr n (forget live env)) :
  cut n live { env:=env,H:=(LH m ls ++ [o1,o2,.row 3 0 [.i i]]).set 1 (.map (.int .i64) (ik 2 ls ++ [(.int .i64 k,.eT (ls.length+4) 0 1 0 1)])),marks:=[],fG:=r } = { env:=forget live env,H:=LH m (ls ++ [(k,[i])]),marks:=[],fG:=r }:=by
 have:=L5 (m:=m) (ls:=ls) (e2:=[(.int .i64 k,.eT (ls.length+4) 0 1 0 1)]) (G:=[o1,o2,.row 3 0 [.i i]]) (E:=[ls.length+4]) (r:=r) h2 hn (.inl (by simp)) he (by simp) (by simp) (by simp;omega)
 rw[RH,this]
 have sT:fL ((List.range (ls.length+2) ++ [ls.length+4]).map fun v=>(v,true)) (ls.length+4)=some (ls.length+2):=by
  rw[QB,OZ,if_neg (by omega)]
  simp[List.findIdx?_cons]
 generalize fL ((List.range (ls.length+2) ++ [ls.length+4]).map fun v=>(v,true))=ρ at sT ⊢
 congr 1
 simp only[LH,Tl,ik,l6,List.map_append,List.map_cons,List.map_nil]
 rw[Ha sT]
 rw[show ls.length+4-(ls.length+2)=2 by omega]
 simp[iL,gL,cQ]
theorem Ua(H:U)(k:Nat)(hk:H.length=k+2):jR H (List.range' 2 k)=(0,true)::(1,true)::(List.range' 2 k).map fun v=>(v,false):=by
 unfold jR
 rw[hk,cw,bV,bV]
 simp only[List.map_cons]
 congr 1
 ·simp[List.mem_range'_1]
 congr 1
 ·simp[List.mem_range'_1]
 ·refine aj fun v hv=>?_
  have:List.contains (List.range' 2 k) v=true:=by rw[dR];simpa using hv
  simp only[aY]at *
  rw[this];rfl
theorem RG(m:List Int)(ls:List (Int×List Int))(l:List Pos)(a b:Int)(hp:∀ e∈ls,0<e.2.length) :
  jx (List.range' 2 ls.length) { env:=[(2,.ptr 0 0 0),(5,.omap 1),(13,gb l),(14,.i a),(15,.i b)],H:=LH m ls } = { env:=[(2,.ptr 0 0 0),(5,.omap 1),(13,gb l),(14,.i a),(15,.i b)],H:=[.row 50 0 [dI m],.map (.int .i64) (ku ls)]++List.replicate ls.length .dead }:=by
 have nN:=Ua (LH m ls) ls.length (by simp)
 unfold jx
 dsimp only
 rw[nN]
 generalize jE:fL ((0,true)::(1,true)::(List.range' 2 ls.length).map fun v=>(v,false))=ρ
 have h0:ρ 0=some 0:=by rw[← jE];rfl
 have h1:ρ 1=some 1:=by rw[← jE];rfl
 have h2:∀ v,2≤v→ρ v=none:=fun v hv=>by
  rw[← jE]
  unfold fL
  rw[cp]
  intro x hx
  rcases aq.1 hx with rfl|hx
  ·simp;omega
  rcases aq.1 hx with rfl|hx
  ·simp;omega
  obtain⟨w,_,rfl⟩:=ao.1 hx
  rfl
 have key:∀ (b a:List (Int×List Int)),ls=a++b→((ik (2+a.length) b).map fun x=>(x.1,eZ ρ (LH m ls) 40 x.2))=ku b:=by
  intro b
  induction b with
  | nil=>intros;rfl
  | cons e r ih=>
   intro a ha
   have h3:=ih (a ++ [e]) (by simp[ha])
   rw[ax,List.length_singleton,← bj]at h3
   have h4:(LH m ls)[2+a.length]? = some (.row 3 (e.2.length-1) (cl f1 e.2)):=by
    have:=L0 m a e r []
    rw[aw]at this
    rw[ha];exact this
   have h5:eZ ρ (LH m ls) 40 (.eT (2+a.length) (e.2.length-1) 1 0 e.2.length)=dI e.2:=by
    have:eZ ρ (LH m ls) 40 (.eT (2+a.length) (e.2.length-1) 1 0 e.2.length)=lY ρ (LH m ls) 39 1 0 e.2.length (some (3,cl f1 e.2)):=by
     rw[AL.BP,h2 _ (by omega),KQ,adu,h4,adv,if_pos rfl]
    rw[this,qF rfl,adT]
   rw[ik,List.map_cons,h3]
   dsimp only
   rw[h5]
   rfl
 have qb:=key ls [] rfl
 rw[cI,bS]at qb
 congr 1
 ·simp[h0,h1]
 ·have a0:iL ρ (LH m ls) (.row 50 0 [dI m]) = .row 50 0 [dI m]:=by
   have:eZ ρ (LH m ls) 40 (dI m)=dI m:=lI (EL m)
   simp only[iL,List.map_cons,List.map_nil,this]
  have a1:iL ρ (LH m ls) (.map (.int .i64) (ik 2 ls)) = .map (.int .i64) (ku ls):=by
   simp only[iL,qb]
  unfold lV
  rw[jE,List.map_cons,List.map_cons,bA]
  dsimp only
  rw[if_pos rfl,if_pos rfl,RD,RE]
  dsimp only
  rw[a0,a1]
  simp only[bK,aU,bY,true_and]
  refine List.ext_getElem (by simp) fun i h1 h2=>?_
  simp
