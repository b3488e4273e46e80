/- 37 -/
import Derived.Test.YtnaefnajkaohgaaGreatDoorH27
set_option linter.all false
namespace Go.Proofs.YtnaefnajkaohgaaGreatDoor
open Go Go.AL Classical
set_option maxRecDepth 10000
set_option maxHeartbeats 4000000
def oW(v:List eO)(b:List Bool):Nat→Int
 | 0 => -1
 | n+1=>if gt b (n:Int)=false∧(gt v (n:Int)).1≠2 then max (oW v b n) (gt v (n:Int)).2 else oW v b n
@[simp] theorem Wq(v:List eO)(b:List Bool):oW v b 0 = -1:=rfl
theorem Wr{v:List eO}{b:List Bool}{i:Int}(i0:0≤i):oW v b (i+1).toNat=if gt b i=false∧(gt v i).1≠2 then max (oW v b i.toNat) (gt v i).2 else oW v b i.toNat:=by
 have h:(i+1).toNat=i.toNat+1:=by omega
 have h2:((i.toNat:Nat):Int)=i:=by omega
 rw[h,oW,h2]
def f163(v:List eO)(b:List Bool)(g:eH)(l:List Pos)(nx:List (List Int))(hb:b.length=v.length)(h9:v.length≤4000):Wf T 163 [.eW [fh v,.sl 1 (b.map fB),.i g.size,.sl 1 (g.next.map fI),dI g.gU,.sl 3 (g.kinds.map Kind.cells),.i g.ff,.b g.lg,dN 4 Clause.cells g.clauses,.i g.blocked,.i g.n9,e7 l,.sl 1 (nx.map fN)]] [] (Is (.i (oW v b v.length))):=by
 refine Yg EA ?_
 simp[EA]
 (with_reducible repeat' first|refine Xk ?_<;>try simp|refine Xs ?_ ?_<;>intro h<;>(try intro h')<;>(try simp[h])<;>try omega|refine Xg ?_|omega)
 refine eN.e (0:Int) (fun y=>[(0,.eW [fh v,.sl 1 (b.map fB),.i g.size,.sl 1 (g.next.map fI),dI g.gU,.sl 3 (g.kinds.map Kind.cells),.i g.ff,.b g.lg,dN 4 Clause.cells g.clauses,.i g.blocked,.i g.n9,e7 l,.sl 1 (nx.map fN)]),(3,.i (oW v b y.toNat)),(9,fh v),(10,.i v.length),(11,.i y)]) (fun y=>[]) (fun y=>0≤y∧y≤v.length) (fun y=>(v.length-y).toNat) ?_ ?_
 ·simp
 rintro i ⟨i0,i1⟩
 dsimp only at i0 i1 ⊢
 by_cases hi:i<v.length
 ·have iY:=Wr (v:=v) (b:=b) i0
  simp[hi]
  (with_reducible repeat' first|refine Xk ?_<;>try simp|refine Xs ?_ ?_<;>intro h<;>(try intro h')<;>(try simp[h])<;>try omega|refine Xg ?_|omega)
  all_goals
   refine LJ.i (i+1) (by first|rfl|simp[iY,h, *]) (by first|rfl|simp[iY,h, *]) rfl rfl ?_
   omega
 ·have:i=v.length:=by omega
  subst this
  simp
def lr(b:List Bool)(part:List Int)(n:Int):Nat→Int×Int
 | 0=>(0,-1)
 | k+1=>if gt b (gt part (k:Int))=true∧tR (gt part (k:Int)) n≠(lr b part n k).2 then((lr b part n k).1+1,tR (gt part (k:Int)) n)else lr b part n k
@[simp] theorem amX(b:List Bool)(part:List Int)(n:Int):lr b part n 0=(0,-1):=rfl
theorem Ri{b:List Bool}{part:List Int}{n i:Int}(i0:0≤i):lr b part n (i+1).toNat=if gt b (gt part i)=true∧tR (gt part i) n≠(lr b part n i.toNat).2 then((lr b part n i.toNat).1+1,tR (gt part i) n)else lr b part n i.toNat:=by
 have h:(i+1).toNat=i.toNat+1:=by omega
 have h2:((i.toNat:Nat):Int)=i:=by omega
 rw[h,lr,h2]
theorem xZ(b:List Bool)(part:List Int)(n:Int):∀ k:Nat,0≤(lr b part n k).1∧(lr b part n k).1≤k
 | 0=>by simp
 | k+1=>by
  have:=xZ b part n k
  unfold lr
  split
  ·dsimp only;omega
  ·omega
def f118(v:List eO)(b:List Bool)(g:eH)(l:List Pos)(nx:List (List Int))(part:List Int)(n:Int)(hp:∀ i∈part,0≤i∧i<b.length)(h9:part.length≤4000)(hb:b.length≤4000)(hn:1≤n∧n≤9223372036854775807):Wf T 118 [.eW [fh v,.sl 1 (b.map fB),.i g.size,.sl 1 (g.next.map fI),dI g.gU,.sl 3 (g.kinds.map Kind.cells),.i g.ff,.b g.lg,dN 4 Clause.cells g.clauses,.i g.blocked,.i g.n9,e7 l,.sl 1 (nx.map fN)],dI part,.i n] [] (Is (.i (lr b part n part.length).1)):=by
 refine Yg DY ?_
 simp[DY]
 (with_reducible repeat' first|refine Xk ?_<;>try simp|refine Xs ?_ ?_<;>intro h<;>(try intro h')<;>(try simp[h])<;>try omega|refine Xg ?_|omega)
 refine eN.e (0:Int) (fun y=>[(0,.eW [fh v,.sl 1 (b.map fB),.i g.size,.sl 1 (g.next.map fI),dI g.gU,.sl 3 (g.kinds.map Kind.cells),.i g.ff,.b g.lg,dN 4 Clause.cells g.clauses,.i g.blocked,.i g.n9,e7 l,.sl 1 (nx.map fN)]),(2,.i n),(7,.i (lr b part n y.toNat).1),(8,.i (lr b part n y.toNat).2),(12,dI part),(13,.i part.length),(14,.i y)]) (fun y=>[]) (fun y=>0≤y∧y≤part.length) (fun y=>(part.length-y).toNat) ?_ ?_
 ·simp
 rintro i ⟨i0,i1⟩
 dsimp only at i0 i1 ⊢
 by_cases hi:i<part.length
 ·have iY:=Ri (b:=b) (part:=part) (n:=n) i0
  have ft:=hp _ (eQ i0 hi)
  have hk:=xZ b part n i.toNat
  simp[hi]
  (with_reducible repeat' first|refine Xk ?_<;>try simp|refine Xs ?_ ?_<;>intro h<;>(try intro h')<;>(try simp[h])<;>try omega|refine Xg ?_|omega)
  all_goals
   refine LJ.i (i+1) (by first|rfl|simp[iY,h, *]) (by first|rfl|simp[iY,h, *]) rfl rfl ?_
   omega
 ·have:i=part.length:=by omega
  subst this
  simp
noncomputable def xe(g:eH)(p:Pos):Int:=if ended g p then(gt g.clauses (rz g p)).out else 0
def U7{g:eH}{p:Pos}{i:Int}(i0:0≤i)(hi:i<g.clauses.length)(h2:∀ c∈g.clauses.take i.toNat,¬ jN p c)(h:jN p (gt g.clauses i)):xe g p=(gt g.clauses i).out:=by
 have he:ended g p:=⟨_,eQ i0 hi,h⟩
 have hx:g.clauses.findIdx (fun c=>decide (jN p c))=i.toNat:=by
  rw[List.findIdx_eq (by omega)]
  refine⟨?_,fun j hj=>?_⟩
  ·have:gt g.clauses i=g.clauses[i.toNat]:=by
    unfold gt
    rw[List.getD_eq_getElem?_getD,List.getElem?_eq_getElem (by omega)];rfl
   rw[← this];simpa using h
  ·simp only[decide_eq_false_iff_not]
   refine h2 _ ?_
   rw[c9]
   exact⟨j,by omega,rfl⟩
 unfold xe rz
 rw[if_pos he,if_pos he,hx]
 congr 1
def VO(g:eH)(hg:fe g)(p:Pos)(hp:fO g p):Wf T 46 [dG g,dP p] [] (Is (.tup [.i (xe g p),.b (decide (ended g p))])):=by
 have fM:=hg.clauses
 refine Yg yU ?_
 simp[yU]
 refine eN.e (0:Int) (fun y=>[(2,.ptr 0 0 0),(3,.ptr 1 0 0),(9,dN 4 Clause.cells g.clauses),(10,.i g.clauses.length),(11,.i y)]) (fun y=>[.row 41 0 g.cells,.row 44 0 p.cells]) (fun y=>0≤y∧y≤g.clauses.length∧∀ c∈g.clauses.take y.toNat,¬ jN p c) (fun y=>(g.clauses.length-y).toNat) ?_ ?_
 ·simp
 rintro i ⟨i0,i1,i2⟩
 by_cases hi:i<g.clauses.length
 ·have hm:=eQ i0 hi
  have hc:=hg.clause _ hm
  have ho:=hc.ok
  have HI:jN p (gt g.clauses i)→decide (ended g p)=true:=fun h=>decide_eq_true ⟨_,hm,h⟩
  have K1:jN p (gt g.clauses i)→ended g p:=fun h=>⟨_,hm,h⟩
  have zV:jN p (gt g.clauses i)→xe g p=(gt g.clauses i).out:=fun h=>U7 i0 hi i2 h
  have kI:¬ jN p (gt g.clauses i)→∀ c∈g.clauses.take (i+1).toNat,¬ jN p c:=fun h c hc=>by
   rw[gx i0 hi]at hc
   rcases List.mem_append.1 hc with hc|hc
   ·exact i2 c hc
   ·rw[List.mem_singleton.1 hc];exact h
  simp[hi]
  (with_reducible repeat' first|refine Xk ?_<;>try simp|refine Xs ?_ ?_<;>intro h<;>(try intro h')<;>(try simp[h])<;>try omega|refine Xg ?_|omega)
  rcases(show(gt g.clauses i).cond=1∨(gt g.clauses i).cond=2∨(gt g.clauses i).cond=3 by omega)with e|e|e
  ·simp[e]
   refine Yt (f294 g hg p hp ⟨1,(gt g.clauses i).kind,(gt g.clauses i).n,(gt g.clauses i).out⟩ (by dsimp only;omega)) ?_
   simp
   have nM:jN p (gt g.clauses i)=(pZ p p.side (gt g.clauses i).kind=0):=by simp[jN,e]
   by_cases hx:pZ p p.side (gt g.clauses i).kind=0
   ·simp[hx]
    exact⟨(zV (nM▸hx)).symm,K1 (nM▸hx)⟩
   ·simp[hx]
    (with_reducible repeat' first|refine Xk ?_<;>try simp|refine Xs ?_ ?_<;>intro h<;>(try intro h')<;>(try simp[h])<;>try omega|refine Xg ?_|omega)
    refine LJ.e (i+1) ?_
    exact eY (kI (nM▸hx))
  ·simp[e]
   refine Yt (f296 g hg p hp ⟨2,(gt g.clauses i).kind,(gt g.clauses i).n,(gt g.clauses i).out⟩ (by dsimp only;omega) (by dsimp only;omega)) ?_
   simp
   have nM:jN p (gt g.clauses i)=(gt p.cs (gt g.clauses i).n=kF (gt g.clauses i).kind (1-p.side)):=by simp[jN,e]
   by_cases hx:gt p.cs (gt g.clauses i).n=kF (gt g.clauses i).kind (1-p.side)
   ·simp[hx]
    exact⟨(zV (nM▸hx)).symm,K1 (nM▸hx)⟩
   ·simp[hx]
    (with_reducible repeat' first|refine Xk ?_<;>try simp|refine Xs ?_ ?_<;>intro h<;>(try intro h')<;>(try simp[h])<;>try omega|refine Xg ?_|omega)
    refine LJ.e (i+1) ?_
    exact eY (kI (nM▸hx))
  ·simp[e]
   refine Yt (f297 g hg p hp ⟨3,(gt g.clauses i).kind,(gt g.clauses i).n,(gt g.clauses i).out⟩) ?_
   simp
   have nM:jN p (gt g.clauses i)=(pZ p p.side (-1)≤(gt g.clauses i).n):=by simp[jN,e]
   by_cases hx:pZ p p.side (-1)≤(gt g.clauses i).n
   ·simp[hx]
    exact⟨(zV (nM▸hx)).symm,K1 (nM▸hx)⟩
   ·simp[hx]
    (with_reducible repeat' first|refine Xk ?_<;>try simp|refine Xs ?_ ?_<;>intro h<;>(try intro h')<;>(try simp[h])<;>try omega|refine Xg ?_|omega)
    refine LJ.e (i+1) ?_
    exact eY (kI (nM▸hx))
 ·simp[hi]
  have:¬ ended g p:=fun⟨c,hc,h⟩=>i2 c (by rw[jh (by omega)];exact hc) h
  simp[xe,this]
def f54(g:eH)(hg:fe g)(p:Pos)(hp:fO g p):Wf T 54 [dG g,dP p] [] (Is (.tup [.i (stat g p).1,.b (stat g p).2])):=by
 have he:ended g p→gR g p = []:=ID
 refine Yg FM ?_
 simp[FM]
 refine Yc (VO g hg p hp) ?_
 simp
 by_cases h0:ended g p
 ·simp[h0,stat,xe,he h0]
 ·simp[h0,stat,xe]
  refine Yc (f26 g hg p hp) ?_
  simp
  (with_reducible repeat' first|refine Xk ?_<;>try simp|refine Xs ?_ ?_<;>intro h<;>(try intro h')<;>(try simp[h])<;>try omega|refine Xg ?_|omega)
  all_goals simp[h0, *]
set_option maxHeartbeats 8000000
def ju(v:List eO)(b:List Bool)(x:List Int):Nat→Int×Int
 | 0=>(0,-1)
 | j+1=>if gt b (gt x (j:Int))=false∧(gt v (gt x (j:Int))).1=1 then((ju v b x j).1+1,max (ju v b x j).2 (gt v (gt x (j:Int))).2)else ju v b x j
@[simp] theorem arx(v:List eO)(b:List Bool)(x:List Int):ju v b x 0=(0,-1):=rfl
theorem Nc{v:List eO}{b:List Bool}{x:List Int}{i:Int}(i0:0≤i):ju v b x (i+1).toNat=if gt b (gt x i)=false∧(gt v (gt x i)).1=1 then((ju v b x i.toNat).1+1,max (ju v b x i.toNat).2 (gt v (gt x i)).2)else ju v b x i.toNat:=by
 have h:(i+1).toNat=i.toNat+1:=by omega
 have h2:((i.toNat:Nat):Int)=i:=by omega
 rw[h,ju,h2]
def rQ(v:List eO)(b:List Bool)(x:List Int)(n:Int):Prop:=∃ k∈x,gt b k=false∧gt v k=(3,n-1)
noncomputable def jc(g:eH)(p:Pos)(v:List eO)(b:List Bool)(x:List Int)(n:Int):eO×Bool:=
 if n=0 then(((stat g p).1,0),(stat g p).2)else
 if rQ v b x n then((1,n),true)else((3,n),decide (0<x.length∧(ju v b x x.length).1=x.length∧(ju v b x x.length).2=n-1))
theorem Az(v:List eO)(b:List Bool)(x:List Int):∀ k:Nat,0≤(ju v b x k).1∧(ju v b x k).1≤k
 | 0=>by simp
 | k+1=>by
  have:=Az v b x k
  unfold ju
  split
  ·dsimp only;omega
  ·omega
def f119(g:eH)(hg:fe g)(l:List Pos)(hl:∀ p∈l,fO g p)(v:List eO)(b:List Bool)(nx:List (List Int))(i n:Int)(hi:0≤i∧i<l.length)(hn:0≤n∧n≤4000)(hx:nx.length=l.length)
  (hk:∀ k∈gt nx i,0≤k∧k<l.length) (hv:v.length=l.length) (hb:b.length=l.length) (oK:(gt nx i).length≤4000000000) :
  Wf T 119 [.eW [fh v,.sl 1 (b.map fB),.i g.size,.sl 1 (g.next.map fI),dI g.gU,.sl 3 (g.kinds.map Kind.cells),.i g.ff,.b g.lg,dN 4 Clause.cells g.clauses,.i g.blocked,.i g.n9,e7 l,.sl 1 (nx.map fN)],.i i,.i n] []
   (Is (.tup [.agg [.i (jc g (gt l i) v b (gt nx i) n).1.1,.i (jc g (gt l i) v b (gt nx i) n).1.2],.b (jc g (gt l i) v b (gt nx i) n).2])):=by
 refine Yg DZ ?_
 simp[DZ]
 (with_reducible repeat' first|refine Xk ?_<;>try simp[sn]|refine Xs ?_ ?_<;>intro h<;>(try intro h')<;>(try simp[h,sn])<;>try omega|refine Xg ?_|omega)
 ·refine Yt (f54 g hg _ (hl _ (eQ hi.1 hi.2))) ?_
  simp
  simp[jc,h]
 generalize hX:gt nx i=x at *
 refine eN.e (0:Int) (fun y=>[(0,.eW [fh v,.sl 1 (b.map fB),.i g.size,.sl 1 (g.next.map fI),dI g.gU,.sl 3 (g.kinds.map Kind.cells),.i g.ff,.b g.lg,dN 4 Clause.cells g.clauses,.i g.blocked,.i g.n9,e7 l,.sl 1 (nx.map fN)]),(1,.i i),(2,.i n),(6,.ptr 0 0 0),(10,.i (ju v b x y.toNat).1),(11,.i (ju v b x y.toNat).2),(41,dN 1 f1 x),(42,.i x.length),(43,.i y)]) (fun y=>[.row 58 0 [.i 0,.i 0]]) (fun y=>0≤y∧y≤x.length∧∀ k∈x.take y.toNat,¬ (gt b k=false∧gt v k=(3,n-1))) (fun y=>(x.length-y).toNat) ?_ ?_
 ·simp
 rintro j ⟨j0,j1,j2⟩
 dsimp only at j0 j1 j2 ⊢
 by_cases hj:j<x.length
 ·have iY:=Nc (v:=v) (b:=b) (x:=x) j0
  have ft:=hk _ (eQ j0 hj)
  have hw:=Az v b x j.toNat
  have kI:¬ (gt b (gt x j)=false∧gt v (gt x j)=(3,n-1))→∀ k∈x.take (j+1).toNat,¬ (gt b k=false∧gt v k=(3,n-1)):=fun h k hk=>by
   rw[gx j0 hj]at hk
   rcases List.mem_append.1 hk with hk|hk
   ·exact j2 k hk
   ·rw[List.mem_singleton.1 hk];exact h
  have nQ:∀ y:eO,gt v (gt x j)=y↔(gt v (gt x j)).1=y.1∧(gt v (gt x j)).2=y.2:=fun y=>Prod.ext_iff
  simp[hj]
  (with_reducible repeat' first|refine Xk ?_<;>try simp|refine Xs ?_ ?_<;>intro h<;>(try intro h')<;>(try simp[h])<;>try omega|refine Xg ?_|omega)
  ·refine LJ.i (j+1) (by first|rfl|simp[iY, *]) (by first|rfl|simp[iY, *]) rfl rfl ?_
   exact eY (kI (by simp[*]))
  ·have hl:rQ v b x n:=⟨_,eQ j0 hj,by assumption,(nQ _).2 ⟨by assumption,by assumption⟩⟩
   simp[jc,hl, *]
  ·refine LJ.i (j+1) (by first|rfl|simp[iY, *]) (by first|rfl|simp[iY, *]) rfl rfl ?_
   exact eY (kI (by rw[nQ];simp[*]))
  ·refine LJ.i (j+1) (by first|rfl|simp[iY, *]) (by first|rfl|simp[iY, *]) rfl rfl ?_
   exact eY (kI (by rw[nQ];simp[*]))
  ·refine LJ.i (j+1) (by first|rfl|simp[iY, *]) (by first|rfl|simp[iY, *]) rfl rfl ?_
   exact eY (kI (by rw[nQ];simp[*]))
 ·have uM:j=x.length:=by omega
  subst uM
  have hl:¬ rQ v b x n:=fun⟨k,hk,h⟩=>j2 k (by rw[jh (by omega)];exact hk) h
  simp[hj,sn,hX]
  (with_reducible repeat' first|refine Xk ?_<;>try simp[sn,hX]|refine Xs ?_ ?_<;>intro h<;>(try intro h')<;>(try simp[h,sn,hX])<;>try omega|refine Xg ?_|omega)
  all_goals simp[jc, *]
end Go.Proofs.YtnaefnajkaohgaaGreatDoor
namespace Go.Proofs.YtnaefnajkaohgaaGreatDoor
open Go Go.AL Classical
set_option maxRecDepth 10000
set_option maxHeartbeats 8000000
structure kD(g:eH)(m:List Int):Prop where
 len:m.length=g.kinds.length
 num:∀ a∈m,1≤a∧a≤6
def tK(m:List Int)(x:Int):Int:=if 0≤fm x then gt m (fm x)else 0
def qW(m cs:List Int):Nat→Int
 | 0=>0
 | i+1=>qW m cs i+tK m (gt cs (i:Int))
def qX(m a b:List Int):Nat→Int
 | 0=>0
 | i+1=>qX m a b i+gt m (i:Int)*(gt a (i:Int)+gt b (i:Int))
def u7(r:Int):Int:=if r=0 then 0 else if r=3 then 2 else 1
def gM(m:List Int)(p:Pos):Int:=qW m p.cs p.cs.length+qX m p.h0 p.h1 m.length+u7 p.ff
@[simp] theorem ant(m cs:List Int):qW m cs 0=0:=rfl
@[simp] theorem anu(m a b:List Int):qX m a b 0=0:=rfl
theorem Rr{m cs:List Int}{i:Int}(i0:0≤i):qW m cs (i+1).toNat=qW m cs i.toNat+tK m (gt cs i):=by
 have h:(i+1).toNat=i.toNat+1:=by omega
 have h2:((i.toNat:Nat):Int)=i:=by omega
 rw[h,qW,h2]
def Rs{m a b:List Int}{i:Int}(i0:0≤i):qX m a b (i+1).toNat=qX m a b i.toNat+gt m i*(gt a i+gt b i):=by
 have h:(i+1).toNat=i.toNat+1:=by omega
 have h2:((i.toNat:Nat):Int)=i:=by omega
 rw[h,qX,h2]
section
variable{g:eH}{m:List Int}{p:Pos}
def L9(hk:g.kinds.length≤2){x:Int}(h:0≤x∧x≤2*g.kinds.length)(h2:0≤fm x):fm x<g.kinds.length:=by
 unfold fm at *
 split at h2
 ·rw[if_pos (by assumption)];omega
 ·omega
def L6(hg:fe g)(hm:kD g m)(hp:fO g p){x:Int}(hx:x∈p.cs):0≤tK m x∧tK m x≤6:=by
 unfold tK
 split
 ·rename_i h
  have:=L9 hg.kinds.2 (hp.cs x hx) h
  have:=hm.num _ (eQ h (by rw[hm.len];exact this))
  omega
 ·omega
theorem zZ(hg:fe g)(hm:kD g m)(hp:fO g p):∀ i:Nat,i≤p.cs.length→0≤qW m p.cs i∧qW m p.cs i≤6*i
 | 0,_=>by simp
 | i+1,h=>by
  have h1:=zZ hg hm hp i (by omega)
  have h2:=L6 hg hm hp (eQ (l:=p.cs) (n:=(i:Int)) (by omega) (by omega))
  rw[qW]
  omega
def aaF{a b:Int}(h1:1≤a∧a≤6)(h2:0≤b∧b≤16):0≤a*b∧a*b≤96:=by
 have h3:=Int.mul_nonneg (by omega:0≤a) h2.1
 have h4:=Int.mul_le_mul h1.2 h2.2 h2.1 (by omega:(0:Int)≤6)
 omega
def L7(hm:kD g m)(hp:fO g p){i:Int}(i0:0≤i)(i1:i<m.length):(0≤gt p.h0 i+gt p.h1 i∧gt p.h0 i+gt p.h1 i≤16)∧0≤gt m i*(gt p.h0 i+gt p.h1 i)∧gt m i*(gt p.h0 i+gt p.h1 i)≤96:=by
 have l0:=hp.h0.len
 have l1:=hp.h1.len
 have lm:=hm.len
 have a0:=hp.h0.at_ i i0 (by omega)
 have a1:=hp.h1.at_ i i0 (by omega)
 have h:0≤gt p.h0 i+gt p.h1 i∧gt p.h0 i+gt p.h1 i≤16:=by omega
 exact⟨h,aaF (hm.num _ (eQ i0 i1)) h⟩
theorem z1(hm:kD g m)(hp:fO g p):∀ i:Nat,i≤m.length→0≤qX m p.h0 p.h1 i∧qX m p.h0 p.h1 i≤96*i
 | 0,_=>by simp
 | i+1,h=>by
  have h1:=z1 hm hp i (by omega)
  have h2:=L7 hm hp (i:=(i:Int)) (by omega) (by omega)
  rw[qX]
  omega
def SC(hg:fe g)(hp:fO g p):p.ff=0∨p.ff=1∨p.ff=2∨p.ff=3:=by
 have h1:=hg.ff
 have h2:=hp.ff
 rcases(show g.ff=0∨g.ff=1∨g.ff=2 by omega)with e|e|e<;>rw[e]at h2<;>simp at h2<;>omega
def afm(r:Int):0≤u7 r∧u7 r≤2:=by unfold u7;(repeat' split)<;>omega
def LX(hg:fe g)(hm:kD g m)(hp:fO g p):0≤gM m p∧gM m p≤1000:=by
 have h1:=zZ hg hm hp p.cs.length (Nat.le_refl _)
 have h2:=z1 hm hp m.length (Nat.le_refl _)
 have h3:=afm p.ff
 have h4:=hp.size
 have h5:=hg.iw.size
 have h6:=hg.kinds
 have h7:=hm.len
 unfold gM
 omega
def nC:bits BinOp.and IntKind.i64 1 0=0:=by decide
def nD:bits BinOp.and IntKind.i64 2 1=0:=by decide
def nG:bits BinOp.and IntKind.i64 3 2=2:=by decide
def f114(hg:fe g)(hm:kD g m)(hp:fO g p):Wf T 114 [.agg [dI m],dP p] [] (Is (.i (gM m p))):=by
 have hk:=hg.kinds
 have gH:=hp.size
 have zA:=hg.iw.size
 have lm:=hm.len
 have l0:=hp.h0.len
 have l1:=hp.h1.len
 refine Yg DX ?_
 simp[DX]
 refine eN.e (0:Int) (fun y=>[(2,.ptr 0 0 0),(3,.ptr 1 0 0),(5,.i (qW m p.cs y.toNat)),(14,dI p.cs),(15,.i p.cs.length),(16,.i y)]) (fun y=>[.row 50 0 [dI m],.row 44 0 p.cells]) (fun y=>0≤y∧y≤p.cs.length) (fun y=>(p.cs.length-y).toNat) ?_ ?_
 ·simp
 rintro i ⟨i0,i1⟩
 dsimp only at i0 i1 ⊢
 by_cases hi:i<p.cs.length
 ·have hs:=Rr (m:=m) (cs:=p.cs) i0
  have ft:=zZ hg hm hp i.toNat (by omega)
  have kz:=eQ i0 hi
  have HG:=L6 hg hm hp kz
  have Qe:=L9 hk.2 (hp.cs _ kz)
  simp[hi]
  (with_reducible repeat' first|refine Xk ?_<;>try simp|refine Xs ?_ ?_<;>intro h<;>(try intro h')<;>(try simp[h])<;>try omega|refine Xg ?_|omega)
  refine Yc (f84 _) ?_
  simp
  unfold tK at hs HG
  (with_reducible repeat' first|refine Xk ?_<;>try simp|refine Xs ?_ ?_<;>intro h<;>(try intro h')<;>(try simp[h])<;>try omega|refine Xg ?_|omega)
  ·rw[if_pos (by assumption)]at hs HG
   (with_reducible repeat' first|refine Xk ?_<;>try simp|refine Xs ?_ ?_<;>intro h<;>(try intro h')<;>(try simp[h])<;>try omega|refine Xg ?_|omega)
   refine LJ.i (i+1) (by first|rfl|simp[hs]) (by first|rfl|simp[hs]) rfl rfl ?_
   omega
  ·rw[if_neg (by omega)]at hs
   refine LJ.i (i+1) (by first|rfl|simp[hs]) (by first|rfl|simp[hs]) rfl rfl ?_
   omega
 have kT:i=p.cs.length:=by omega
 subst kT
 simp
 have hA:=zZ hg hm hp p.cs.length (Nat.le_refl _)
 unfold gM
 generalize qW m p.cs p.cs.length=A at *
 refine eN.e (0:Int) (fun y=>[(3,.ptr 1 0 0),(5,.i (A+qX m p.h0 p.h1 y.toNat)),(36,dI m),(37,.i m.length),(38,.i y)]) (fun y=>[.row 50 0 [dI m],.row 44 0 p.cells]) (fun y=>0≤y∧y≤m.length) (fun y=>(m.length-y).toNat) ?_ ?_
 ·simp
 rintro i ⟨i0,i1⟩
 dsimp only at i0 i1 ⊢
 by_cases hi:i<m.length
 ·have hs:=Rs (m:=m) (a:=p.h0) (b:=p.h1) i0
  have ft:=z1 hm hp i.toNat (by omega)
  have ht:=L7 hm hp i0 hi
  simp[hi]
  (with_reducible repeat' first|refine Xk ?_<;>try simp|refine Xs ?_ ?_<;>intro h<;>(try intro h')<;>(try simp[h])<;>try omega|refine Xg ?_|omega)
  refine LJ.i (i+1) (by first|rfl|simp[hs,cp]) (by first|rfl|simp[hs,cp]) rfl rfl ?_
  omega
 have kT:i=m.length:=by omega
 subst kT
 simp
 have hH:=z1 hm hp m.length (Nat.le_refl _)
 generalize qX m p.h0 p.h1 m.length=B at *
 rcases SC hg hp with e|e|e|e
 ·refine eN.un ?_
  refine iP.u ?_
  simp[e,nC,nD,nG]
  simp[u7,nC,nD,nG]
 ·refine eN.un ?_
  refine iP.u ?_
  simp[e,nC,nD,nG]
  (with_reducible repeat' first|refine Xk ?_<;>try simp[nC,nD,nG]|refine Xs ?_ ?_<;>intro h<;>(try intro h')<;>(try simp[h,nC,nD,nG])<;>try omega|refine Xg ?_|omega)
  refine iP.u ?_
  simp[e,nC,nD,nG]
  simp[u7,nC,nD,nG]
 ·refine eN.un ?_
  refine iP.u ?_
  simp[e,nC,nD,nG]
  (with_reducible repeat' first|refine Xk ?_<;>try simp[nC,nD,nG]|refine Xs ?_ ?_<;>intro h<;>(try intro h')<;>(try simp[h,nC,nD,nG])<;>try omega|refine Xg ?_|omega)
  refine iP.u ?_
  simp[e,nC,nD,nG]
  simp[u7,nC,nD,nG]
 ·refine eN.un ?_
  refine iP.u ?_
  simp[e,nC,nD,nG]
  (with_reducible repeat' first|refine Xk ?_<;>try simp[nC,nD,nG]|refine Xs ?_ ?_<;>intro h<;>(try intro h')<;>(try simp[h,nC,nD,nG])<;>try omega|refine Xg ?_|omega)
  refine iP.u ?_
  simp[e,nC,nD,nG]
  (with_reducible repeat' first|refine Xk ?_<;>try simp[nC,nD,nG]|refine Xs ?_ ?_<;>intro h<;>(try intro h')<;>(try simp[h,nC,nD,nG])<;>try omega|refine Xg ?_|omega)
  refine iP.u ?_
  simp[e,nC,nD,nG]
  simp[u7,nC,nD,nG,cp]
end
end Go.Proofs.YtnaefnajkaohgaaGreatDoor
namespace Go.AL
open Go
section
variable{T:gy}{live:List Nat}{a:IR}{s:St}{K:gS}{α:Type}
def eN.kg(ms:List Nat)(rd:Bool)(x0:α)(E:α→Env)(Hp:α→U)(P:α→Prop)(μ:α→Nat)
  (h0:P x0) (hE:forget ((E x0).map (·.1)) s.env=E x0) (hH:s.H=Hp x0) (hm:s.marks=ms) (hr:s.fW=rd) (o3:(((E x0).map (·.1)).all fun k=>live.contains k)=true)
  (h:∀ x,P x→XC T a { env:=E x,H:=Hp x,marks:=ms,fW:=rd } (tJ s.H.length live ((E x0).map (·.1)) (LJ E Hp ms rd (fun x'=>μ x'<μ x∧P x') .mk) K)):eN T live a s K .mk:=
 eN.j x0 E Hp P μ h0 hE hH o3 (by rw[hm,hr];exact h)
end
def G9(H:U):Option Ob→Option D
 | some (.jJ (.fE m) since seen)=>(kX H m).bind fun p=>seen.getLast?.bind fun i=>p.2[i]?.bind fun e=>if p.2.length=since then some (.tup [.val e.1,e.2])else none
 | _=>none
theorem U8(H:U)(x:Option Ob):(match x with
  | some (.jJ (.fE m) since seen)=>(match kX H m,seen.getLast? with
   | some (_,es),some i=>(match es[i]? with
    | some (k,d)=>if es.length=since then some (.tup [.val k,d])else none
    | none=>none)
   | _,_=>none)
  | _=>none)=G9 H x:=by
 unfold G9
 split
 ·rename_i m since seen
  cases hm:kX H m with
  | none=>simp
  | some p=>
   cases hs:seen.getLast? with
   | none=>simp
   | some i=>
    simp only[Option.bind_some]
    cases p.2[i]? <;> rfl
 ·rfl
@[simp] theorem ale(v:Nat)(H:U):G' (.ptr v 0 0) H=G9 H H[v]? := U8 H H[v]?
@[simp] theorem ald(H:U)(m since:Nat)(seen:List Nat):G9 H (some (.jJ (.fE m) since seen))=(kX H m).bind fun p=>seen.getLast?.bind fun i=>p.2[i]?.bind fun e=>if p.2.length=since then some (.tup [.val e.1,e.2])else none:=rfl
@[simp] theorem aoY(m:Nat)(H:U)(vn:Nat):C6 (.fE m) H vn=(kX H m).bind fun p=>some (.ptr vn 0 0,.new (.jJ (.fE m) p.2.length [])):=by
 simp only[C6]
 cases kX H m<;>rfl
def r8.at{v m since:Nat}{seen:List Nat}{kk:KK}{es:List (Value×D)}{dst:Option Nat}{s:St}{K:St→Prop}(hv:s.H[v]? = some (.jJ (.fE m) since seen))(hm:s.H[m]? = some (.map kk es))(hs:es.length=since)
  (h0:(∀ i,i<es.length→i∈seen)→K { s with env:=put s.env dst (.tup [.b false]) })
  (h1:∀ i k d,es[i]? = some (k,d)→i ∉ seen→K { s with env:=put s.env dst (.tup [.b true,.val k,d]),H:=s.H.set v (.jJ (.fE m) since (seen ++ [i])) }):r8 (.ptr v 0 0) dst s K .mk:=
 ⟨v,m,since,seen,kk,es,rfl,hv,hm,hs,h0,h1⟩
@[simp] theorem ajX(t:TypeId)(v k o n:Nat):po t (.ptr v k o) n=some (.ptr n 0 0,.new (.row t 0 [.ptr v k o])):=rfl
@[simp] theorem ajR(t:TypeId)(l:List Int)(n:Nat):po t (dI l) n=some (.ptr n 0 0,.new (.row t 0 [dI l])):=by unfold dI;rfl
@[simp] theorem aof(n:Nat)(m:D)(since:Nat)(seen:List Nat):mT n (.jJ m since seen) = []:=rfl
@[simp] theorem apF(ρ:Nat→Option Nat)(H:U)(m:D)(since:Nat)(seen:List Nat):ri ρ H (some (.jJ m since seen)) = .jJ (eP ρ H 40 m) since seen:=rfl
@[simp] theorem ao6(H:U)(k:Nat)(f:Fn)(a b:List D):gv H (k+1) (.fn f a b)=(a.map (gv H k)).flatten++(b.map (gv H k)).flatten:=by
 by_cases h:closed (.fn f a b)=true
 ·have h':=h
  simp only[JV,ah]at h'
  rw[C9 h,C' h'.1,C' h'.2];rfl
 ·rw[gv,if_neg h]
def ZV(a b:Int):o9 (.int .i64 a) (.int .i64 b)=decide (a=b):=by
 simp[o9,BEq.beq]
end Go.AL
namespace Go.Proofs.YtnaefnajkaohgaaGreatDoor
open Go Go.AL Classical
set_option maxRecDepth 10000
set_option maxHeartbeats 8000000
def Hu{α:Type}[Inhabited α]{l l':List α}(h:l.length=l'.length)(k:∀ j:Int,0≤j→j<l.length→gt l j=gt l' j):l=l':=
 List.ext_getElem h fun i h1 h2=>by
  have:=k i (by omega) (by omega)
  rwa [rC h1,rC h2]at this
def jR{α:Type}(v:List α)(en:Int→α):List Int→List α
 | []=>v
 | i::r=>jR (pt v i (en i)) en r
@[simp] theorem aoV{α:Type}(en:Int→α)(v:List α):jR v en []=v:=rfl
theorem pK{α:Type}(en:Int→α)(i:Int):∀ (r:List Int) (v:List α),jR v en (r ++ [i])=pt (jR v en r) i (en i)
 | [],v=>rfl
 | j::r,v=>pK en i r (pt v j (en j))
theorem oy{α:Type}[Inhabited α](en:Int→α):∀ (r:List Int) (v:List α),(∀ i∈r,0≤i∧i<v.length)→(jR v en r).length=v.length
 | [],v,_=>rfl
 | i::r,v,h=>by
  have h1:=h i (by simp)
  have h2:=gN (v:=en i) h1.1 h1.2
  rw[jR,oy en r _ fun j hj=>by rw[h2];exact h j (by simp[hj]),h2]
theorem uE{α:Type}[Inhabited α](en:Int→α):∀ (r:List Int) (v:List α),(∀ i∈r,0≤i∧i<v.length)→∀ j:Int,0≤j→j<v.length→gt (jR v en r) j=if j∈r then en j else gt v j
 | [],v,_,j,_,_=>by simp[jR]
 | i::r,v,h,j,j0,j1=>by
  have h1:=h i (by simp)
  have h2:=gN (v:=en i) h1.1 h1.2
  rw[jR,uE en r _ (fun k hk=>by rw[h2];exact h k (by simp[hk])) j j0 (by omega),pz h1.1 h1.2 j0]
  by_cases hr:j∈r
  ·simp[hr]
  ·by_cases e:j=i
   ·subst e;simp[hr]
   ·simp[hr,e]
def Sh{α:Type}[Inhabited α]{en:Int→α}{r r':List Int}{v:List α}(h:∀ i∈r,0≤i∧i<v.length)(hm:∀ i,i∈r↔i∈r'):jR v en r=jR v en r':=by
 have h':∀ i∈r',0≤i∧i<v.length:=fun i hi=>h i ((hm i).2 hi)
 have e1:=oy en r v h
 have e2:=oy en r' v h'
 refine Hu (by omega) fun j j0 j1=>?_
 rw[uE en r v h j j0 (by omega),uE en r' v h' j j0 (by omega)]
 simp only[hm]
def nc(en:Int→eO)(ds:List Int):List (Value×D):=ds.map fun i=>(.int .i64 i,.agg [.i (en i).1,.i (en i).2])
theorem RB{en:Int→eO}{i:Int}:∀ {ds:List Int},i ∉ ds→ke (nc en ds) (.int .i64 i) (.agg [.i (en i).1,.i (en i).2])=nc en (ds ++ [i])
 | [],_=>by simp[nc,ke]
 | j::ds,h=>by
  have h1:i≠j:=fun e=>h (by simp[e])
  have h2:i ∉ ds:=fun e=>h (by simp[e])
  have:=RB (en:=en) h2
  unfold nc at this ⊢
  rw[List.map_cons,ke,ZV,this]
  simp[h1]
@[simp] theorem ali(en:Int→eO):nc en [] = []:=rfl
@[simp] theorem Vf(en:Int→eO)(ds:List Int):(nc en ds).length=ds.length:=by simp[nc]
theorem Ve{en:Int→eO}{ds:List Int}{i:Nat}{k:Value}{d:D}(h:(nc en ds)[i]? = some (k,d)):i<ds.length∧k = .int .i64 (gt ds (i:Int))∧d = .agg [.i (en (gt ds (i:Int))).1,.i (en (gt ds (i:Int))).2]:=by
 unfold nc at h
 rw[av]at h
 obtain⟨a,ha,he⟩:=ai.1 h
 obtain⟨hi,e⟩:=af.1 ha
 refine⟨hi,?_⟩
 rw[rC hi,e]
 exact⟨(congrArg Prod.fst he).symm,(congrArg Prod.snd he).symm⟩
@[simp] theorem apL(ρ:Nat→Option Nat)(H:U)(en:Int→eO)(ds:List Int):((nc en ds).map fun x=>(x.1,eP ρ H 40 x.2))=nc en ds:=by
 unfold nc
 rw[bp]
 refine aj fun i _=>?_
 simp
@[simp] theorem aqE(n:Nat)(en:Int→eO)(ds:List Int):((nc en ds).map fun x=>gW n x.2)=ds.map fun _=>[]:=by
 unfold nc
 rw[bp]
 rfl
@[simp] theorem alu(p:Nat→Bool)(n:Nat)(en:Int→eO)(ds:List Int):((nc en ds).map ((List.filter p) ∘ fun x=>gW n x.2))=ds.map fun _=>[]:=by
 unfold nc
 rw[bp]
 rfl
@[simp] theorem alG{α β:Type}(ds:List α):(ds.map fun _=>([]:List β)).flatten = []:=by
 induction ds with
 | nil=>rfl
 | cons a r ih=>simp
section
variable(g:eH)(l:List Pos)(nx:List (List Int))(part:List Int)
noncomputable def qg(v:List eO)(b:List Bool)(n:Int)(i:Int):eO:=(jc g (gt l i) v b (gt nx i) n).1
noncomputable def jQ(v:List eO)(b:List Bool)(n:Int)(i:Int):Bool:=(jc g (gt l i) v b (gt nx i) n).2&&gt b i
noncomputable def oV(v:List eO)(b:List Bool)(n:Int):List Int:=part.filter (jQ g l nx v b n)
noncomputable def rV(v:List eO)(b:List Bool)(n:Int):List eO:=jR v (qg g l nx v b n) (oV g l nx part v b n)
noncomputable def rB(v:List eO)(b:List Bool)(n:Int):List Bool:=jR b (fun _=>false) (oV g l nx part v b n)
noncomputable def nu(bu:Int):Nat→Int→List eO→List Bool→Int→Int×List eO×List Bool
 | 0,_,v,b,t=>(t,v,b)
 | f+1,n,v,b,t=>if n≤oW (rV g l nx part v b n) (rB g l nx part v b n) v.length∧n<4000
  then nu bu f (n+1) (rV g l nx part v b n) (rB g l nx part v b n) (t+(lr b part bu part.length).1)
  else(t+(lr b part bu part.length).1,rV g l nx part v b n,rB g l nx part v b n)
def lG(v:List eO)(b:List Bool):List eO×List Bool:=(jR v (fun _=>(2,0)) (part.filter fun i=>gt b i),jR b (fun _=>false) (part.filter fun i=>gt b i))
@[simp] theorem alv(v:List eO)(b:List Bool):lG [] v b=(v,b):=rfl
noncomputable def kG(bu:Int)(v:List eO)(b:List Bool):Int×List eO×List Bool:=
 let r:=nu g l nx part bu 4001 0 v (jR b (fun _=>true) part) 0
 (r.1,lG part r.2.1 r.2.2)
end
def gk(ds:List Int)(ys:List Nat):List Int:=ys.map fun j:Nat=>gt ds (j:Int)
@[simp] theorem al0(ds:List Int):gk ds [] = []:=rfl
theorem Mi{ds:List Int}{ys:List Nat}(fq:∀ j∈ys,j<ds.length)(iF:∀ j,j<ds.length→j∈ys)(i:Int):i∈gk ds ys↔i∈ds:=by
 unfold gk
 simp only[ao]
 constructor
 ·rintro⟨j,hj,rfl⟩
  exact eQ (by omega) (by have:=fq j hj;omega)
 ·intro h
  obtain⟨n,n0,n1,e⟩:=pc.1 h
  exact⟨n.toNat,iF _ (by omega),by rw[show((n.toNat:Nat):Int)=n by omega];exact e⟩
def Ht{L:Nat}{ds:List Int}(mh:∀ i∈ds,0≤i∧i<L){ys:List Nat}(fq:∀ j∈ys,j<ds.length):∀ i∈gk ds ys,0≤i∧i<L:=fun i hi=>by
 unfold gk at hi
 obtain⟨j,hj,rfl⟩:=ao.1 hi
 exact mh _ (eQ (by omega) (by have:=fq j hj;omega))
def zm(ds:List Int)(ys:List Nat)(i:Nat):gk ds (ys ++ [i])=gk ds ys ++ [gt ds (i:Int)]:=by simp[gk]
def nJ{l:List eO}{n:Int}(a b:Int):(cl fS l).take (n.toNat*2) ++ .i a :: .i b::(cl fS l).drop (n.toNat*2+2)=cl fS (pt l n (a,b)):=by
 rw[show n.toNat*2+2=(n.toNat+1)*2 by omega,te,tf]
 unfold pt
 rw[← zb,mY,uC]
 rfl
def J6{g:eH}{l:List Pos}{nx:List (List Int)}{part:List Int}{v:List eO}{b:List Bool}{n i:Int}(h:i∈oV g l nx part v b n):i∈part:=(aH.1 h).1
def kK(w:Bool)(g:eH)(l:List Pos)(nx:List (List Int)):List D:=[.eF (bif w then 3 else 4) (bif w then 0 else 1) 2 0 l.length,.eF (bif w then 4 else 3) 0 1 0 l.length,.i g.size,.sl 1 (g.next.map fI),dI g.gU,.sl 3 (g.kinds.map Kind.cells),.i g.ff,.b g.lg,dN 4 Clause.cells g.clauses,.i g.blocked,.i g.n9,e7 l,.sl 1 (nx.map fN)]
def tp(w:Bool):D:=.ptr (bif w then 2 else 1) 0 0
def H5(w:Bool)(z:List eO)(g:eH)(l:List Pos)(nx:List (List Int))(m:List Int)(v:List eO)(b:List Bool):U:=
 bif w then [.row 41 0 g.cells,.row 50 0 [dI m],.row 148 0 (kK w g l nx),.row 58 0 (cl fS v),.row 4 0 (cl fB b)]else [.row 41 0 g.cells,.row 148 0 (kK w g l nx),.row 58 0 (cl fS z),.row 4 0 (cl fB b),.row 58 1 (cl fS v)]
def HF(w:Bool)(z:List eO)(g:eH)(l:List Pos)(nx:List (List Int))(m:List Int)(part:List Int)(n t:Int)(v:List eO)(b:List Bool)(st:qb):U:=
 H5 w z g l nx m v b ++ [.row 139 0 [tp w],.row 33 0 [dI part],.row 3 0 [.i n],.row 3 0 [.i t],.row 139 0 [tp w],.jZ,.gu 4992 [(3,.ptr 5 0 0),(4,.ptr 6 0 0),(5,.ptr 7 0 0),(9,.ptr 8 0 0)] st]
structure mG(g:eH)(l:List Pos)(nx:List (List Int))(part:List Int)(bu:Int):Prop where
 gm:fe g
 ps:∀ p∈l,fO g p
 len:l.length≤4000
 RO:nx.length=l.length
 IJ:∀ i:Int,0≤i→i<l.length→(∀ k∈gt nx i,0≤k∧k<l.length)∧(gt nx i).length≤4000000000
 prt:∀ i∈part,0≤i∧i<l.length
 nd:part.Nodup
 pl:part.length≤4000
 bu:1≤bu∧bu≤9223372036854775807
