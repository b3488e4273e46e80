/- Part 38 of DisputeLocal. -/
import Derived.Test.YtmehofoficaelaaGreatDoorL30
set_option linter.all false
namespace Go.Proofs.YtmehofoficaelaaGreatDoor
open Go Go.AL Classical
set_option maxRecDepth 10000
set_option maxHeartbeats 4000000
def Kf(v:List fe)(b:List Bool):Nat→Int
 | 0 => -1
 | n+1=>if gt b (n:Int)=false∧(gt v (n:Int)).1≠2 then max (Kf v b n) (gt v (n:Int)).2 else Kf v b n
@[simp] theorem al0(v:List fe)(b:List Bool):Kf v b 0 = -1:=rfl
def H6(b:List Bool)(part:List Int)(n:Int):Nat→Int×Int
 | 0=>(0,-1)
 | k+1=>if gt b (gt part (k:Int))=true∧uN (gt part (k:Int)) n≠(H6 b part n k).2 then((H6 b part n k).1+1,uN (gt part (k:Int)) n)else H6 b part n k
@[simp] theorem am0(b:List Bool)(part:List Int)(n:Int):H6 b part n 0=(0,-1):=rfl
noncomputable def xb(g:eY)(p:Pos):Int:=if ended g p then(gt g.clauses (q7 g p)).out else 0
def Vw{g:eY}{p:Pos}{i:Int}(i0:0≤i)(hi:i<g.clauses.length)(h2:∀ c∈g.clauses.take i.toNat,¬ ke p c)(h:ke p (gt g.clauses i)):xb g p=(gt g.clauses i).out:=by
 have he:ended g p:=⟨_,ft i0 hi,h⟩
 have hx:g.clauses.findIdx (fun c=>decide (ke p c))=i.toNat:=by
  rw[List.findIdx_eq (by omega)]
  refine⟨?_,fun j hj=>?_⟩
  ·have:gt g.clauses i=g.clauses[i.toNat]:=by
    unfold gt
    rw[List.getD_eq_getElem?_getD,List.getElem?_eq_getElem (by omega)];rfl
   rw[← this];simpa using h
  ·simp only[decide_eq_false_iff_not]
   refine h2 _ ?_
   rw[c9]
   exact⟨j,by omega,rfl⟩
 unfold xb q7
 rw[if_pos he,if_pos he,hx]
 congr 1
def Wp(g:eY)(hg:gh g)(p:Pos)(hp:gG g p):Wf T 113 [dG g,dP p] [] (Is (.tup [.i (xb g p),.b (decide (ended g p))])):=by
 have gj:=hg.clauses
 refine Yg yT ?_
 simp[yT]
 refine fh.e (0:Int) (fun y=>[(2,.ptr 0 0 0),(3,.ptr 1 0 0),(9,dN 4 Clause.cells g.clauses),(10,.i g.clauses.length),(11,.i y)]) (fun y=>[.row 43 0 g.cells,.row 46 0 p.cells]) (fun y=>0≤y∧y≤g.clauses.length∧∀ c∈g.clauses.take y.toNat,¬ ke p c) (fun y=>(g.clauses.length-y).toNat) ?_ ?_
 ·simp
 rintro i ⟨i0,i1,i2⟩
 by_cases hi:i<g.clauses.length
 ·have hm:=ft i0 hi
  have hc:=hg.clause _ hm
  have ho:=hc.ok
  have Hv:ke p (gt g.clauses i)→decide (ended g p)=true:=fun h=>decide_eq_true ⟨_,hm,h⟩
  have KM:ke p (gt g.clauses i)→ended g p:=fun h=>⟨_,hm,h⟩
  have uw:ke p (gt g.clauses i)→xb g p=(gt g.clauses i).out:=fun h=>Vw i0 hi i2 h
  have mu:¬ ke p (gt g.clauses i)→∀ c∈g.clauses.take (i+1).toNat,¬ ke p c:=fun h c hc=>by
   rw[iD i0 hi]at hc
   rcases List.mem_append.1 hc with hc|hc
   ·exact i2 c hc
   ·rw[List.mem_singleton.1 hc];exact h
  simp[hi]
  (with_reducible repeat' first|refine Xk ?_<;>try simp|refine Xs ?_ ?_<;>intro h<;>(try intro h')<;>(try simp[h])<;>try omega|refine Xg ?_|omega)
  rcases(show(gt g.clauses i).cond=1∨(gt g.clauses i).cond=2∨(gt g.clauses i).cond=3 by omega)with e|e|e
  ·simp[e]
   refine Yt (f294 g hg p hp ⟨1,(gt g.clauses i).kind,(gt g.clauses i).n,(gt g.clauses i).out⟩ (by dsimp only;omega)) ?_
   simp
   have nP:ke p (gt g.clauses i)=(pO p p.side (gt g.clauses i).kind=0):=by simp[ke,e]
   by_cases hx:pO p p.side (gt g.clauses i).kind=0
   ·simp[hx]
    exact⟨(uw (nP▸hx)).symm,KM (nP▸hx)⟩
   ·simp[hx]
    (with_reducible repeat' first|refine Xk ?_<;>try simp|refine Xs ?_ ?_<;>intro h<;>(try intro h')<;>(try simp[h])<;>try omega|refine Xg ?_|omega)
    refine LJ.e (i+1) ?_
    exact fQ (mu (nP▸hx))
  ·simp[e]
   refine Yt (f296 g hg p hp ⟨2,(gt g.clauses i).kind,(gt g.clauses i).n,(gt g.clauses i).out⟩ (by dsimp only;omega) (by dsimp only;omega)) ?_
   simp
   have nP:ke p (gt g.clauses i)=(gt p.cs (gt g.clauses i).n=kO (gt g.clauses i).kind (1-p.side)):=by simp[ke,e]
   by_cases hx:gt p.cs (gt g.clauses i).n=kO (gt g.clauses i).kind (1-p.side)
   ·simp[hx]
    exact⟨(uw (nP▸hx)).symm,KM (nP▸hx)⟩
   ·simp[hx]
    (with_reducible repeat' first|refine Xk ?_<;>try simp|refine Xs ?_ ?_<;>intro h<;>(try intro h')<;>(try simp[h])<;>try omega|refine Xg ?_|omega)
    refine LJ.e (i+1) ?_
    exact fQ (mu (nP▸hx))
  ·simp[e]
   refine Yt (f297 g hg p hp ⟨3,(gt g.clauses i).kind,(gt g.clauses i).n,(gt g.clauses i).out⟩) ?_
   simp
   have nP:ke p (gt g.clauses i)=(pO p p.side (-1)≤(gt g.clauses i).n):=by simp[ke,e]
   by_cases hx:pO p p.side (-1)≤(gt g.clauses i).n
   ·simp[hx]
    exact⟨(uw (nP▸hx)).symm,KM (nP▸hx)⟩
   ·simp[hx]
    (with_reducible repeat' first|refine Xk ?_<;>try simp|refine Xs ?_ ?_<;>intro h<;>(try intro h')<;>(try simp[h])<;>try omega|refine Xg ?_|omega)
    refine LJ.e (i+1) ?_
    exact fQ (mu (nP▸hx))
 ·simp[hi]
  have:¬ ended g p:=fun⟨c,hc,h⟩=>i2 c (by rw[ky (by omega)];exact hc) h
  simp[xb,this]
def f54(g:eY)(hg:gh g)(p:Pos)(hp:gG g p):Wf T 58 [dG g,dP p] [] (Is (.tup [.i (stat g p).1,.b (stat g p).2])):=by
 have he:ended g p→ig g p = []:=Ih
 refine Yg FP ?_
 simp[FP]
 refine Yc (Wp g hg p hp) ?_
 simp
 by_cases h0:ended g p
 ·simp[h0,stat,xb,he h0]
 ·simp[h0,stat,xb]
  refine Yc (f26 g hg p hp) ?_
  simp
  (with_reducible repeat' first|refine Xk ?_<;>try simp|refine Xs ?_ ?_<;>intro h<;>(try intro h')<;>(try simp[h])<;>try omega|refine Xg ?_|omega)
  all_goals simp[h0, *]
set_option maxHeartbeats 8000000
def kN(v:List fe)(b:List Bool)(x:List Int):Nat→Int×Int
 | 0=>(0,-1)
 | j+1=>if gt b (gt x (j:Int))=false∧(gt v (gt x (j:Int))).1=1 then((kN v b x j).1+1,max (kN v b x j).2 (gt v (gt x (j:Int))).2)else kN v b x j
@[simp] theorem arO(v:List fe)(b:List Bool)(x:List Int):kN v b x 0=(0,-1):=rfl
theorem agR{v:List fe}{b:List Bool}{x:List Int}{i:Int}(i0:0≤i):kN v b x (i+1).toNat=if gt b (gt x i)=false∧(gt v (gt x i)).1=1 then((kN v b x i.toNat).1+1,max (kN v b x i.toNat).2 (gt v (gt x i)).2)else kN v b x i.toNat:=by
 have h:(i+1).toNat=i.toNat+1:=by omega
 have h2:((i.toNat:Nat):Int)=i:=by omega
 rw[h,kN,h2]
def x4(v:List fe)(b:List Bool)(x:List Int)(n:Int):Prop:=∃ k∈x,gt b k=false∧gt v k=(3,n-1)
noncomputable def nL(g:eY)(p:Pos)(v:List fe)(b:List Bool)(x:List Int)(n:Int):fe×Bool:=
 if n=0 then(((stat g p).1,0),(stat g p).2)else
 if x4 v b x n then((1,n),true)else((3,n),decide (0<x.length∧(kN v b x x.length).1=x.length∧(kN v b x x.length).2=n-1))
theorem Jh(v:List fe)(b:List Bool)(x:List Int):∀ k:Nat,0≤(kN v b x k).1∧(kN v b x k).1≤k
 | 0=>by simp
 | k+1=>by
  have:=Jh v b x k
  unfold kN
  split
  ·dsimp only;omega
  ·omega
end Go.Proofs.YtmehofoficaelaaGreatDoor
namespace Go.Proofs.YtmehofoficaelaaGreatDoor
open Go Go.AL Classical
set_option maxRecDepth 10000
set_option maxHeartbeats 8000000
structure pE(g:eY)(m:List Int):Prop where
 len:m.length=g.kinds.length
 num:∀ a∈m,1≤a∧a≤6
def Z8(m:List Int)(x:Int):Int:=if 0≤fF x then gt m (fF x)else 0
def LX(m cs:List Int):Nat→Int
 | 0=>0
 | i+1=>LX m cs i+Z8 m (gt cs (i:Int))
def LY(m a b:List Int):Nat→Int
 | 0=>0
 | i+1=>LY m a b i+gt m (i:Int)*(gt a (i:Int)+gt b (i:Int))
def afa(r:Int):Int:=if r=0 then 0 else if r=3 then 2 else 1
def CG(m:List Int)(p:Pos):Int:=LX m p.cs p.cs.length+LY m p.h0 p.h1 m.length+afa p.fH
@[simp] theorem anx(m cs:List Int):LX m cs 0=0:=rfl
@[simp] theorem anz(m a b:List Int):LY m a b 0=0:=rfl
section
variable{g:eY}{m:List Int}{p:Pos}
end
end Go.Proofs.YtmehofoficaelaaGreatDoor
namespace Go.AL
open Go
section
variable{T:gP}{live:List Nat}{a:IR}{s:St}{K:iv}{α:Type}
def fh.kg(ms:List Nat)(rd:Bool)(x0:α)(E:α→Env)(Hp:α→U)(P:α→Prop)(μ:α→Nat)
  (h0:P x0) (hE:forget ((E x0).map (·.1)) s.env=E x0) (hH:s.H=Hp x0) (hm:s.marks=ms) (hr:s.gZ=rd) (qA:(((E x0).map (·.1)).all fun k=>live.contains k)=true)
  (h:∀ x,P x→XC T a { env:=E x,H:=Hp x,marks:=ms,gZ:=rd } (wg s.H.length live ((E x0).map (·.1)) (LJ E Hp ms rd (fun x'=>μ x'<μ x∧P x') .mk) K)):fh T live a s K .mk:=
 fh.j x0 E Hp P μ h0 hE hH qA (by rw[hm,hr];exact h)
end
def Vx(H:U):Option Ob→Option D
 | some (.lL (.gF m) since seen)=>(lT H m).bind fun p=>seen.getLast?.bind fun i=>p.2[i]?.bind fun e=>if p.2.length=since then some (.tup [ru e.1,e.2])else none
 | _=>none
@[simp] theorem alj(H:U)(m since:Nat)(seen:List Nat):Vx H (some (.lL (.gF m) since seen))=(lT H m).bind fun p=>seen.getLast?.bind fun i=>p.2[i]?.bind fun e=>if p.2.length=since then some (.tup [ru e.1,e.2])else none:=rfl
@[simp] theorem ajZ(t:TypeId)(v k o n:Nat):qq t (.ptr v k o) n=some (.ptr n 0 0,.new (.row t 0 [.ptr v k o])):=rfl
@[simp] theorem aoq(n:Nat)(m:D)(since:Nat)(seen:List Nat):oo n (.lL m since seen) = []:=rfl
@[simp] theorem apO(ρ:Nat→Option Nat)(H:U)(m:D)(since:Nat)(seen:List Nat):rD ρ H (some (.lL m since seen)) = .lL (e7 ρ H 40 m) since seen:=rfl
end Go.AL
namespace Go.Proofs.YtmehofoficaelaaGreatDoor
open Go Go.AL Classical
set_option maxRecDepth 10000
set_option maxHeartbeats 8000000
def sw{α:Type}(v:List α)(en:Int→α):List Int→List α
 | []=>v
 | i::r=>sw (pt v i (en i)) en r
@[simp] theorem ao8{α:Type}(en:Int→α)(v:List α):sw v en []=v:=rfl
theorem CY{α:Type}[Inhabited α](en:Int→α):∀ (r:List Int) (v:List α),(∀ i∈r,0≤i∧i<v.length)→(sw v en r).length=v.length
 | [],v,_=>rfl
 | i::r,v,h=>by
  have h1:=h i (by simp)
  have h2:=il (v:=en i) h1.1 h1.2
  rw[sw,CY en r _ fun j hj=>by rw[h2];exact h j (by simp[hj]),h2]
theorem BF{α:Type}[Inhabited α](en:Int→α):∀ (r:List Int) (v:List α),(∀ i∈r,0≤i∧i<v.length)→∀ j:Int,0≤j→j<v.length→gt (sw v en r) j=if j∈r then en j else gt v j
 | [],v,_,j,_,_=>by simp[sw]
 | i::r,v,h,j,j0,j1=>by
  have h1:=h i (by simp)
  have h2:=il (v:=en i) h1.1 h1.2
  rw[sw,BF en r _ (fun k hk=>by rw[h2];exact h k (by simp[hk])) j j0 (by omega),qv h1.1 h1.2 j0]
  by_cases hr:j∈r
  ·simp[hr]
  ·by_cases e:j=i
   ·subst e;simp[hr]
   ·simp[hr,e]
def VF(en:Int→fe)(ds:List Int):List (Value×D):=ds.map fun i=>(.int .i64 i,.agg [.i (en i).1,.i (en i).2])
@[simp] theorem alo(en:Int→fe):VF en [] = []:=rfl
section
variable(g:eY)(l:List Pos)(nx:List (List Int))(part:List Int)
noncomputable def GZ(v:List fe)(b:List Bool)(n:Int)(i:Int):fe:=(nL g (gt l i) v b (gt nx i) n).1
noncomputable def Mm(v:List fe)(b:List Bool)(n:Int)(i:Int):Bool:=(nL g (gt l i) v b (gt nx i) n).2&&gt b i
noncomputable def pG(v:List fe)(b:List Bool)(n:Int):List Int:=part.filter (Mm g l nx v b n)
noncomputable def rV(v:List fe)(b:List Bool)(n:Int):List fe:=sw v (GZ g l nx v b n) (pG g l nx part v b n)
noncomputable def rB(v:List fe)(b:List Bool)(n:Int):List Bool:=sw b (fun _=>false) (pG g l nx part v b n)
def sX(v:List fe)(b:List Bool):List fe×List Bool:=(sw v (fun _=>(2,0)) (part.filter fun i=>gt b i),sw b (fun _=>false) (part.filter fun i=>gt b i))
@[simp] theorem aly(v:List fe)(b:List Bool):sX [] v b=(v,b):=rfl
end
def gk(ds:List Int)(ys:List Nat):List Int:=ys.map fun j:Nat=>gt ds (j:Int)
@[simp] theorem alZ(ds:List Int):gk ds [] = []:=rfl
theorem JE{l:List fe}{n:Int}(a b:Int):(cl fS l).take (n.toNat*2) ++ .i a :: .i b::(cl fS l).drop (n.toNat*2+2)=cl fS (pt l n (a,b)):=by
 rw[show n.toNat*2+2=(n.toNat+1)*2 by omega,sR,tW]
 unfold pt
 rw[← ze,na,Bz]
 rfl
def Vp{g:eY}{l:List Pos}{nx:List (List Int)}{part:List Int}{v:List fe}{b:List Bool}{n i:Int}(h:i∈pG g l nx part v b n):i∈part:=(aP.1 h).1
def I5(w:Bool)(g:eY)(l:List Pos)(nx:List (List Int)):List D:=[.eX (bif w then 3 else 4) (bif w then 0 else 1) 2 0 l.length,.eX (bif w then 4 else 3) 0 1 0 l.length,.i g.size,.sl 1 (g.next.map fI),dI g.iT,.sl 3 (g.kinds.map Kind.cells),.i g.fH,.b g.om,dN 4 Clause.cells g.clauses,.i g.blocked,.i g.vz,gA l,.sl 1 (nx.map fN)]
def tp(w:Bool):D:=.ptr (bif w then 2 else 1) 0 0
def H5(w:Bool)(z:List fe)(g:eY)(l:List Pos)(nx:List (List Int))(m:List Int)(v:List fe)(b:List Bool):U:=
 bif w then [.row 43 0 g.cells,.row 56 0 [dI m],.row 132 0 (I5 w g l nx),.row 86 0 (cl fS v),.row 4 0 (cl fB b)]else [.row 43 0 g.cells,.row 132 0 (I5 w g l nx),.row 86 0 (cl fS z),.row 4 0 (cl fB b),.row 86 1 (cl fS v)]
def HF(w:Bool)(z:List fe)(g:eY)(l:List Pos)(nx:List (List Int))(m:List Int)(part:List Int)(n t:Int)(v:List fe)(b:List Bool)(st:qp):U:=
 H5 w z g l nx m v b ++ [.row 125 0 [tp w],.row 37 0 [dI part],.row 3 0 [.i n],.row 3 0 [.i t],.row 125 0 [tp w],.kJ,.gL 3456 [(3,.ptr 5 0 0),(4,.ptr 6 0 0),(5,.ptr 7 0 0),(9,.ptr 8 0 0)] st]
structure tK(g:eY)(l:List Pos)(nx:List (List Int))(part:List Int)(bu:Int):Prop where
 gm:gh g
 ps:∀ p∈l,gG g p
 len:l.length≤4000
 nxl:nx.length=l.length
 Sd:∀ i:Int,0≤i→i<l.length→(∀ k∈gt nx i,0≤k∧k<l.length)∧(gt nx i).length≤4000000000
 prt:∀ i∈part,0≤i∧i<l.length
 nd:part.Nodup
 pl:part.length≤4000
 bu:1≤bu∧bu≤9223372036854775807
end Go.Proofs.YtmehofoficaelaaGreatDoor
namespace Go.AL
open Go
def JZ:Nat→List (Int×List Int)→List (Value×D)
 | _,[]=>[]
 | k,e::r=>(.int .i64 e.1,.eX k (e.2.length-1) 1 0 e.2.length)::JZ (k+1) r
def rwF(ls:List (Int×List Int)):U:=ls.map fun e=>.row 3 (e.2.length-1) (cl f1 e.2)
def LH(m:List Int)(ls:List (Int×List Int)):U:=.row 56 0 [dI m] :: .map (.int .i64) (JZ 2 ls)::rwF ls
end Go.AL
namespace Go.Proofs.YtmehofoficaelaaGreatDoor
open Go Go.AL Classical
noncomputable def WC(m:List Int)(l:List Pos)(n:Int)(k:Nat):List Int:=(upto k).filter fun i=>decide (CG m (gt l i)=n)
structure GI(m:List Int)(l:List Pos)(i:Int)(ls:List (Int×List Int)):Prop where
 nd:(ls.map (·.1)).Nodup
 mem:∀ n,n∈ls.map (·.1)↔∃ j:Int,0≤j∧j<i∧CG m (gt l j)=n
 prt:∀ e∈ls,e.2=WC m l e.1 i.toNat
section
variable{m:List Int}{l:List Pos}{i:Int}{ls:List (Int×List Int)}
end
end Go.Proofs.YtmehofoficaelaaGreatDoor
namespace Go.Proofs.YtmehofoficaelaaGreatDoor
open Go Go.AL Classical
section
variable{g:eY}{l:List Pos}{nx:List (List Int)}{part:List Int}
end
structure Chn(L:Nat)(v:List fe)(b:List Bool):Prop where
 vl:v.length=L
 bl:b.length=L
 n:∀ i:Int,0≤i→i<L→gt b i=false→(gt v i).1≠2→0≤(gt v i).2∧(0<(gt v i).2→∃ j:Int,0≤j∧j<L∧gt b j=false∧(gt v j).1≠2∧(gt v j).2=(gt v i).2-1)
theorem Nf(v:List fe)(b:List Bool)(x:List Int):∀ k:Nat,k≤x.length→(kN v b x k).2 = -1∨∃ j∈x,gt b j=false∧(gt v j).1=1∧(gt v j).2=(kN v b x k).2
 | 0,_=>.inl rfl
 | k+1,hk=>by
  have ih:=Nf v b x k (by omega)
  have hm:gt x (k:Int)∈x:=ft (by omega) (by omega)
  rw[kN]
  split
  ·rename_i h
   dsimp only
   rcases Int.le_total (kN v b x k).2 (gt v (gt x (k:Int))).2 with h2|h2
   ·rw[Int.max_eq_right h2];exact .inr ⟨_,hm,h.1,h.2,rfl⟩
   ·rw[Int.max_eq_left h2];exact ih
  ·exact ih
section
variable{g:eY}{l:List Pos}{nx:List (List Int)}{part:List Int}{bu:Int}
def GO(o:tK g l nx part bu){v:List fe}{b:List Bool}(hb:b.length=l.length){n:Int}:∀ i∈pG g l nx part v b n,0≤i∧i<b.length:=fun i hi=>by rw[hb];exact o.prt i (Vp hi)
def afk(o:tK g l nx part bu){v:List fe}{b:List Bool}(hv:v.length=l.length)(hb:b.length=l.length){n:Int}:(rV g l nx part v b n).length=l.length:=by
 unfold rV
 rw[CY _ _ _ (by rw[hv,← hb];exact GO o hb),hv]
def afj(o:tK g l nx part bu){v:List fe}{b:List Bool}(hb:b.length=l.length){n:Int}:(rB g l nx part v b n).length=l.length:=by
 unfold rB
 rw[CY _ _ _ (GO o hb),hb]
def P9(o:tK g l nx part bu){v:List fe}{b:List Bool}(hv:v.length=l.length)(hb:b.length=l.length){n j:Int}(j0:0≤j)(j1:j<l.length):gt (rV g l nx part v b n) j=if j∈pG g l nx part v b n then GZ g l nx v b n j else gt v j:=
 BF _ _ _ (by rw[hv,← hb];exact GO o hb) j j0 (by omega)
def Kh(o:tK g l nx part bu){v:List fe}{b:List Bool}(hb:b.length=l.length){n j:Int}(j0:0≤j)(j1:j<l.length):gt (rB g l nx part v b n) j=if j∈pG g l nx part v b n then false else gt b j:=
 BF _ _ _ (GO o hb) j j0 (by omega)
def PI(o:tK g l nx part bu){v:List fe}{b:List Bool}(hv:v.length=l.length)(hb:b.length=l.length):((sX part v b).1.length=l.length∧(sX part v b).2.length=l.length) ∧
  ∀ j:Int,0≤j→j<l.length→gt (sX part v b).1 j=(if j∈part∧gt b j=true then(2,0)else gt v j)∧gt (sX part v b).2 j=(if j∈part then false else gt b j):=by
 have hi:∀ i∈part.filter (fun i=>gt b i),0≤i∧i<l.length:=fun i hi=>o.prt i (aP.1 hi).1
 unfold sX
 dsimp only
 refine⟨⟨by rw[CY _ _ _ (by rw[hv];exact hi),hv],by rw[CY _ _ _ (by rw[hb];exact hi),hb]⟩,fun j j0 j1=>?_⟩
 rw[BF _ _ _ (by rw[hv];exact hi) j j0 (by omega),BF _ _ _ (by rw[hb];exact hi) j j0 (by omega)]
 simp only[aP]
 refine⟨trivial,?_⟩
 by_cases h1:j∈part
 ·by_cases h2:gt b j=true
  ·simp[h1,h2]
  ·simp[h1,h2]
 ·simp[h1]
end
section
variable{g:eY}{l:List Pos}{nx:List (List Int)}
end
end Go.Proofs.YtmehofoficaelaaGreatDoor
namespace Go.Proofs.YtmehofoficaelaaGreatDoor
open Go Go.AL Classical
noncomputable def Iq(m:List Int)(l:List Pos)(last:Int):Nat→Int
 | 0 => -1
 | i+1=>if last<CG m (gt l (i:Int))∧(Iq m l last i<0∨CG m (gt l (i:Int))<Iq m l last i)then CG m (gt l (i:Int))else Iq m l last i
@[simp] theorem anO(m:List Int)(l:List Pos)(last:Int):Iq m l last 0 = -1:=rfl
set_option maxRecDepth 10000
set_option maxHeartbeats 8000000
def Um(b:Int)(l:List fe):Bool:=l.any fun s=>s.1 == 8&&s.2 == b
def Ul(g:eY)(a b:Int):Bool:=(gt g.kinds a).iG.any (Um b)
structure ag5(g:eY)(m:List Int):Prop where
 ok:pE g m
 le:∀ a b:Int,0≤a→a<g.kinds.length→0≤b→b<g.kinds.length→Ul g a b=true→gt m b≤gt m a
def WV{α:Type}[Inhabited α]{l l':List α}{n:Int}(h0:0≤n)(h:n<l.length):gt (l++l') n=gt l n:=by
 unfold gt
 rw[List.getD_eq_getElem?_getD,List.getD_eq_getElem?_getD,ag (by omega)]
end Go.Proofs.YtmehofoficaelaaGreatDoor
namespace Go.Proofs.YtmehofoficaelaaGreatDoor
open Go Go.AL Classical
section
variable{g:eY}{l:List Pos}{nx:List (List Int)}{part:List Int}{bu:Int}
structure Agr(L:Nat)(S:Int→Prop)(v:List fe)(b:List Bool)(v':List fe)(b':List Bool):Prop where
 vl:v.length=L
 bl:b.length=L
 vl':v'.length=L
 bl':b'.length=L
 eb:∀ k:Int,0≤k→k<L→S k→gt b k=gt b' k
 ev:∀ k:Int,0≤k→k<L→S k→gt b k=false→gt v k=gt v' k
structure ag6(l:List Pos)(nx:List (List Int))(part:List Int)(S:Int→Prop):Prop where
 own:∀ i∈part,S i
 next:∀ i∈part,∀ k∈gt nx i,S k
def rep(n:Nat):List Bool:=List.replicate n false
end
section
variable{g:eY}{l:List Pos}{m:List Int}
end
end Go.Proofs.YtmehofoficaelaaGreatDoor
namespace Go.Proofs.YtmehofoficaelaaGreatDoor
open Go Go.AL Classical
structure pR where
 ov:Int→Bool
 rs:Int→Int
 nx:List (List Int)
def jM(A:pR)(v:List fe)(i:Int):Prop:=
 (A.ov i=true∧gt v i=(A.rs i,0))∨(A.ov i=false∧(
  (∃ n,1≤n∧gt v i=(1,n)∧(∃ k∈gt A.nx i,gt v k=(3,n-1))∧∀ k∈gt A.nx i,(gt v k).1=3→n-1≤(gt v k).2) ∨
  (∃ n,1≤n∧gt v i=(3,n)∧(∀ k∈gt A.nx i,(gt v k).1=1∧(gt v k).2≤n-1)∧∃ k∈gt A.nx i,(gt v k).2=n-1) ∨
  (gt v i=(2,0)∧(∀ k∈gt A.nx i,(gt v k).1≠3)∧¬ (gt A.nx i≠[]∧∀ k∈gt A.nx i,(gt v k).1=1))))
def jM.n0{A:pR}{v:List fe}{i:Int}(h:jM A v i):0≤(gt v i).2:=by
 rcases h with⟨_,e⟩|⟨_,⟨n,h,e,_⟩|⟨n,h,e,_⟩|⟨e,_⟩⟩<;>rw[e]<;>simp<;>omega
def jM.congr{A:pR}{v v':List fe}{i:Int}(h:jM A v i)(hi:gt v' i=gt v i)(hk:∀ k∈gt A.nx i,gt v' k=gt v k):jM A v' i:=by
 rcases h with⟨c1,c2⟩|⟨c1,⟨q,q1,c2,⟨k,jC,c3⟩,c4⟩|⟨q,q1,c2,c3,k,jC,c4⟩|⟨c2,c3,c4⟩⟩
 ·exact .inl ⟨c1,by rw[hi];exact c2⟩
 ·exact .inr ⟨c1,.inl ⟨q,q1,by rw[hi];exact c2,⟨k,jC,by rw[hk k jC];exact c3⟩,fun p hp=>by rw[hk p hp];exact c4 p hp⟩⟩
 ·exact .inr ⟨c1,.inr (.inl ⟨q,q1,by rw[hi];exact c2,fun p hp=>by rw[hk p hp];exact c3 p hp,k,jC,by rw[hk k jC];exact c4⟩)⟩
 ·exact .inr ⟨c1,.inr (.inr ⟨by rw[hi];exact c2,fun p hp=>by rw[hk p hp];exact c3 p hp,fun⟨a1,a2⟩=>c4 ⟨a1,fun p hp=>by rw[← hk p hp];exact a2 p hp⟩⟩)⟩
section
variable{A:pR}{S:Int→Prop}{v v':List fe}
def RL(hS:∀ i,S i→∀ k∈gt A.nx i,S k)(h:∀ i,S i→jM A v i)(h':∀ i,S i→jM A v' i){n:Int}
  (ih:∀ m:Int,0≤m→m<n→∀ i,S i→(gt v i).1≠2→(gt v i).2=m→gt v' i=gt v i) (Cu:∀ m:Int,0≤m→m<n→∀ i,S i→(gt v' i).1≠2→(gt v' i).2=m→gt v i=gt v' i) :
  ∀ i,S i→(gt v i).1≠2→(gt v i).2=n→gt v' i=gt v i:=fun i hi h2 hn=>by
 rcases h i hi with⟨o,e⟩|⟨o,⟨m,h1,e,⟨k,hk,ek⟩,_⟩|⟨m,h1,e,ha,k,hk,ek⟩|⟨e,_⟩⟩
 ·rcases h' i hi with⟨_,e'⟩|⟨o',_⟩
  ·rw[e,e']
  ·rw[o]at o';cases o'
 ·rw[e]at hn
  dsimp only at hn
  subst hn
  have jC:=ih (m-1) (by omega) (by omega) k (hS i hi k hk) (by rw[ek];simp) (by rw[ek])
  rw[ek]at jC
  rcases h' i hi with⟨o',_⟩|⟨_,⟨m',zt,e',_,zJ⟩|⟨m',_,_,oF,_⟩|⟨_,ta,_⟩⟩
  ·rw[o]at o';cases o'
  ·have:=zJ k hk (by rw[jC])
   rw[jC]at this
   dsimp only at this
   by_cases e2:m'=m
   ·rw[e,e',e2]
   ·have:=Cu m' (by omega) (by omega) i hi (by rw[e'];simp) (by rw[e'])
    rw[e,e']at this
    exact absurd (congrArg Prod.snd this).symm e2
  ·have:=(oF k hk).1
   rw[jC]at this
   exact absurd this (by simp)
  ·exact absurd (by rw[jC]) (ta k hk)
 ·rw[e]at hn
  dsimp only at hn
  subst hn
  have jO:∀ q∈gt A.nx i,gt v' q=gt v q:=fun q hq=>ih _ (h q (hS i hi q hq)).n0 (by have:=(ha q hq).2;omega) q (hS i hi q hq) (by rw[(ha q hq).1];simp) rfl
  rcases h' i hi with⟨o',_⟩|⟨_,⟨m',_,_,⟨q,hq,eq⟩,_⟩|⟨m',zt,e',oF,q,hq,eq⟩|⟨_,_,ta⟩⟩
  ·rw[o]at o';cases o'
  ·have:=(ha q hq).1
   rw[← jO q hq,eq]at this
   exact absurd this (by simp)
  ·have a1:=(oF k hk).2
   have a2:=(ha q hq).2
   rw[jO k hk]at a1
   rw[jO q hq]at eq
   rw[e,e',show m'=m by omega]
  ·exact(ta ⟨fun e0=>(by rw[e0]at hk;cases hk),fun q hq=>by rw[jO q hq];exact(ha q hq).1⟩).elim
 ·rw[e]at h2;exact absurd rfl h2
def Z2(hS:∀ i,S i→∀ k∈gt A.nx i,S k)(h:∀ i,S i→jM A v i)(h':∀ i,S i→jM A v' i):∀ i,S i→gt v i=gt v' i:=by
 have key:∀ N:Nat,(∀ m:Int,0≤m→m<N→∀ i,S i→(gt v i).1≠2→(gt v i).2=m→gt v' i=gt v i)∧(∀ m:Int,0≤m→m<N→∀ i,S i→(gt v' i).1≠2→(gt v' i).2=m→gt v i=gt v' i):=by
  intro N
  induction N with
  | zero=>exact⟨fun m _ _=>by omega,fun m _ _=>by omega⟩
  | succ N ih=>
   refine⟨fun m m0 m1=>?_,fun m m0 m1=>?_⟩
   ·exact RL hS h h' (fun q q0 q1=>ih.1 q q0 (by omega)) (fun q q0 q1=>ih.2 q q0 (by omega))
   ·exact RL hS h' h (fun q q0 q1=>ih.2 q q0 (by omega)) (fun q q0 q1=>ih.1 q q0 (by omega))
 intro i hi
 have n0:=(h i hi).n0
 have n0':=(h' i hi).n0
 by_cases e:(gt v i).1=2
 ·by_cases e':(gt v' i).1=2
  ·refine cS (by rw[e,e']) ?_
   have z:∀ {w:List fe},jM A w i→(gt w i).1=2→(gt w i).2=0:=fun{w} hw nh=>by
    rcases hw with⟨_,e⟩|⟨_,⟨n,_,e,_⟩|⟨n,_,e,_⟩|⟨e,_⟩⟩
    ·rw[e]
    ·rw[e]at nh;exact absurd nh (by simp)
    ·rw[e]at nh;exact absurd nh (by simp)
    ·rw[e]
   rw[z (h i hi) e,z (h' i hi) e']
  ·exact(key ((gt v' i).2.toNat+1)).2 _ n0' (by omega) i hi e' rfl
 ·exact((key ((gt v i).2.toNat+1)).1 _ n0 (by omega) i hi e rfl).symm
end
noncomputable def lz(g:eY)(l:List Pos)(nx:List (List Int)):pR:=⟨fun i=>(stat g (gt l i)).2,fun i=>(stat g (gt l i)).1,nx⟩
end Go.Proofs.YtmehofoficaelaaGreatDoor
namespace Go.Proofs.YtmehofoficaelaaGreatDoor
open Go Go.AL Classical
structure u4 where
 who:Int
 lo:Int
 hi:Int
 es:List fe
 root:List Int
 deriving Inhabited
def Vh(c:u4)(i:Int):Bool:=decide (c.lo≤i∧i<c.hi)
def say(c:u4)(i:Int):fe:=gt c.es (i-c.lo)
def sd(cl:List u4)(i:Int):List fe:=(cl.filter fun c=>Vh c i).map fun c=>say c i
def x9:List Int→Int
 | [] => -1
 | a::r=>r.foldl min a
def x7:List Int→Int
 | [] => -1
 | a::r=>r.foldl max a
theorem foldl_min:∀ (r:List Int) (a:Int),(r.foldl min a=a∨r.foldl min a∈r)∧r.foldl min a≤a∧∀ y∈r,r.foldl min a≤y
 | [],a=>⟨.inl rfl,dp _,by simp⟩
 | b::r,a=>by
  obtain⟨h1,h2,h3⟩:=foldl_min r (min a b)
  rw[bV]
  refine⟨?_,by omega,fun y hy=>?_⟩
  ·rcases h1 with h1|h1
   ·by_cases h:a≤b
    ·exact .inl (by omega)
    ·exact .inr (av.2 (.inl (by omega)))
   ·exact .inr (aS _ h1)
  ·rcases av.1 hy with rfl|hy
   ·omega
   ·exact h3 y hy
theorem foldl_max:∀ (r:List Int) (a:Int),(r.foldl max a=a∨r.foldl max a∈r)∧a≤r.foldl max a∧∀ y∈r,y≤r.foldl max a
 | [],a=>⟨.inl rfl,dp _,by simp⟩
 | b::r,a=>by
  obtain⟨h1,h2,h3⟩:=foldl_max r (max a b)
  rw[bV]
  refine⟨?_,by omega,fun y hy=>?_⟩
  ·rcases h1 with h1|h1
   ·by_cases h:a≤b
    ·exact .inr (av.2 (.inl (by omega)))
    ·exact .inl (by omega)
   ·exact .inr (aS _ h1)
  ·rcases av.1 hy with rfl|hy
   ·omega
   ·exact h3 y hy
def Mf{l:List Int}(h:l≠[]):x9 l∈l:=by
 cases l with
 | nil=>exact absurd rfl h
 | cons a r=>
  rcases(foldl_min r a).1 with e|e
  ·exact av.2 (.inl e)
  ·exact aS _ e
def Me{l:List Int}{y:Int}(h:y∈l):x9 l≤y:=by
 cases l with
 | nil=>cases h
 | cons a r=>
  rcases av.1 h with rfl|h
  ·exact(foldl_min r y).2.1
  ·exact(foldl_min r a).2.2 y h
def Mb{l:List Int}(h:l≠[]):x7 l∈l:=by
 cases l with
 | nil=>exact absurd rfl h
 | cons a r=>
  rcases(foldl_max r a).1 with e|e
  ·exact av.2 (.inl e)
  ·exact aS _ e
def LO{l:List Int}{y:Int}(h:y∈l):y≤x7 l:=by
 cases l with
 | nil=>cases h
 | cons a r=>
  rcases av.1 h with rfl|h
  ·exact(foldl_max r y).2.1
  ·exact(foldl_max r a).2.2 y h
def js(l:List fe)(o:Int):List Int:=(l.filter fun r=>decide (r.1=o)).map fun r=>r.2
def x8{l:List fe}{o n:Int}:n∈js l o↔(o,n)∈l:=by
 unfold js
 rw[aw]
 constructor
 ·rintro⟨r,hr,rfl⟩
  rw[aP]at hr
  have:r.1=o:=by simpa using hr.2
  rw[← this]
  exact hr.1
 ·intro h
  exact⟨_,aP.2 ⟨h,by simp⟩,rfl⟩
def R4{l:List fe}{o:Int}:(js l o).length=l.length↔∀ r∈l,r.1=o:=by
 unfold js
 rw[List.length_map,List.length_filter_eq_length_iff]
 simp
def tt(l:List fe):fe:=
 if js l 3≠[]then(1,x9 (js l 3)+1)else if l≠[]∧(js l 1).length=l.length then(3,x7 (js l 1)+1)else(2,0)
section
variable{A:pR}{V:List fe}{cl:List u4}{N:Int}
end
end Go.Proofs.YtmehofoficaelaaGreatDoor
namespace Go.Proofs.YtmehofoficaelaaGreatDoor
open Go Go.AL Classical
def idx(p:u4→Bool)(cl:List u4):List Int:=(upto cl.length).filter fun k=>p (gt cl k)
inductive Jd where
 | v (a:Int) (l:List Int)
 | none
 | ali
 deriving DecidableEq
section
variable{A:pR}{V:List fe}{cl:List u4}{n:Nat}{ad:u4→Bool}
end
end Go.Proofs.YtmehofoficaelaaGreatDoor
namespace Go.Proofs.YtmehofoficaelaaGreatDoor
open Go Go.AL Classical
def RJ{A:pR}{v:List fe}{i:Int}(h0:∀ k∈gt A.nx i,0≤(gt v k).2)(ho:A.ov i=false):jM A v i↔gt v i=tt ((gt A.nx i).map fun k=>gt v k):=by
 have hm:∀ o p:Int,(o,p)∈((gt A.nx i).map fun k=>gt v k)↔∃ k∈gt A.nx i,gt v k=(o,p):=fun o p=>by rw[aw]
 have jO:(∀ r∈(gt A.nx i).map (fun k=>gt v k),r.1=1)↔∀ k∈gt A.nx i,(gt v k).1=1:=by simp
 have gE:((gt A.nx i).map fun k=>gt v k)≠[]↔gt A.nx i≠[]:=by simp
 unfold tt jM
 by_cases h3:js ((gt A.nx i).map fun k=>gt v k) 3 = []
 ·have ta:∀ k∈gt A.nx i,(gt v k).1≠3:=fun k hk e=>by
   have:(gt v k).2∈js ((gt A.nx i).map fun k=>gt v k) 3:=x8.2 ((hm _ _).2 ⟨k,hk,cS e rfl⟩)
   rw[h3]at this;cases this
  rw[if_neg (fun h=>h h3)]
  by_cases h4:gt A.nx i≠[]∧∀ k∈gt A.nx i,(gt v k).1=1
  ·rw[if_pos ⟨gE.2 h4.1,R4.2 (jO.2 h4.2)⟩]
   have mQ:js ((gt A.nx i).map fun k=>gt v k) 1≠[]:=fun e=>by
    obtain⟨k,hk⟩:=List.exists_mem_of_ne_nil _ h4.1
    have:(gt v k).2∈js ((gt A.nx i).map fun k=>gt v k) 1:=x8.2 ((hm _ _).2 ⟨k,hk,cS (h4.2 k hk) rfl⟩)
    rw[e]at this;cases this
   obtain⟨q,hq,eq⟩:=(hm _ _).1 (x8.1 (Mb mQ))
   have ix:∀ k∈gt A.nx i,(gt v k).2≤x7 (js ((gt A.nx i).map fun k=>gt v k) 1):=fun k hk=>LO (x8.2 ((hm _ _).2 ⟨k,hk,cS (h4.2 k hk) rfl⟩))
   have r8:=h0 q hq
   rw[eq]at r8
   generalize x7 (js ((gt A.nx i).map fun k=>gt v k) 1)=m at *
   constructor
   ·rintro(⟨e,_⟩|⟨_,⟨n,_,_,⟨k,hk,ek⟩,_⟩|⟨n,n1,e,ha,k,hk,ek⟩|⟨_,_,e⟩⟩)
    ·rw[ho]at e;cases e
    ·exact absurd (by rw[ek]) (ta k hk)
    ·have:=ix k hk
     have h5:=(ha q hq).2
     rw[eq]at h5
     dsimp only at h5
     rw[e,show n=m+1 by omega]
    ·exact absurd h4 e
   ·intro e
    exact .inr ⟨ho,.inr (.inl ⟨m+1,by dsimp only at r8;omega,e,fun k hk=>⟨h4.2 k hk,by have:=ix k hk;omega⟩,q,hq,by rw[eq];dsimp only;omega⟩)⟩
  ·rw[if_neg (fun h=>h4 ⟨gE.1 h.1,jO.1 (R4.1 h.2)⟩)]
   constructor
   ·rintro(⟨e,_⟩|⟨_,⟨n,_,_,⟨k,hk,ek⟩,_⟩|⟨n,n1,e,ha,k,hk,ek⟩|⟨e,_,_⟩⟩)
    ·rw[ho]at e;cases e
    ·exact absurd (by rw[ek]) (ta k hk)
    ·exact absurd ⟨fun e0=>(by rw[e0]at hk;cases hk),fun k hk=>(ha k hk).1⟩ h4
    ·exact e
   ·intro e
    exact .inr ⟨ho,.inr (.inr ⟨e,ta,h4⟩)⟩
 ·rw[if_pos h3]
  obtain⟨q,hq,eq⟩:=(hm _ _).1 (x8.1 (Mf h3))
  have zJ:∀ k∈gt A.nx i,(gt v k).1=3→x9 (js ((gt A.nx i).map fun k=>gt v k) 3)≤(gt v k).2:=fun k hk e=>Me (x8.2 ((hm _ _).2 ⟨k,hk,cS e rfl⟩))
  have r8:=h0 q hq
  rw[eq]at r8
  generalize x9 (js ((gt A.nx i).map fun k=>gt v k) 3)=m at *
  constructor
  ·rintro(⟨e,_⟩|⟨_,⟨n,n1,e,⟨k,hk,ek⟩,X8⟩|⟨n,n1,e,ha,k,hk,ek⟩|⟨_,e,_⟩⟩)
   ·rw[ho]at e;cases e
   ·have h5:=zJ k hk (by rw[ek])
    rw[ek]at h5
    have h6:=X8 q hq (by rw[eq])
    rw[eq]at h6
    dsimp only at h5 h6
    rw[e,show n=m+1 by omega]
   ·have:=(ha q hq).1
    rw[eq]at this
    exact absurd this (by simp)
   ·exact absurd (by rw[eq]) (e q hq)
  ·intro e
   exact .inr ⟨ho,.inl ⟨m+1,by dsimp only at r8;omega,e,⟨q,hq,by rw[eq];congr 1;omega⟩,fun k hk e2=>by have:=zJ k hk e2;omega⟩⟩
def RK{A:pR}{v:List fe}{i:Int}(ho:A.ov i=true):jM A v i↔gt v i=(A.rs i,0):=by
 constructor
 ·rintro(⟨_,e⟩|⟨e,_⟩)
  ·exact e
  ·rw[ho]at e;cases e
 ·exact fun e=>.inl ⟨ho,e⟩
end Go.Proofs.YtmehofoficaelaaGreatDoor
namespace Go.Proofs.YtmehofoficaelaaGreatDoor
open Go Go.AL Classical
set_option maxRecDepth 10000
set_option maxHeartbeats 8000000
section
variable{nx:List (List Int)}
end
attribute [-simp] O8 Uq Z5 Ur
