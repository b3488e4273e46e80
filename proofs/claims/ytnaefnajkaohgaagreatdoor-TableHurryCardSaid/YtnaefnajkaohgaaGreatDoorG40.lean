/- Part 40 of TableHurry. -/
import Derived.Test.YtnaefnajkaohgaaGreatDoorG30
import Derived.Test.YtnaefnajkaohgaaGreatDoorG25
import Derived.Test.YtnaefnajkaohgaaGreatDoorG24
import Derived.Test.YtnaefnajkaohgaaGreatDoorG29
import Derived.Test.YtnaefnajkaohgaaGreatDoorG16
set_option linter.all false
namespace Go.Proofs.YtnaefnajkaohgaaGreatDoor
open Go Go.AL Classical
set_option maxRecDepth 10000
set_option maxHeartbeats 4000000
def F1(v:List eI)(b:List Bool):Nat→Int
 | 0 => -1
 | n+1=>if gt b (n:Int)=false∧(gt v (n:Int)).1≠2 then max (F1 v b n) (gt v (n:Int)).2 else F1 v b n
@[simp] theorem afu(v:List eI)(b:List Bool):F1 v b 0 = -1:=rfl
def DR(b:List Bool)(part:List Int)(n:Int):Nat→Int×Int
 | 0=>(0,-1)
 | k+1=>if gt b (gt part (k:Int))=true∧wD (gt part (k:Int)) n≠(DR b part n k).2 then((DR b part n k).1+1,wD (gt part (k:Int)) n)else DR b part n k
@[simp] theorem agq(b:List Bool)(part:List Int)(n:Int):DR b part n 0=(0,-1):=rfl
set_option maxRecDepth 10000
set_option maxHeartbeats 8000000
def jb(v:List eI)(b:List Bool)(x:List Int):Nat→Int×Int
 | 0=>(0,-1)
 | j+1=>if gt b (gt x (j:Int))=false∧(gt v (gt x (j:Int))).1=1 then((jb v b x j).1+1,max (jb v b x j).2 (gt v (gt x (j:Int))).2)else jb v b x j
@[simp] theorem aks(v:List eI)(b:List Bool)(x:List Int):jb v b x 0=(0,-1):=rfl
theorem aas{v:List eI}{b:List Bool}{x:List Int}{i:Int}(i0:0≤i):jb v b x (i+1).toNat=if gt b (gt x i)=false∧(gt v (gt x i)).1=1 then((jb v b x i.toNat).1+1,max (jb v b x i.toNat).2 (gt v (gt x i)).2)else jb v b x i.toNat:=by
 have h:(i+1).toNat=i.toNat+1:=by omega
 have h2:((i.toNat:Nat):Int)=i:=by omega
 rw[h,jb,h2]
def uH(v:List eI)(b:List Bool)(x:List Int)(n:Int):Prop:=∃ k∈x,gt b k=false∧gt v k=(3,n-1)
noncomputable def ly(g:ey)(p:Pos)(v:List eI)(b:List Bool)(x:List Int)(n:Int):eI×Bool:=
 if n=0 then(((stat g p).1,0),(stat g p).2)else
 if uH v b x n then((1,n),true)else((3,n),decide (0<x.length∧(jb v b x x.length).1=x.length∧(jb v b x x.length).2=n-1))
theorem EZ(v:List eI)(b:List Bool)(x:List Int):∀ k:Nat,0≤(jb v b x k).1∧(jb v b x k).1≤k
 | 0=>by simp
 | k+1=>by
  have:=EZ v b x k
  unfold jb
  split
  ·dsimp only;omega
  ·omega
end Go.Proofs.YtnaefnajkaohgaaGreatDoor
namespace Go.Proofs.YtnaefnajkaohgaaGreatDoor
open Go Go.AL Classical
set_option maxRecDepth 10000
set_option maxHeartbeats 8000000
structure ka(g:ey)(m:List Int):Prop where
 len:m.length=g.kinds.length
 num:∀ a∈m,1≤a∧a≤6
def qC(m:List Int)(x:Int):Int:=if 0≤eS x then gt m (eS x)else 0
def oy(m cs:List Int):Nat→Int
 | 0=>0
 | i+1=>oy m cs i+qC m (gt cs (i:Int))
def oz(m a b:List Int):Nat→Int
 | 0=>0
 | i+1=>oz m a b i+gt m (i:Int)*(gt a (i:Int)+gt b (i:Int))
def wB(r:Int):Int:=if r=0 then 0 else if r=3 then 2 else 1
def ow(m:List Int)(p:Pos):Int:=oy m p.cs p.cs.length+oz m p.h0 p.h1 m.length+wB p.eR
@[simp] theorem agU(m cs:List Int):oy m cs 0=0:=rfl
@[simp] theorem agV(m a b:List Int):oz m a b 0=0:=rfl
theorem MI{m cs:List Int}{i:Int}(i0:0≤i):oy m cs (i+1).toNat=oy m cs i.toNat+qC m (gt cs i):=by
 have h:(i+1).toNat=i.toNat+1:=by omega
 have h2:((i.toNat:Nat):Int)=i:=by omega
 rw[h,oy,h2]
theorem MJ{m a b:List Int}{i:Int}(i0:0≤i):oz m a b (i+1).toNat=oz m a b i.toNat+gt m i*(gt a i+gt b i):=by
 have h:(i+1).toNat=i.toNat+1:=by omega
 have h2:((i.toNat:Nat):Int)=i:=by omega
 rw[h,oz,h2]
section
variable{g:ey}{m:List Int}{p:Pos}
theorem Hv(hk:g.kinds.length≤2){x:Int}(h:0≤x∧x≤2*g.kinds.length)(h2:0≤eS x):eS x<g.kinds.length:=by
 unfold eS at *
 split at h2
 ·rw[if_pos (by assumption)];omega
 ·omega
theorem Hs(hg:eW g)(hm:ka g m)(hp:fo g p){x:Int}(hx:x∈p.cs):0≤qC m x∧qC m x≤6:=by
 unfold qC
 split
 ·rename_i h
  have:=Hv hg.kinds.2 (hp.cs x hx) h
  have:=hm.num _ (eH h (by rw[hm.len];exact this))
  omega
 ·omega
theorem yU(hg:eW g)(hm:ka g m)(hp:fo g p):∀ i:Nat,i≤p.cs.length→0≤oy m p.cs i∧oy m p.cs i≤6*i
 | 0,_=>by simp
 | i+1,h=>by
  have h1:=yU hg hm hp i (by omega)
  have h2:=Hs hg hm hp (eH (l:=p.cs) (n:=(i:Int)) (by omega) (by omega))
  rw[oy]
  omega
theorem Ud{a b:Int}(h1:1≤a∧a≤6)(h2:0≤b∧b≤16):0≤a*b∧a*b≤96:=by
 have h3:=Int.mul_nonneg (by omega:0≤a) h2.1
 have h4:=Int.mul_le_mul h1.2 h2.2 h2.1 (by omega:(0:Int)≤6)
 omega
theorem Ht(hm:ka g m)(hp:fo g p){i:Int}(i0:0≤i)(i1:i<m.length):(0≤gt p.h0 i+gt p.h1 i∧gt p.h0 i+gt p.h1 i≤16)∧0≤gt m i*(gt p.h0 i+gt p.h1 i)∧gt m i*(gt p.h0 i+gt p.h1 i)≤96:=by
 have l0:=hp.h0.len
 have l1:=hp.h1.len
 have lm:=hm.len
 have a0:=hp.h0.at_ i i0 (by omega)
 have a1:=hp.h1.at_ i i0 (by omega)
 have h:0≤gt p.h0 i+gt p.h1 i∧gt p.h0 i+gt p.h1 i≤16:=by omega
 exact⟨h,Ud (hm.num _ (eH i0 i1)) h⟩
theorem yV(hm:ka g m)(hp:fo g p):∀ i:Nat,i≤m.length→0≤oz m p.h0 p.h1 i∧oz m p.h0 p.h1 i≤96*i
 | 0,_=>by simp
 | i+1,h=>by
  have h1:=yV hm hp i (by omega)
  have h2:=Ht hm hp (i:=(i:Int)) (by omega) (by omega)
  rw[oz]
  omega
theorem NG(hg:eW g)(hp:fo g p):p.eR=0∨p.eR=1∨p.eR=2∨p.eR=3:=by
 have h1:=hg.eR
 have h2:=hp.eR
 rcases(show g.eR=0∨g.eR=1∨g.eR=2 by omega)with e|e|e<;>rw[e]at h2<;>simp at h2<;>omega
theorem lk:bits BinOp.and IntKind.i64 1 0=0:=by decide
theorem ln:bits BinOp.and IntKind.i64 2 1=0:=by decide
theorem lq:bits BinOp.and IntKind.i64 3 2=2:=by decide
theorem f114(hg:eW g)(hm:ka g m)(hp:fo g p):Wf T 114 [.agg [dI m],dP p] [] (Is (.i (ow m p))):=by
 have hk:=hg.kinds
 have fO:=hp.size
 have vP:=hg.gH.size
 have lm:=hm.len
 have l0:=hp.h0.len
 have l1:=hp.h1.len
 refine Yg Ak ?_
 simp[Ak]
 refine eF.e (0:Int) (fun y=>[(2,.ptr 0 0 0),(3,.ptr 1 0 0),(5,.i (oy m p.cs y.toNat)),(14,dI p.cs),(15,.i p.cs.length),(16,.i y)]) (fun y=>[.row 50 0 [dI m],.row 44 0 p.cells]) (fun y=>0≤y∧y≤p.cs.length) (fun y=>(p.cs.length-y).toNat) ?_ ?_
 ·simp
 rintro i ⟨i0,i1⟩
 dsimp only at i0 i1 ⊢
 by_cases hi:i<p.cs.length
 ·have hs:=MI (m:=m) (cs:=p.cs) i0
  have ff:=yU hg hm hp i.toNat (by omega)
  have lR:=eH i0 hi
  have Dj:=Hs hg hm hp lR
  have Ls:=Hv hk.2 (hp.cs _ lR)
  simp[hi]
  (with_reducible repeat' first|refine Xk ?_<;>try simp|refine Xs ?_ ?_<;>intro h<;>(try intro h')<;>(try simp[h])<;>(try omega)|refine Xg ?_|omega)
  refine Yc (f84 _) ?_
  simp
  unfold qC at hs Dj
  (with_reducible repeat' first|refine Xk ?_<;>try simp|refine Xs ?_ ?_<;>intro h<;>(try intro h')<;>(try simp[h])<;>(try omega)|refine Xg ?_|omega)
  ·rw[if_pos (by assumption)]at hs Dj
   (with_reducible repeat' first|refine Xk ?_<;>try simp|refine Xs ?_ ?_<;>intro h<;>(try intro h')<;>(try simp[h])<;>(try omega)|refine Xg ?_|omega)
   refine LJ.i (i+1) (by first|rfl|simp[hs]) (by first|rfl|simp[hs]) rfl rfl ?_
   omega
  ·rw[if_neg (by omega)]at hs
   refine LJ.i (i+1) (by first|rfl|simp[hs]) (by first|rfl|simp[hs]) rfl rfl ?_
   omega
 have rm:i=p.cs.length:=by omega
 subst rm
 simp
 have hA:=yU hg hm hp p.cs.length (Nat.le_refl _)
 unfold ow
 generalize oy m p.cs p.cs.length=A at *
 refine eF.e (0:Int) (fun y=>[(3,.ptr 1 0 0),(5,.i (A+oz m p.h0 p.h1 y.toNat)),(36,dI m),(37,.i m.length),(38,.i y)]) (fun y=>[.row 50 0 [dI m],.row 44 0 p.cells]) (fun y=>0≤y∧y≤m.length) (fun y=>(m.length-y).toNat) ?_ ?_
 ·simp
 rintro i ⟨i0,i1⟩
 dsimp only at i0 i1 ⊢
 by_cases hi:i<m.length
 ·have hs:=MJ (m:=m) (a:=p.h0) (b:=p.h1) i0
  have ff:=yV hm hp i.toNat (by omega)
  have ht:=Ht hm hp i0 hi
  simp[hi]
  (with_reducible repeat' first|refine Xk ?_<;>try simp|refine Xs ?_ ?_<;>intro h<;>(try intro h')<;>(try simp[h])<;>(try omega)|refine Xg ?_|omega)
  refine LJ.i (i+1) (by first|rfl|simp[hs,bZ]) (by first|rfl|simp[hs,bZ]) rfl rfl ?_
  omega
 have rm:i=m.length:=by omega
 subst rm
 simp
 have hH:=yV hm hp m.length (Nat.le_refl _)
 generalize oz m p.h0 p.h1 m.length=B at *
 rcases NG hg hp with e|e|e|e
 ·refine eF.un ?_
  refine gS.u ?_
  simp[e,lk,ln,lq]
  simp[wB,lk,ln,lq]
 ·refine eF.un ?_
  refine gS.u ?_
  simp[e,lk,ln,lq]
  (with_reducible repeat' first|refine Xk ?_<;>try simp[lk,ln,lq]|refine Xs ?_ ?_<;>intro h<;>(try intro h')<;>(try simp[h,lk,ln,lq])<;>(try omega)|refine Xg ?_|omega)
  refine gS.u ?_
  simp[e,lk,ln,lq]
  simp[wB,lk,ln,lq]
 ·refine eF.un ?_
  refine gS.u ?_
  simp[e,lk,ln,lq]
  (with_reducible repeat' first|refine Xk ?_<;>try simp[lk,ln,lq]|refine Xs ?_ ?_<;>intro h<;>(try intro h')<;>(try simp[h,lk,ln,lq])<;>(try omega)|refine Xg ?_|omega)
  refine gS.u ?_
  simp[e,lk,ln,lq]
  simp[wB,lk,ln,lq]
 ·refine eF.un ?_
  refine gS.u ?_
  simp[e,lk,ln,lq]
  (with_reducible repeat' first|refine Xk ?_<;>try simp[lk,ln,lq]|refine Xs ?_ ?_<;>intro h<;>(try intro h')<;>(try simp[h,lk,ln,lq])<;>(try omega)|refine Xg ?_|omega)
  refine gS.u ?_
  simp[e,lk,ln,lq]
  (with_reducible repeat' first|refine Xk ?_<;>try simp[lk,ln,lq]|refine Xs ?_ ?_<;>intro h<;>(try intro h')<;>(try simp[h,lk,ln,lq])<;>(try omega)|refine Xg ?_|omega)
  refine gS.u ?_
  simp[e,lk,ln,lq]
  simp[wB,lk,ln,lq,bZ]
end
end Go.Proofs.YtnaefnajkaohgaaGreatDoor
namespace Go.AL
open Go
section
variable{T:fH}{live:List Nat}{a:IR}{s:St}{K:gp}{α:Type}
end
def PJ(H:et):Option Ob→Option D
 | some (.jK (.fC m) since seen)=>(kj H m).bind fun p=>seen.getLast?.bind fun i=>p.2[i]?.bind fun e=>if p.2.length=since then some (.tup [.val e.1,e.2])else none
 | _=>none
@[simp] theorem aeO(H:et)(m since:Nat)(seen:List Nat):PJ H (some (.jK (.fC m) since seen))=(kj H m).bind fun p=>seen.getLast?.bind fun i=>p.2[i]?.bind fun e=>if p.2.length=since then some (.tup [.val e.1,e.2])else none:=rfl
@[simp] theorem adx(t:TypeId)(v k o n:Nat):mZ t (.ptr v k o) n=some (.ptr n 0 0,.new (.row t 0 [.ptr v k o])):=rfl
@[simp] theorem ahF(n:Nat)(m:D)(since:Nat)(seen:List Nat):lU n (.jK m since seen) = []:=rfl
@[simp] theorem ai6(ρ:Nat→Option Nat)(H:et)(m:D)(since:Nat)(seen:List Nat):pb ρ H (some (.jK m since seen)) = .jK (eC ρ H 40 m) since seen:=rfl
@[simp] theorem aix(H:et)(k:Nat)(f:Fn)(a b:List D):fD H (k+1) (.fn f a b)=(a.map (fD H k)).flatten++(b.map (fD H k)).flatten:=by
 by_cases h:closed (.fn f a b)=true
 ·have h':=h
  simp only[Fk,ah]at h'
  rw[zt h,zu h'.1,zu h'.2];rfl
 ·rw[fD,if_neg h]
end Go.AL
namespace Go.Proofs.YtnaefnajkaohgaaGreatDoor
open Go Go.AL Classical
set_option maxRecDepth 10000
set_option maxHeartbeats 8000000
def pM{α:Type}(v:List α)(en:Int→α):List Int→List α
 | []=>v
 | i::r=>pM (pt v i (en i)) en r
@[simp] theorem ain{α:Type}(en:Int→α)(v:List α):pM v en []=v:=rfl
theorem zk{α:Type}[Inhabited α](en:Int→α):∀ (r:List Int) (v:List α),(∀ i∈r,0≤i∧i<v.length)→(pM v en r).length=v.length
 | [],v,_=>rfl
 | i::r,v,h=>by
  have h1:=h i (by simp)
  have h2:=ga (v:=en i) h1.1 h1.2
  rw[pM,zk en r _ fun j hj=>by rw[h2];exact h j (by simp[hj]),h2]
theorem xY{α:Type}[Inhabited α](en:Int→α):∀ (r:List Int) (v:List α),(∀ i∈r,0≤i∧i<v.length)→∀ j:Int,0≤j→j<v.length→gt (pM v en r) j=if j∈r then en j else gt v j
 | [],v,_,j,_,_=>by simp[pM]
 | i::r,v,h,j,j0,j1=>by
  have h1:=h i (by simp)
  have h2:=ga (v:=en i) h1.1 h1.2
  rw[pM,xY en r _ (fun k hk=>by rw[h2];exact h k (by simp[hk])) j j0 (by omega),n4 h1.1 h1.2 j0]
  by_cases hr:j∈r
  ·simp[hr]
  ·by_cases e:j=i
   ·subst e;simp[hr]
   ·simp[hr,e]
def PS(en:Int→eI)(ds:List Int):List (Value×D):=ds.map fun i=>(.int .i64 i,.agg [.i (en i).1,.i (en i).2])
@[simp] theorem aeS(en:Int→eI):PS en [] = []:=rfl
section
variable(g:ey)(l:List Pos)(nx:List (List Int))(part:List Int)
noncomputable def CU(v:List eI)(b:List Bool)(n:Int)(i:Int):eI:=(ly g (gt l i) v b (gt nx i) n).1
noncomputable def HO(v:List eI)(b:List Bool)(n:Int)(i:Int):Bool:=(ly g (gt l i) v b (gt nx i) n).2&&gt b i
noncomputable def nf(v:List eI)(b:List Bool)(n:Int):List Int:=part.filter (HO g l nx v b n)
noncomputable def rV(v:List eI)(b:List Bool)(n:Int):List eI:=pM v (CU g l nx v b n) (nf g l nx part v b n)
noncomputable def rB(v:List eI)(b:List Bool)(n:Int):List Bool:=pM b (fun _=>false) (nf g l nx part v b n)
def qg(v:List eI)(b:List Bool):List eI×List Bool:=(pM v (fun _=>(2,0)) (part.filter fun i=>gt b i),pM b (fun _=>false) (part.filter fun i=>gt b i))
@[simp] theorem ae1(v:List eI)(b:List Bool):qg [] v b=(v,b):=rfl
end
def gk(ds:List Int)(ys:List Nat):List Int:=ys.map fun j:Nat=>gt ds (j:Int)
@[simp] theorem aft(ds:List Int):gk ds [] = []:=rfl
theorem PC{g:ey}{l:List Pos}{nx:List (List Int)}{part:List Int}{v:List eI}{b:List Bool}{n i:Int}(h:i∈nf g l nx part v b n):i∈part:=(aT.1 h).1
def EU(w:Bool)(g:ey)(l:List Pos)(nx:List (List Int)):List D:=[.eu (bif w then 3 else 4) (bif w then 0 else 1) 2 0 l.length,.eu (bif w then 4 else 3) 0 1 0 l.length,.i g.size,.sl 1 (g.next.map fI),dI g.gE,.sl 3 (g.kinds.map Kind.cells),.i g.eR,.b g.k6,dN 4 Clause.cells g.clauses,.i g.blocked,.i g.qf,fh l,.sl 1 (nx.map fN)]
def tp(w:Bool):D:=.ptr (bif w then 2 else 1) 0 0
def H5(w:Bool)(z:List eI)(g:ey)(l:List Pos)(nx:List (List Int))(m:List Int)(v:List eI)(b:List Bool):et:=
 bif w then [.row 41 0 g.cells,.row 50 0 [dI m],.row 148 0 (EU w g l nx),.row 58 0 (cl fS v),.row 4 0 (cl fB b)]else [.row 41 0 g.cells,.row 148 0 (EU w g l nx),.row 58 0 (cl fS z),.row 4 0 (cl fB b),.row 58 1 (cl fS v)]
def HF(w:Bool)(z:List eI)(g:ey)(l:List Pos)(nx:List (List Int))(m:List Int)(part:List Int)(n t:Int)(v:List eI)(b:List Bool)(st:nV):et:=
 H5 w z g l nx m v b ++ [.row 139 0 [tp w],.row 33 0 [dI part],.row 3 0 [.i n],.row 3 0 [.i t],.row 139 0 [tp w],.jA,.fE 4992 [(3,.ptr 5 0 0),(4,.ptr 6 0 0),(5,.ptr 7 0 0),(9,.ptr 8 0 0)] st]
structure qO(g:ey)(l:List Pos)(nx:List (List Int))(part:List Int)(bu:Int):Prop where
 gm:eW g
 ps:∀ p∈l,fo g p
 len:l.length≤4000
 nxl:nx.length=l.length
 MY:∀ i:Int,0≤i→i<l.length→(∀ k∈gt nx i,0≤k∧k<l.length)∧(gt nx i).length≤4000000000
 prt:∀ i∈part,0≤i∧i<l.length
 nd:part.Nodup
 pl:part.length≤4000
 bu:1≤bu∧bu≤9223372036854775807
end Go.Proofs.YtnaefnajkaohgaaGreatDoor
namespace Go.AL
open Go
def FL:Nat→List (Int×List Int)→List (Value×D)
 | _,[]=>[]
 | k,e::r=>(.int .i64 e.1,.eu k (e.2.length-1) 1 0 e.2.length)::FL (k+1) r
def ZC(ls:List (Int×List Int)):et:=ls.map fun e=>.row 3 (e.2.length-1) (cl f1 e.2)
def LH(m:List Int)(ls:List (Int×List Int)):et:=.row 50 0 [dI m] :: .map (.int .i64) (FL 2 ls)::ZC ls
end Go.AL
namespace Go.Proofs.YtnaefnajkaohgaaGreatDoor
open Go Go.AL Classical
noncomputable def Qk(m:List Int)(l:List Pos)(n:Int)(k:Nat):List Int:=(upto k).filter fun i=>decide (ow m (gt l i)=n)
structure GI(m:List Int)(l:List Pos)(i:Int)(ls:List (Int×List Int)):Prop where
 nd:(ls.map (·.1)).Nodup
 mem:∀ n,n∈ls.map (·.1)↔∃ j:Int,0≤j∧j<i∧ow m (gt l j)=n
 prt:∀ e∈ls,e.2=Qk m l e.1 i.toNat
section
variable{m:List Int}{l:List Pos}{i:Int}{ls:List (Int×List Int)}
end
end Go.Proofs.YtnaefnajkaohgaaGreatDoor
namespace Go.Proofs.YtnaefnajkaohgaaGreatDoor
open Go Go.AL Classical
section
variable{g:ey}{l:List Pos}{nx:List (List Int)}{part:List Int}
end
structure Chn(L:Nat)(v:List eI)(b:List Bool):Prop where
 vl:v.length=L
 bl:b.length=L
 n:∀ i:Int,0≤i→i<L→gt b i=false→(gt v i).1≠2→0≤(gt v i).2∧(0<(gt v i).2→∃ j:Int,0≤j∧j<L∧gt b j=false∧(gt v j).1≠2∧(gt v j).2=(gt v i).2-1)
theorem IF(v:List eI)(b:List Bool)(x:List Int):∀ k:Nat,k≤x.length→(jb v b x k).2 = -1∨∃ j∈x,gt b j=false∧(gt v j).1=1∧(gt v j).2=(jb v b x k).2
 | 0,_=>.inl rfl
 | k+1,hk=>by
  have ih:=IF v b x k (by omega)
  have hm:gt x (k:Int)∈x:=eH (by omega) (by omega)
  rw[jb]
  split
  ·rename_i h
   dsimp only
   rcases Int.le_total (jb v b x k).2 (gt v (gt x (k:Int))).2 with h2|h2
   ·rw[Int.max_eq_right h2];exact .inr ⟨_,hm,h.1,h.2,rfl⟩
   ·rw[Int.max_eq_left h2];exact ih
  ·exact ih
section
variable{g:ey}{l:List Pos}{nx:List (List Int)}{part:List Int}{bu:Int}
theorem CN(o:qO g l nx part bu){v:List eI}{b:List Bool}(hb:b.length=l.length){n:Int}:∀ i∈nf g l nx part v b n,0≤i∧i<b.length:=fun i hi=>by rw[hb];exact o.prt i (PC hi)
theorem Y'(o:qO g l nx part bu){v:List eI}{b:List Bool}(hv:v.length=l.length)(hb:b.length=l.length){n:Int}:(rV g l nx part v b n).length=l.length:=by
 unfold rV
 rw[zk _ _ _ (by rw[hv,← hb];exact CN o hb),hv]
theorem Y9(o:qO g l nx part bu){v:List eI}{b:List Bool}(hb:b.length=l.length){n:Int}:(rB g l nx part v b n).length=l.length:=by
 unfold rB
 rw[zk _ _ _ (CN o hb),hb]
theorem KX(o:qO g l nx part bu){v:List eI}{b:List Bool}(hv:v.length=l.length)(hb:b.length=l.length){n j:Int}(j0:0≤j)(j1:j<l.length):gt (rV g l nx part v b n) j=if j∈nf g l nx part v b n then CU g l nx v b n j else gt v j:=
 xY _ _ _ (by rw[hv,← hb];exact CN o hb) j j0 (by omega)
theorem F4(o:qO g l nx part bu){v:List eI}{b:List Bool}(hb:b.length=l.length){n j:Int}(j0:0≤j)(j1:j<l.length):gt (rB g l nx part v b n) j=if j∈nf g l nx part v b n then false else gt b j:=
 xY _ _ _ (CN o hb) j j0 (by omega)
theorem KD(o:qO g l nx part bu){v:List eI}{b:List Bool}(hv:v.length=l.length)(hb:b.length=l.length):((qg part v b).1.length=l.length∧(qg part v b).2.length=l.length) ∧
  ∀ j:Int,0≤j→j<l.length→gt (qg part v b).1 j=(if j∈part∧gt b j=true then(2,0)else gt v j)∧gt (qg part v b).2 j=(if j∈part then false else gt b j):=by
 have hi:∀ i∈part.filter (fun i=>gt b i),0≤i∧i<l.length:=fun i hi=>o.prt i (aT.1 hi).1
 unfold qg
 dsimp only
 refine⟨⟨by rw[zk _ _ _ (by rw[hv];exact hi),hv],by rw[zk _ _ _ (by rw[hb];exact hi),hb]⟩,fun j j0 j1=>?_⟩
 rw[xY _ _ _ (by rw[hv];exact hi) j j0 (by omega),xY _ _ _ (by rw[hb];exact hi) j j0 (by omega)]
 simp only[aT]
 refine⟨trivial,?_⟩
 by_cases h1:j∈part
 ·by_cases h2:gt b j=true
  ·simp[h1,h2]
  ·simp[h1,h2]
 ·simp[h1]
end
section
variable{g:ey}{l:List Pos}{nx:List (List Int)}
end
end Go.Proofs.YtnaefnajkaohgaaGreatDoor
namespace Go.Proofs.YtnaefnajkaohgaaGreatDoor
open Go Go.AL Classical
noncomputable def D9(m:List Int)(l:List Pos)(last:Int):Nat→Int
 | 0 => -1
 | i+1=>if last<ow m (gt l (i:Int))∧(D9 m l last i<0∨ow m (gt l (i:Int))<D9 m l last i)then ow m (gt l (i:Int))else D9 m l last i
@[simp] theorem ag7(m:List Int)(l:List Pos)(last:Int):D9 m l last 0 = -1:=rfl
end Go.Proofs.YtnaefnajkaohgaaGreatDoor
namespace Go.Proofs.YtnaefnajkaohgaaGreatDoor
open Go Go.AL Classical
theorem QB{α:Type}[Inhabited α]{n:Nat}{a:α}{k:Int}(k0:0≤k)(k1:k<n):gt (List.replicate n a) k=a:=by
 unfold gt
 rw[List.getD_eq_getElem?_getD,cV,if_pos (by omega)];rfl
section
variable{g:ey}{l:List Pos}{m:List Int}{n k:Int}
end
end Go.Proofs.YtnaefnajkaohgaaGreatDoor
namespace Go.Proofs.YtnaefnajkaohgaaGreatDoor
open Go Go.AL Classical
set_option maxRecDepth 10000
set_option maxHeartbeats 8000000
def xx(b:Int)(l:List eI):Bool:=l.any fun s=>s.1 == 8&&s.2 == b
def p8(g:ey)(a b:Int):Bool:=(gt g.kinds a).fZ.any (xx b)
structure xj(g:ey)(m:List Int):Prop where
 ok:ka g m
 le:∀ a b:Int,0≤a→a<g.kinds.length→0≤b→b<g.kinds.length→p8 g a b=true→gt m b≤gt m a
theorem JH{α:Type}[Inhabited α](f:α→Bool){l:List α}{i:Int}(i0:0≤i)(hi:i<l.length):(l.take (i+1).toNat).any f=((l.take i.toNat).any f||f (gt l i)):=by
 rw[gj i0 hi,List.any_append];simp
theorem JD{α:Type}[Inhabited α]{f:α→Bool}{l:List α}{i:Int}(i0:0≤i)(hi:i<l.length)(h:f (gt l i)=true):l.any f=true:=List.any_eq_true.2 ⟨_,eH i0 hi,h⟩
theorem KV{α:Type}[Inhabited α]{l l':List α}{n:Int}(h0:0≤n)(h:n<l.length):gt (l++l') n=gt l n:=by
 unfold gt
 rw[List.getD_eq_getElem?_getD,List.getD_eq_getElem?_getD,ag (by omega)]
theorem Ky(g:ey)(hg:eW g)(a b:Int)(ha:0≤a∧a<g.kinds.length):Wf T 62 [dG g,.i a,.i b] [] (Is (.b (p8 g a b))):=by
 have hk:=hg.fZ _ (eH (l:=g.kinds) ha.1 ha.2)
 refine Yg BS ?_
 simp[BS]
 refine eF.e (0:Int) (fun i=>[(1,.i a),(2,.i b),(3,.ptr 0 0 0),(7,.i i)]) (fun i=>[.row 41 0 g.cells]) (fun i=>0≤i∧i≤(gt g.kinds a).fZ.length∧((gt g.kinds a).fZ.take i.toNat).any (xx b)=false) (fun i=>(gt g.kinds a).fZ.length-i.toNat) ?_ ?_
 ·simp
 rintro i ⟨i0,i1,i2⟩
 by_cases hi:i<(gt g.kinds a).fZ.length
 ·have hp:=(hk.2 _ (eH i0 hi)).len
  have hn:=JH (xx b) i0 hi
  have ff:xx b (gt (gt g.kinds a).fZ i)=true→p8 g a b=true:=JD (f:=xx b) i0 hi
  rw[i2,dw]at hn
  simp[hi]
  generalize sR:gt (gt g.kinds a).fZ i=p at *
  (with_reducible repeat' first|refine Xk ?_<;>try simp|refine Xs ?_ ?_<;>intro h<;>(try intro h')<;>(try simp[h])<;>(try omega)|refine Xg ?_|omega)
  refine eF.e (0:Int) (fun j=>[(1,.i a),(2,.i b),(3,.ptr 0 0 0),(7,.i i),(8,ft p),(9,.i j)]) (fun j=>[.row 41 0 g.cells]) (fun j=>0≤j∧j≤p.length∧(p.take j.toNat).any (fun s=>s.1 == 8&&s.2 == b)=false) (fun j=>p.length-j.toNat) ?_ ?_
  ·simp
  rintro j ⟨j0,j1,j2⟩
  by_cases hj:j<p.length
  ·have Gu:=JH (fun s:eI=>s.1 == 8&&s.2 == b) j0 hj
   have RB:=JD (f:=fun s:eI=>s.1 == 8&&s.2 == b) j0 hj
   rw[j2,dw]at Gu
   simp[hj]
   (with_reducible repeat' first|refine Xk ?_<;>try simp|refine Xs ?_ ?_<;>intro h<;>(try intro h')<;>(try simp[h])<;>(try omega)|refine Xg ?_|omega)
   ·rw[ff (RB (by simp[*]))]
   ·refine LJ.e (j+1) ?_
    exact⟨by omega,by omega,by omega,by rw[Gu];simp[*]⟩
   ·refine LJ.e (j+1) ?_
    exact⟨by omega,by omega,by omega,by rw[Gu];simp[*]⟩
  ·rw[iH (by omega)]at j2
   simp[hj]
   (with_reducible repeat' first|refine Xk ?_<;>try simp|refine Xs ?_ ?_<;>intro h<;>(try intro h')<;>(try simp[h])<;>(try omega)|refine Xg ?_|omega)
   refine LJ.e (i+1) ?_
   exact⟨by omega,by omega,by omega,by rw[hn];exact j2⟩
 ·rw[iH (by omega)]at i2
  have:p8 g a b=false:=i2
  simp[hi,this]
  exact ha
theorem FM(g:ey)(hg:eW g)(a:Int)(ha:0≤a∧a<g.kinds.length):Wf T 63 [dG g,.i a] [] (Ey dI fun r=>1≤r.length∧r.length≤g.kinds.length∧a∈r∧∀ c:Int,0≤c→c<g.kinds.length→p8 g a c=true→c∈r):=by
 have hk:=hg.kinds
 have ni:∀ w:List Int,w.Nodup→(∀ y∈w,0≤y∧y<g.kinds.length)→w.length≤g.kinds.length:=fun w h1 h2=>zc _ w h1 h2
 refine Yg BT ?_
 simp[BT]
 refine eF.e ((0,0,[a]):Int×Nat×List Int) (fun y=>[(2,.ptr 0 0 0),(5,.eu 1 y.2.1 1 0 y.2.2.length),(6,.i y.1)]) (fun y=>[.row 41 0 g.cells,.row 3 y.2.1 (cl f1 y.2.2)]) (fun y=>0≤y.1∧y.1≤y.2.2.length∧y.2.2.Nodup∧(∀ z∈y.2.2,0≤z∧z<g.kinds.length)∧(1≤y.2.2.length∧gt y.2.2 0=a)∧(∀ c:Int,0≤c→c<g.kinds.length→0<y.1→p8 g a c=true→c∈y.2.2)) (fun y=>g.kinds.length-y.1.toNat) ?_ ?_
 ·simp;exact⟨by omega,by omega,rfl⟩
 rintro⟨i,gn,w⟩ ⟨i0,i1,i2,i3,i4,i5⟩
 dsimp only at i0 i1 i2 i3 i4 i5 ⊢
 have hw:=ni w i2 i3
 by_cases hi:i<w.length
 ·simp[hi]
  refine eF.e ((0,gn,w):Int×Nat×List Int) (fun y=>[(2,.ptr 0 0 0),(5,.eu 1 y.2.1 1 0 y.2.2.length),(6,.i i),(7,.i y.1)]) (fun y=>[.row 41 0 g.cells,.row 3 y.2.1 (cl f1 y.2.2)]) (fun y=>0≤y.1∧y.1≤g.kinds.length∧y.2.2.Nodup∧(∀ z∈y.2.2,0≤z∧z<g.kinds.length)∧w.length≤y.2.2.length∧gt y.2.2 0=a∧(∀ c:Int,0≤c→c<g.kinds.length→0<i∨c<y.1→p8 g a c=true→c∈y.2.2)) (fun y=>g.kinds.length-y.1.toNat) ?_ ?_
  ·simp;exact⟨i2,i3,i4.2,fun c c0 c1 c2=>i5 c c0 c1 (by omega)⟩
  rintro⟨b,gm,u⟩ ⟨b0,b1,b2,b3,b4,b5,b6⟩
  dsimp only at b0 b1 b2 b3 b4 b5 b6 ⊢
  have hu:=ni u b2 b3
  by_cases hb:b<g.kinds.length
  ·simp[hb]
   refine eF.e ((0,false):Int×Bool) (fun y=>[(2,.ptr 0 0 0),(5,.eu 1 gm 1 0 u.length),(6,.i i),(7,.i b),(8,.b y.2),(9,.i y.1)]) (fun y=>[.row 41 0 g.cells,.row 3 gm (cl f1 u)]) (fun y=>0≤y.1∧y.1≤u.length∧y.2=decide (b∈u.take y.1.toNat)) (fun y=>u.length-y.1.toNat) ?_ ?_
   ·simp
   rintro⟨k,kn⟩ ⟨k0,k1,k2⟩
   dsimp only at k0 k1 k2 ⊢
   by_cases hk:k<u.length
   ·cases kn<;>simp[hk]
    ·(with_reducible repeat' first|refine Xk ?_<;>try simp|refine Xs ?_ ?_<;>intro h<;>(try intro h')<;>(try simp[h])<;>(try omega)|refine Xg ?_|omega)
     refine LJ.e (k+1,decide (gt u k=b)) ?_
     dsimp only
     refine⟨by omega,by omega,by omega,?_⟩
     rw[gj k0 hk]
     simp at k2
     simp[k2,eq_comm]
    ·(with_reducible repeat' first|refine Xk ?_<;>try simp|refine Xs ?_ ?_<;>intro h<;>(try intro h')<;>(try simp[h])<;>(try omega)|refine Xg ?_|omega)
     refine LJ.e (k+1,true) ?_
     dsimp only
     refine⟨by omega,by omega,by omega,?_⟩
     rw[gj k0 hk]
     simp at k2
     simp[k2]
   ·rw[iH (by omega)]at k2
    cases kn<;>simp[hk]
    ·have Gj:b ∉ u:=by simpa using k2
     have vS:=b3 _ (eH (l:=u) i0 (by omega))
     (with_reducible repeat' first|refine Xk ?_<;>try simp|refine Xs ?_ ?_<;>intro h<;>(try intro h')<;>(try simp[h])<;>(try omega)|refine Xg ?_|omega)
     refine Yt (Ky g hg _ b vS) ?_
     simp
     (with_reducible repeat' first|refine Xk ?_<;>try simp|refine Xs ?_ ?_<;>intro h<;>(try intro h')<;>(try simp[h])<;>(try omega)|refine Xg ?_|omega)
     ·refine LJ.e (b+1,gm+1,u ++ [b]) ?_
      dsimp only
      refine⟨by omega,by omega,by omega,cm.2 ⟨b2,by simp,fun y hy z hz e=>?_⟩,fun z hz=>?_,by simp;omega,?_,fun c c0 c1 c2 c3=>?_⟩
      ·rw[List.mem_singleton]at hz;subst hz;subst e;exact Gj hy
      ·rcases List.mem_append.1 hz with hz|hz
       ·exact b3 z hz
       ·rw[List.mem_singleton]at hz;omega
      ·rw[← b5];exact KV (by omega) (by omega)
      ·by_cases e:c=b
       ·subst e;simp
       ·exact aS _ (b6 c c0 c1 (by omega) c3)
     ·refine LJ.e (b+1,gm,u) ?_
      dsimp only
      refine⟨by omega,by omega,by omega,b2,b3,b4,b5,fun c c0 c1 c2 c3=>?_⟩
      by_cases e:0<i∨c<b
      ·exact b6 c c0 c1 e c3
      ·have e1:c=b:=by omega
       have e2:i=0:=by omega
       have K4:p8 g (gt u i) b=false:=by assumption
       rw[e2,b5,← e1,c3]at K4
       cases K4
    ·(with_reducible repeat' first|refine Xk ?_<;>try simp|refine Xs ?_ ?_<;>intro h<;>(try intro h')<;>(try simp[h])<;>(try omega)|refine Xg ?_|omega)
     refine LJ.e (b+1,gm,u) ?_
     dsimp only
     have Gj:b∈u:=by simpa using k2
     refine⟨by omega,by omega,by omega,b2,b3,b4,b5,fun c c0 c1 c2 c3=>?_⟩
     by_cases e:c=b
     ·subst e;exact Gj
     ·exact b6 c c0 c1 (by omega) c3
  ·simp[hb]
   (with_reducible repeat' first|refine Xk ?_<;>try simp|refine Xs ?_ ?_<;>intro h<;>(try intro h')<;>(try simp[h])<;>(try omega)|refine Xg ?_|omega)
   refine LJ.e (i+1,gm,u) ?_
   dsimp only
   exact⟨by omega,by omega,by omega,b2,b3,⟨by omega,b5⟩,fun c c0 c1 _ c3=>b6 c c0 c1 (by omega) c3⟩
 ·simp[hi]
  exact Ey.i w rfl rfl ⟨i4.1,hw,by rw[← i4.2];exact eH (by omega) (by omega),fun c c0 c1 c3=>i5 c c0 c1 (by omega) c3⟩
theorem P6(g:ey)(hg:eW g)(m:List Int)(hm:m.length=g.kinds.length):Wf T 35 [dG g,.agg [dI m]] [] (Ey D.b fun b=>b=true→xj g m):=by
 have hk:=hg.kinds
 refine Yg BG ?_
 simp[BG]
 (with_reducible repeat' first|refine Xk ?_<;>try simp|refine Xs ?_ ?_<;>intro h<;>(try intro h')<;>(try simp[h])<;>(try omega)|refine Xg ?_|omega)
 refine eF.e (0:Int) (fun i=>[(2,.ptr 0 0 0),(3,.ptr 1 0 0),(5,.i i)]) (fun i=>[.row 41 0 g.cells,.row 50 0 [dI m]]) (fun i=>0≤i∧i≤g.kinds.length∧∀ a:Int,0≤a→a<i→(1≤gt m a∧gt m a≤6)∧∀ b:Int,0≤b→b<g.kinds.length→p8 g a b=true→gt m b≤gt m a) (fun i=>g.kinds.length-i.toNat) ?_ ?_
 ·simp;omega
 rintro i ⟨i0,i1,i2⟩
 by_cases hi:i<g.kinds.length
 ·simp[hi]
  (with_reducible repeat' first|refine Xk ?_<;>try simp|refine Xs ?_ ?_<;>intro h<;>(try intro h')<;>(try simp[h])<;>(try omega)|refine Xg ?_|omega)
  ·exact Ey.i false rfl rfl (by simp)
  ·exact Ey.i false rfl rfl (by simp)
  ·refine eF.e (0:Int) (fun j=>[(2,.ptr 0 0 0),(3,.ptr 1 0 0),(5,.i i),(6,.i j)]) (fun j=>[.row 41 0 g.cells,.row 50 0 [dI m]]) (fun j=>0≤j∧j≤g.kinds.length∧∀ b:Int,0≤b→b<j→p8 g i b=true→gt m b≤gt m i) (fun j=>g.kinds.length-j.toNat) ?_ ?_
   ·simp;omega
   rintro j ⟨j0,j1,j2⟩
   by_cases hj:j<g.kinds.length
   ·simp[hj]
    refine Yt (Ky g hg i j ⟨i0,hi⟩) ?_
    simp
    (with_reducible repeat' first|refine Xk ?_<;>try simp|refine Xs ?_ ?_<;>intro h<;>(try intro h')<;>(try simp[h])<;>(try omega)|refine Xg ?_|omega)
    ·exact Ey.i false rfl rfl (by simp)
    ·refine LJ.e (j+1) ?_
     refine⟨by omega,by omega,by omega,fun b b0 b1 b2=>?_⟩
     by_cases e:b=j
     ·subst e;omega
     ·exact j2 b b0 (by omega) b2
    ·refine LJ.e (j+1) ?_
     refine⟨by omega,by omega,by omega,fun b b0 b1 b2=>?_⟩
     by_cases e:b=j
     ·subst e;simp_all
     ·exact j2 b b0 (by omega) b2
   ·simp[hj]
    (with_reducible repeat' first|refine Xk ?_<;>try simp|refine Xs ?_ ?_<;>intro h<;>(try intro h')<;>(try simp[h])<;>(try omega)|refine Xg ?_|omega)
    refine LJ.e (i+1) ?_
    refine⟨by omega,by omega,by omega,fun a a0 a1=>?_⟩
    by_cases e:a=i
    ·subst e;exact⟨by omega,fun b b0 b1 b2=>j2 b b0 (by omega) b2⟩
    ·exact i2 a a0 (by omega)
 ·simp[hi]
  refine Ey.i true rfl rfl fun _=>⟨⟨hm,fun x hx=>?_⟩,fun a b a0 a1 b0 b1 h=>(i2 a a0 (by omega)).2 b b0 b1 h⟩
  obtain⟨n,n0,n1,rfl⟩:=oB.1 hx
  exact(i2 n n0 (by omega)).1
theorem Oc{r:List Int}(h0:(0:Int)∈r)(h1:(1:Int)∈r):2≤r.length:=by
 rcases r with _|⟨a,_|⟨b,r⟩⟩
 ·simp at h0
 ·simp at h0 h1;omega
 ·simp
theorem P7(g:ey)(hg:eW g):Wf T 36 [dG g] [] (Ey (fun r:List Int=>.agg [dI r]) fun r=>xj g r):=by
 have hk:=hg.kinds
 refine Yg BH ?_
 simp[BH]
 rcases(show g.kinds.length=1∨g.kinds.length=2 by omega)with e|e
 ·refine eF.un ?_
  refine gS.u ?_
  simp[e]
  refine Yv (FM g hg 0 (by omega)) fun r hr=>?_
  simp
  refine gS.u ?_
  simp[e]
  obtain⟨h1,h2,h3,h4⟩:=hr
  refine Ey.i [(r.length:Int)] rfl rfl ⟨⟨by simp[e],fun x hx=>?_⟩,fun a b a0 a1 b0 b1 h=>?_⟩
  ·simp at hx;omega
  ·have e1:a=0:=by omega
   have e2:b=0:=by omega
   rw[e1,e2];exact da _
 ·refine eF.un ?_
  refine gS.u ?_
  simp[e]
  refine Yv (FM g hg 0 (by omega)) fun r hr=>?_
  simp
  refine gS.u ?_
  simp[e]
  refine Yv (FM g hg 1 (by omega)) fun r2 Dz=>?_
  simp
  refine gS.u ?_
  simp[e]
  obtain⟨h1,h2,h3,h4⟩:=hr
  obtain⟨k1,k2,k3,k4⟩:=Dz
  refine Ey.i [(r.length:Int),(r2.length:Int)] rfl rfl ⟨⟨by simp[e],fun x hx=>?_⟩,fun a b a0 a1 b0 b1 h=>?_⟩
  ·simp at hx;omega
  ·have g0:gt [(r.length:Int),(r2.length:Int)] 0=r.length:=rfl
   have g1:gt [(r.length:Int),(r2.length:Int)] 1=r2.length:=rfl
   rcases(show a=0∨a=1 by omega)with rfl|rfl<;>rcases(show b=0∨b=1 by omega)with rfl|rfl
   ·exact da _
   ·have:=Oc h3 (h4 1 (by omega) (by omega) h)
    rw[g0,g1];omega
   ·have:=Oc (k4 0 (by omega) (by omega) h) k3
    rw[g0,g1];omega
   ·exact da _
theorem P0(g:ey)(hg:eW g)(a0 a1 a2 a3 a4 a5:Int)(h:∀ n∈[a0,a1,a2,a3,a4,a5],0≤n∧n<256):Wf T 13 [dG g,dW [a0,a1,a2,a3,a4,a5]] [] (Ey (fun r:List Int=>.agg [dI r]) fun r=>xj g r):=by
 refine Yg Ap ?_
 simp[Ap,dW]
 have c:=f34 g hg a0 a1 a2 a3 a4 a5 h
 simp only[dW,List.map]at c
 refine Yq (c) fun m hm=>?_
 simp
 refine Yq (P6 g hg m hm) fun b hb=>?_
 simp
 (with_reducible repeat' first|refine Xk ?_<;>try simp|refine Xs ?_ ?_<;>intro h<;>(try intro h')<;>(try simp[h])<;>(try omega)|refine Xg ?_|omega)
 ·exact Ey.i m rfl rfl (hb (by assumption))
 ·refine Yq (P7 g hg) fun r hr=>?_
  simp
  exact Ey.i r rfl rfl hr
end Go.Proofs.YtnaefnajkaohgaaGreatDoor
namespace Go.Proofs.YtnaefnajkaohgaaGreatDoor
open Go Go.AL Classical
section
variable{g:ey}{l:List Pos}{nx:List (List Int)}{part:List Int}{bu:Int}
structure Agr(L:Nat)(S:Int→Prop)(v:List eI)(b:List Bool)(v':List eI)(b':List Bool):Prop where
 vl:v.length=L
 bl:b.length=L
 vl':v'.length=L
 bl':b'.length=L
 eb:∀ k:Int,0≤k→k<L→S k→gt b k=gt b' k
 ev:∀ k:Int,0≤k→k<L→S k→gt b k=false→gt v k=gt v' k
structure aaI(l:List Pos)(nx:List (List Int))(part:List Int)(S:Int→Prop):Prop where
 own:∀ i∈part,S i
 next:∀ i∈part,∀ k∈gt nx i,S k
def rep(n:Nat):List Bool:=List.replicate n false
end
section
variable{g:ey}{l:List Pos}{m:List Int}
