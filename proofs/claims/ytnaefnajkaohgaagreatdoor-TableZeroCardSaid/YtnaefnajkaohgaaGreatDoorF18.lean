/- Part 18 of the proof of skewer.skewerlaw15.TableZero. -/
import Derived.Test.YtnaefnajkaohgaaGreatDoorF17
set_option linter.all false
namespace Go.Proofs.YtnaefnajkaohgaaGreatDoor
open Go Go.AL Classical
set_option maxRecDepth 100000
set_option maxHeartbeats 1000000
theorem mO{k:Nat}{f:FuncId}{args:List D}{d:D}(h:run T [] k f args []=some [(d,[])]):Wf T f args [] (Is d):=by
 refine Ev.mono (uM (.nil _) h) fun r hr=>?_
 obtain⟨x,hx,hr⟩:=hr
 rw[List.mem_singleton]at hx
 subst hx
 exact⟨_,_,hr,rfl,rfl⟩
def CD:List (List D)→Option (List Int)
 | []=>some []
 | [.val (.int .i64 n)]::r=>match CD r with
  | some l=>some (n::l)
  | none=>none
 | _=>none
def CB:D→Option (List Int)
 | .sl 1 es=>CD es
 | _=>none
def CE:List (List D)→Option (List (List Int))
 | []=>some []
 | [d]::r=>match CB d,CE r with
  | some a,some l=>some (a::l)
  | _,_=>none
 | _=>none
theorem J3:∀ {es:List (List D)} {l:List Int},CD es=some l→es=l.map f1
 | [],l,h=>by cases h;rfl
 | [.val (.int .i64 n)]::r,l,h=>by
  simp only[CD]at h
  split at h
  ·rename_i l' h';cases h;rw[J3 h'];simp
  ·cases h
theorem J1{d:D}{l:List Int}(h:CB d=some l):d=dI l:=by
 unfold CB at h
 split at h
 ·rw[J3 h];unfold dI;rfl
 ·cases h
theorem J2:∀ {es:List (List D)} {l:List (List Int)},CE es=some l→es=l.map fI
 | [],l,h=>by cases h;rfl
 | [d]::r,l,h=>by
  simp only[CE]at h
  split at h
  ·rename_i a l' h1 h2;cases h;rw[J2 h2,J1 h1];simp
  ·cases h
def vU(a b n:Int):Bool:=decide (a≤n)&&decide (n<b)
def Nq(n:Int)(l:List Int):Bool:=decide ((l.length:Int)=n)&&l.all (vU (-1) n)
def EM(tn:List Int):Nat→Bool
 | 0=>true
 | k+1=>vU 0 8 (tn.getD k 0)&&decide (tn.getD (tn.getD k 0).toNat 0=k)&&EM tn k
def EY(n:Int)(nx:List (List Int))(tn:List Int):Bool:=vU 1 10 n&&decide (nx.length=8)&&nx.all (Nq n)&&decide (tn.length=8)&&EM tn 8
theorem NQ{tn:List Int}:∀ {m:Nat},EM tn m=true→∀ d:Int,0≤d→d<m→0≤gt tn d∧gt tn d<8∧gt tn (gt tn d)=d
 | 0,_,d,h0,h1=>by omega
 | m+1,h,d,h0,h1=>by
  simp only[EM,vU,ah,decide_eq_true_eq]at h
  by_cases e:d=m
  ·subst e
   have e2:gt tn (m:Int)=tn.getD m 0:=by unfold gt;rfl
   rw[e2]
   refine⟨h.1.1.1,h.1.1.2,?_⟩
   have:=h.1.2
   simpa[gt]using this
  ·exact NQ h.2 d h0 (by omega)
theorem Oq{n:Int}{nx:List (List Int)}{tn:List Int}(h:EY n nx tn=true):kN (uu n nx tn):=by
 simp only[EY,vU,ah,decide_eq_true_eq]at h
 obtain⟨⟨⟨⟨h1,h2⟩,h3⟩,h4⟩,h5⟩:=h
 refine⟨⟨h1.1,by show n≤9;omega⟩,h2,fun l hl=>?_,h4,fun d a b=>NQ h5 d a (by omega)⟩
 have:=ao.1 h3 l hl
 simp only[Nq,vU,ah,decide_eq_true_eq,ao]at this
 exact⟨this.1,this.2⟩
def o6(a b:Int):Bool:=match run T [] 40 149 [.i a,.i b] []with
 | some [(.tup [.agg [.val (.int .i64 n),.sl 1 es,d],.val (.int .i64 e)],[])]=>match CE es,CB d with
  | some nx,some tn=>EY n nx tn&&decide (e=0)
  | _,_=>false
 | _=>false
theorem qQ{a b:Int}(h:o6 a b=true):∃ n nx tn,Wf T 149 [.i a,.i b] [] (Is (.tup [bD n nx tn,.i 0]))∧kN (uu n nx tn):=by
 unfold o6 at h
 split at h
 ·rename_i n es d e hr
  split at h
  ·rename_i nx tn h1 h2
   simp only[ah,decide_eq_true_eq]at h
   refine⟨n,nx,tn,?_,Oq h.1⟩
   have:=mO hr
   rw[J2 h1,J1 h2,h.2]at this
   exact this
  ·cases h
 ·cases h
theorem g11:o6 1 1=true:=by kernel_rfl
theorem g12:o6 1 2=true:=by kernel_rfl
theorem g13:o6 1 3=true:=by kernel_rfl
theorem g21:o6 2 1=true:=by kernel_rfl
theorem g22:o6 2 2=true:=by kernel_rfl
theorem g23:o6 2 3=true:=by kernel_rfl
theorem Qa:o6 3 1=true:=by kernel_rfl
theorem Qb:o6 3 2=true:=by kernel_rfl
theorem Qc:o6 3 3=true:=by kernel_rfl
theorem f149(a b:Int)(ha:1≤a∧a≤3)(hb:1≤b∧b≤3):∃ n nx tn,Wf T 149 [.i a,.i b] [] (Is (.tup [bD n nx tn,.i 0]))∧kN (uu n nx tn):=by
 rcases(show a=1∨a=2∨a=3 by omega)with rfl|rfl|rfl<;>rcases(show b=1∨b=2∨b=3 by omega)with rfl|rfl|rfl
 ·exact qQ g11
 ·exact qQ g12
 ·exact qQ g13
 ·exact qQ g21
 ·exact qQ g22
 ·exact qQ g23
 ·exact qQ Qa
 ·exact qQ Qb
 ·exact qQ Qc
