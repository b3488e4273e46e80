/- Part 18 of TableHurry. -/
import Derived.Test.YtnaefnajkaohgaaGreatDoorG17
set_option linter.all false
namespace Go.Proofs.YtnaefnajkaohgaaGreatDoor
open Go Go.AL Classical
set_option maxRecDepth 100000
set_option maxHeartbeats 1000000
theorem mS{k:Nat}{f:FuncId}{args:List D}{d:D}(h:run T [] k f args []=some [(d,[])]):Wf T f args [] (Is d):=by
 refine Ev.mono (uX (.nil _) h) fun r hr=>?_
 obtain⟨x,hx,hr⟩:=hr
 rw[List.mem_singleton]at hx
 subst hx
 exact⟨_,_,hr,rfl,rfl⟩
def CP:List (List D)→Option (List Int)
 | []=>some []
 | [.val (.int .i64 n)]::r=>match CP r with
  | some l=>some (n::l)
  | none=>none
 | _=>none
def CO:D→Option (List Int)
 | .sl 1 es=>CP es
 | _=>none
def CQ:List (List D)→Option (List (List Int))
 | []=>some []
 | [d]::r=>match CO d,CQ r with
  | some a,some l=>some (a::l)
  | _,_=>none
 | _=>none
theorem Ki:∀ {es:List (List D)} {l:List Int},CP es=some l→es=l.map f1
 | [],l,h=>by cases h;rfl
 | [.val (.int .i64 n)]::r,l,h=>by
  simp only[CP]at h
  split at h
  ·rename_i l' h';cases h;rw[Ki h'];simp
  ·cases h
theorem Kg{d:D}{l:List Int}(h:CO d=some l):d=dI l:=by
 unfold CO at h
 split at h
 ·rw[Ki h];unfold dI;rfl
 ·cases h
theorem Kh:∀ {es:List (List D)} {l:List (List Int)},CQ es=some l→es=l.map fI
 | [],l,h=>by cases h;rfl
 | [d]::r,l,h=>by
  simp only[CQ]at h
  split at h
  ·rename_i a l' h1 h2;cases h;rw[Kh h2,Kg h1];simp
  ·cases h
def wj(a b n:Int):Bool:=decide (a≤n)&&decide (n<b)
def NL(n:Int)(l:List Int):Bool:=decide ((l.length:Int)=n)&&l.all (wj (-1) n)
def EY(tn:List Int):Nat→Bool
 | 0=>true
 | k+1=>wj 0 8 (tn.getD k 0)&&decide (tn.getD (tn.getD k 0).toNat 0=k)&&EY tn k
def Fa(n:Int)(nx:List (List Int))(tn:List Int):Bool:=wj 1 10 n&&decide (nx.length=8)&&nx.all (NL n)&&decide (tn.length=8)&&EY tn 8
theorem Oa{tn:List Int}:∀ {m:Nat},EY tn m=true→∀ d:Int,0≤d→d<m→0≤gt tn d∧gt tn d<8∧gt tn (gt tn d)=d
 | 0,_,d,h0,h1=>by omega
 | m+1,h,d,h0,h1=>by
  simp only[EY,wj,ah,decide_eq_true_eq]at h
  by_cases e:d=m
  ·subst e
   have e2:gt tn (m:Int)=tn.getD m 0:=by unfold gt;rfl
   rw[e2]
   refine⟨h.1.1.1,h.1.1.2,?_⟩
   have:=h.1.2
   simpa[gt]using this
  ·exact Oa h.2 d h0 (by omega)
theorem OP{n:Int}{nx:List (List Int)}{tn:List Int}(h:Fa n nx tn=true):kT (uJ n nx tn):=by
 simp only[Fa,wj,ah,decide_eq_true_eq]at h
 obtain⟨⟨⟨⟨h1,h2⟩,h3⟩,h4⟩,h5⟩:=h
 refine⟨⟨h1.1,by show n≤9;omega⟩,h2,fun l hl=>?_,h4,fun d a b=>Oa h5 d a (by omega)⟩
 have:=ao.1 h3 l hl
 simp only[NL,wj,ah,decide_eq_true_eq,ao]at this
 exact⟨this.1,this.2⟩
def ph(a b:Int):Bool:=match run T [] 40 149 [.i a,.i b] []with
 | some [(.tup [.agg [.val (.int .i64 n),.sl 1 es,d],.val (.int .i64 e)],[])]=>match CQ es,CO d with
  | some nx,some tn=>Fa n nx tn&&decide (e=0)
  | _,_=>false
 | _=>false
theorem q5{a b:Int}(h:ph a b=true):∃ n nx tn,Wf T 149 [.i a,.i b] [] (Is (.tup [bD n nx tn,.i 0]))∧kT (uJ n nx tn):=by
 unfold ph at h
 split at h
 ·rename_i n es d e hr
  split at h
  ·rename_i nx tn h1 h2
   simp only[ah,decide_eq_true_eq]at h
   refine⟨n,nx,tn,?_,OP h.1⟩
   have:=mS hr
   rw[Kh h1,Kg h2,h.2]at this
   exact this
  ·cases h
 ·cases h
theorem g11:ph 1 1=true:=by kernel_rfl
theorem g12:ph 1 2=true:=by kernel_rfl
theorem g13:ph 1 3=true:=by kernel_rfl
theorem g21:ph 2 1=true:=by kernel_rfl
theorem g22:ph 2 2=true:=by kernel_rfl
theorem g23:ph 2 3=true:=by kernel_rfl
theorem Qv:ph 3 1=true:=by kernel_rfl
theorem Qw:ph 3 2=true:=by kernel_rfl
theorem Qx:ph 3 3=true:=by kernel_rfl
theorem f149(a b:Int)(ha:1≤a∧a≤3)(hb:1≤b∧b≤3):∃ n nx tn,Wf T 149 [.i a,.i b] [] (Is (.tup [bD n nx tn,.i 0]))∧kT (uJ n nx tn):=by
 rcases(show a=1∨a=2∨a=3 by omega)with rfl|rfl|rfl<;>rcases(show b=1∨b=2∨b=3 by omega)with rfl|rfl|rfl
 ·exact q5 g11
 ·exact q5 g12
 ·exact q5 g13
 ·exact q5 g21
 ·exact q5 g22
 ·exact q5 g23
 ·exact q5 Qv
 ·exact q5 Qw
 ·exact q5 Qx
