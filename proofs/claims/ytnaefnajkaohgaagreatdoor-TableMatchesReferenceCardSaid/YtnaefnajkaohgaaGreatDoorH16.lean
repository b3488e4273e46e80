/- 16 -/
import Derived.Test.YtnaefnajkaohgaaGreatDoorH15
set_option linter.all false
namespace Go.Proofs.YtnaefnajkaohgaaGreatDoor
open Go Go.AL Classical
set_option maxRecDepth 100000
set_option maxHeartbeats 1000000
def pM{k:Nat}{f:FuncId}{args:List D}{d:D}(h:run T [] k f args []=some [(d,[])]):Wf T f args [] (Is d):=by
 refine Ev.mono (yv (.nil _) h) fun r hr=>?_
 obtain⟨x,hx,hr⟩:=hr
 rw[List.mem_singleton]at hx
 subst hx
 exact⟨_,_,hr,rfl,rfl⟩
def G3:List (List D)→Option (List Int)
 | []=>some []
 | [.val (.int .i64 n)]::r=>match G3 r with
  | some l=>some (n::l)
  | none=>none
 | _=>none
def G2:D→Option (List Int)
 | .sl 1 es=>G3 es
 | _=>none
def G4:List (List D)→Option (List (List Int))
 | []=>some []
 | [d]::r=>match G2 d,G4 r with
  | some a,some l=>some (a::l)
  | _,_=>none
 | _=>none
theorem ON:∀ {es:List (List D)} {l:List Int},G3 es=some l→es=l.map f1
 | [],l,h=>by cases h;rfl
 | [.val (.int .i64 n)]::r,l,h=>by
  simp only[G3]at h
  split at h
  ·rename_i l' h';cases h;rw[ON h'];simp
  ·cases h
def OL{d:D}{l:List Int}(h:G2 d=some l):d=dI l:=by
 unfold G2 at h
 split at h
 ·rw[ON h];unfold dI;rfl
 ·cases h
theorem OM:∀ {es:List (List D)} {l:List (List Int)},G4 es=some l→es=l.map fI
 | [],l,h=>by cases h;rfl
 | [d]::r,l,h=>by
  simp only[G4]at h
  split at h
  ·rename_i a l' h1 h2;cases h;rw[OM h2,OL h1];simp
  ·cases h
def zW(a b n:Int):Bool:=decide (a≤n)&&decide (n<b)
def SI(n:Int)(l:List Int):Bool:=decide ((l.length:Int)=n)&&l.all (zW (-1) n)
def Jw(tn:List Int):Nat→Bool
 | 0=>true
 | k+1=>zW 0 8 (tn.getD k 0)&&decide (tn.getD (tn.getD k 0).toNat 0=k)&&Jw tn k
def JJ(n:Int)(nx:List (List Int))(tn:List Int):Bool:=zW 1 10 n&&decide (nx.length=8)&&nx.all (SI n)&&decide (tn.length=8)&&Jw tn 8
theorem Tf{tn:List Int}:∀ {m:Nat},Jw tn m=true→∀ d:Int,0≤d→d<m→0≤gt tn d∧gt tn d<8∧gt tn (gt tn d)=d
 | 0,_,d,h0,h1=>by omega
 | m+1,h,d,h0,h1=>by
  simp only[Jw,zW,ah,decide_eq_true_eq]at h
  by_cases e:d=m
  ·subst e
   have e2:gt tn (m:Int)=tn.getD m 0:=by unfold gt;rfl
   rw[e2]
   refine⟨h.1.1.1,h.1.1.2,?_⟩
   have:=h.1.2
   simpa[gt]using this
  ·exact Tf h.2 d h0 (by omega)
def T6{n:Int}{nx:List (List Int)}{tn:List Int}(h:JJ n nx tn=true):mX (x8 n nx tn):=by
 simp only[JJ,zW,ah,decide_eq_true_eq]at h
 obtain⟨⟨⟨⟨h1,h2⟩,h3⟩,h4⟩,h5⟩:=h
 refine⟨⟨h1.1,by show n≤9;omega⟩,h2,fun l hl=>?_,h4,fun d a b=>Tf h5 d a (by omega)⟩
 have:=aq.1 h3 l hl
 simp only[SI,zW,ah,decide_eq_true_eq,aq]at this
 exact⟨this.1,this.2⟩
def sg(a b:Int):Bool:=match run T [] 40 149 [.i a,.i b] []with
 | some [(.tup [.agg [.val (.int .i64 n),.sl 1 es,d],.val (.int .i64 e)],[])]=>match G4 es,G2 d with
  | some nx,some tn=>JJ n nx tn&&decide (e=0)
  | _,_=>false
 | _=>false
def uv{a b:Int}(h:sg a b=true):∃ n nx tn,Wf T 149 [.i a,.i b] [] (Is (.tup [bD n nx tn,.i 0]))∧mX (x8 n nx tn):=by
 unfold sg at h
 split at h
 ·rename_i n es d e hr
  split at h
  ·rename_i nx tn h1 h2
   simp only[ah,decide_eq_true_eq]at h
   refine⟨n,nx,tn,?_,T6 h.1⟩
   have:=pM hr
   rw[OM h1,OL h2,h.2]at this
   exact this
  ·cases h
 ·cases h
def g11:sg 1 1=true:=by kernel_rfl
def g12:sg 1 2=true:=by kernel_rfl
def g13:sg 1 3=true:=by kernel_rfl
def g21:sg 2 1=true:=by kernel_rfl
def g22:sg 2 2=true:=by kernel_rfl
def g23:sg 2 3=true:=by kernel_rfl
def Wj:sg 3 1=true:=by kernel_rfl
def Wk:sg 3 2=true:=by kernel_rfl
def Wl:sg 3 3=true:=by kernel_rfl
def f149(a b:Int)(ha:1≤a∧a≤3)(hb:1≤b∧b≤3):∃ n nx tn,Wf T 149 [.i a,.i b] [] (Is (.tup [bD n nx tn,.i 0]))∧mX (x8 n nx tn):=by
 rcases(show a=1∨a=2∨a=3 by omega)with rfl|rfl|rfl<;>rcases(show b=1∨b=2∨b=3 by omega)with rfl|rfl|rfl
 ·exact uv g11
 ·exact uv g12
 ·exact uv g13
 ·exact uv g21
 ·exact uv g22
 ·exact uv g23
 ·exact uv Wj
 ·exact uv Wk
 ·exact uv Wl
