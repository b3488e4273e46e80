/- Part 17 of the proof of skewer.skewerlaw15.TableAgain. -/
import Derived.Test.YtnaefnajkaohgaaGreatDoorD16
set_option linter.all false
namespace Go.Proofs.YtnaefnajkaohgaaGreatDoor
open Go Go.AL Classical
set_option maxRecDepth 100000
set_option maxHeartbeats 1000000
theorem nY{k:Nat}{f:FuncId}{args:List D}{d:D}(h:run T [] k f args []=some [(d,[])]):Wf T f args [] (Is d):=by
 refine Ev.mono (v7 (.nil _) h) fun r hr=>?_
 obtain⟨x,hx,hr⟩:=hr
 rw[List.mem_singleton]at hx
 subst hx
 exact⟨_,_,hr,rfl,rfl⟩
def D3:List (List D)→Option (List Int)
 | []=>some []
 | [.val (.int .i64 n)]::r=>match D3 r with
  | some l=>some (n::l)
  | none=>none
 | _=>none
def D2:D→Option (List Int)
 | .sl 1 es=>D3 es
 | _=>none
def D4:List (List D)→Option (List (List Int))
 | []=>some []
 | [d]::r=>match D2 d,D4 r with
  | some a,some l=>some (a::l)
  | _,_=>none
 | _=>none
theorem Mo:∀ {es:List (List D)} {l:List Int},D3 es=some l→es=l.map f1
 | [],l,h=>by cases h;rfl
 | [.val (.int .i64 n)]::r,l,h=>by
  simp only[D3]at h
  split at h
  ·rename_i l' h';cases h;rw[Mo h'];simp
  ·cases h
theorem Mm{d:D}{l:List Int}(h:D2 d=some l):d=dI l:=by
 unfold D2 at h
 split at h
 ·rw[Mo h];unfold dI;rfl
 ·cases h
theorem Mn:∀ {es:List (List D)} {l:List (List Int)},D4 es=some l→es=l.map fI
 | [],l,h=>by cases h;rfl
 | [d]::r,l,h=>by
  simp only[D4]at h
  split at h
  ·rename_i a l' h1 h2;cases h;rw[Mn h2,Mm h1];simp
  ·cases h
def xy(a b n:Int):Bool:=decide (a≤n)&&decide (n<b)
def P4(n:Int)(l:List Int):Bool:=decide ((l.length:Int)=n)&&l.all (xy (-1) n)
def GC(tn:List Int):Nat→Bool
 | 0=>true
 | k+1=>xy 0 8 (tn.getD k 0)&&decide (tn.getD (tn.getD k 0).toNat 0=k)&&GC tn k
def GX(n:Int)(nx:List (List Int))(tn:List Int):Bool:=xy 1 10 n&&decide (nx.length=8)&&nx.all (P4 n)&&decide (tn.length=8)&&GC tn 8
theorem Qz{tn:List Int}:∀ {m:Nat},GC tn m=true→∀ d:Int,0≤d→d<m→0≤gt tn d∧gt tn d<8∧gt tn (gt tn d)=d
 | 0,_,d,h0,h1=>by omega
 | m+1,h,d,h0,h1=>by
  simp only[GC,xy,ah,decide_eq_true_eq]at h
  by_cases e:d=m
  ·subst e
   have e2:gt tn (m:Int)=tn.getD m 0:=by unfold gt;rfl
   rw[e2]
   refine⟨h.1.1.1,h.1.1.2,?_⟩
   have:=h.1.2
   simpa[gt]using this
  ·exact Qz h.2 d h0 (by omega)
theorem Rg{n:Int}{nx:List (List Int)}{tn:List Int}(h:GX n nx tn=true):lE (vK n nx tn):=by
 simp only[GX,xy,ah,decide_eq_true_eq]at h
 obtain⟨⟨⟨⟨h1,h2⟩,h3⟩,h4⟩,h5⟩:=h
 refine⟨⟨h1.1,by show n≤9;omega⟩,h2,fun l hl=>?_,h4,fun d a b=>Qz h5 d a (by omega)⟩
 have:=ao.1 h3 l hl
 simp only[P4,xy,ah,decide_eq_true_eq,ao]at this
 exact⟨this.1,this.2⟩
def p9(a b:Int):Bool:=match run T [] 40 149 [.i a,.i b] []with
 | some [(.tup [.agg [.val (.int .i64 n),.sl 1 es,d],.val (.int .i64 e)],[])]=>match D4 es,D2 d with
  | some nx,some tn=>GX n nx tn&&decide (e=0)
  | _,_=>false
 | _=>false
theorem rX{a b:Int}(h:p9 a b=true):∃ n nx tn,Wf T 149 [.i a,.i b] [] (Is (.tup [bD n nx tn,.i 0]))∧lE (vK n nx tn):=by
 unfold p9 at h
 split at h
 ·rename_i n es d e hr
  split at h
  ·rename_i nx tn h1 h2
   simp only[ah,decide_eq_true_eq]at h
   refine⟨n,nx,tn,?_,Rg h.1⟩
   have:=nY hr
   rw[Mn h1,Mm h2,h.2]at this
   exact this
  ·cases h
 ·cases h
theorem g11:p9 1 1=true:=by kernel_rfl
theorem g12:p9 1 2=true:=by kernel_rfl
theorem g13:p9 1 3=true:=by kernel_rfl
theorem g21:p9 2 1=true:=by kernel_rfl
theorem g22:p9 2 2=true:=by kernel_rfl
theorem g23:p9 2 3=true:=by kernel_rfl
theorem S7:p9 3 1=true:=by kernel_rfl
theorem S8:p9 3 2=true:=by kernel_rfl
theorem S9:p9 3 3=true:=by kernel_rfl
theorem f149(a b:Int)(ha:1≤a∧a≤3)(hb:1≤b∧b≤3):∃ n nx tn,Wf T 149 [.i a,.i b] [] (Is (.tup [bD n nx tn,.i 0]))∧lE (vK n nx tn):=by
 rcases(show a=1∨a=2∨a=3 by omega)with rfl|rfl|rfl<;>rcases(show b=1∨b=2∨b=3 by omega)with rfl|rfl|rfl
 ·exact rX g11
 ·exact rX g12
 ·exact rX g13
 ·exact rX g21
 ·exact rX g22
 ·exact rX g23
 ·exact rX S7
 ·exact rX S8
 ·exact rX S9
