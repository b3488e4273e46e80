/- Part 16 of the proof of skewer.skewerlaw15.TableValues. -/
import Derived.Test.YtnaefnajkaohgaaGreatDoorE15
set_option linter.all false
namespace Go.Proofs.YtnaefnajkaohgaaGreatDoor
open Go Go.AL Classical
set_option maxRecDepth 100000
set_option maxHeartbeats 1000000
theorem oz{k:Nat}{f:FuncId}{args:List D}{d:D}(h:run T [] k f args []=some [(d,[])]):Wf T f args [] (Is d):=by
 refine Ev.mono (wS (.nil _) h) fun r hr=>?_
 obtain⟨x,hx,hr⟩:=hr
 rw[List.mem_singleton]at hx
 subst hx
 exact⟨_,_,hr,rfl,rfl⟩
def EW:List (List D)→Option (List Int)
 | []=>some []
 | [.val (.int .i64 n)]::r=>match EW r with
  | some l=>some (n::l)
  | none=>none
 | _=>none
def EV:D→Option (List Int)
 | .sl 1 es=>EW es
 | _=>none
def EX:List (List D)→Option (List (List Int))
 | []=>some []
 | [d]::r=>match EV d,EX r with
  | some a,some l=>some (a::l)
  | _,_=>none
 | _=>none
theorem MW:∀ {es:List (List D)} {l:List Int},EW es=some l→es=l.map f1
 | [],l,h=>by cases h;rfl
 | [.val (.int .i64 n)]::r,l,h=>by
  simp only[EW]at h
  split at h
  ·rename_i l' h';cases h;rw[MW h'];simp
  ·cases h
theorem MU{d:D}{l:List Int}(h:EV d=some l):d=dI l:=by
 unfold EV at h
 split at h
 ·rw[MW h];unfold dI;rfl
 ·cases h
theorem MV:∀ {es:List (List D)} {l:List (List Int)},EX es=some l→es=l.map fI
 | [],l,h=>by cases h;rfl
 | [d]::r,l,h=>by
  simp only[EX]at h
  split at h
  ·rename_i a l' h1 h2;cases h;rw[MV h2,MU h1];simp
  ·cases h
def yh(a b n:Int):Bool:=decide (a≤n)&&decide (n<b)
def QO(n:Int)(l:List Int):Bool:=decide ((l.length:Int)=n)&&l.all (yh (-1) n)
def Ht(tn:List Int):Nat→Bool
 | 0=>true
 | k+1=>yh 0 8 (tn.getD k 0)&&decide (tn.getD (tn.getD k 0).toNat 0=k)&&Ht tn k
def HI(n:Int)(nx:List (List Int))(tn:List Int):Bool:=yh 1 10 n&&decide (nx.length=8)&&nx.all (QO n)&&decide (tn.length=8)&&Ht tn 8
theorem Rm{tn:List Int}:∀ {m:Nat},Ht tn m=true→∀ d:Int,0≤d→d<m→0≤gt tn d∧gt tn d<8∧gt tn (gt tn d)=d
 | 0,_,d,h0,h1=>by omega
 | m+1,h,d,h0,h1=>by
  simp only[Ht,yh,ah,decide_eq_true_eq]at h
  by_cases e:d=m
  ·subst e
   have e2:gt tn (m:Int)=tn.getD m 0:=by unfold gt;rfl
   rw[e2]
   refine⟨h.1.1.1,h.1.1.2,?_⟩
   have:=h.1.2
   simpa[gt]using this
  ·exact Rm h.2 d h0 (by omega)
theorem Sa{n:Int}{nx:List (List Int)}{tn:List Int}(h:HI n nx tn=true):l7 (wC n nx tn):=by
 simp only[HI,yh,ah,decide_eq_true_eq]at h
 obtain⟨⟨⟨⟨h1,h2⟩,h3⟩,h4⟩,h5⟩:=h
 refine⟨⟨h1.1,by show n≤9;omega⟩,h2,fun l hl=>?_,h4,fun d a b=>Rm h5 d a (by omega)⟩
 have:=ar.1 h3 l hl
 simp only[QO,yh,ah,decide_eq_true_eq,ar]at this
 exact⟨this.1,this.2⟩
def qA(a b:Int):Bool:=match run T [] 40 149 [.i a,.i b] []with
 | some [(.tup [.agg [.val (.int .i64 n),.sl 1 es,d],.val (.int .i64 e)],[])]=>match EX es,EV d with
  | some nx,some tn=>HI n nx tn&&decide (e=0)
  | _,_=>false
 | _=>false
theorem sF{a b:Int}(h:qA a b=true):∃ n nx tn,Wf T 149 [.i a,.i b] [] (Is (.tup [bD n nx tn,.i 0]))∧l7 (wC n nx tn):=by
 unfold qA at h
 split at h
 ·rename_i n es d e hr
  split at h
  ·rename_i nx tn h1 h2
   simp only[ah,decide_eq_true_eq]at h
   refine⟨n,nx,tn,?_,Sa h.1⟩
   have:=oz hr
   rw[MV h1,MU h2,h.2]at this
   exact this
  ·cases h
 ·cases h
theorem g11:qA 1 1=true:=by kernel_rfl
theorem g12:qA 1 2=true:=by kernel_rfl
theorem g13:qA 1 3=true:=by kernel_rfl
theorem g21:qA 2 1=true:=by kernel_rfl
theorem g22:qA 2 2=true:=by kernel_rfl
theorem g23:qA 2 3=true:=by kernel_rfl
theorem Uc:qA 3 1=true:=by kernel_rfl
theorem Ud:qA 3 2=true:=by kernel_rfl
theorem Ue:qA 3 3=true:=by kernel_rfl
theorem f149(a b:Int)(ha:1≤a∧a≤3)(hb:1≤b∧b≤3):∃ n nx tn,Wf T 149 [.i a,.i b] [] (Is (.tup [bD n nx tn,.i 0]))∧l7 (wC n nx tn):=by
 rcases(show a=1∨a=2∨a=3 by omega)with rfl|rfl|rfl<;>rcases(show b=1∨b=2∨b=3 by omega)with rfl|rfl|rfl
 ·exact sF g11
 ·exact sF g12
 ·exact sF g13
 ·exact sF g21
 ·exact sF g22
 ·exact sF g23
 ·exact sF Uc
 ·exact sF Ud
 ·exact sF Ue
