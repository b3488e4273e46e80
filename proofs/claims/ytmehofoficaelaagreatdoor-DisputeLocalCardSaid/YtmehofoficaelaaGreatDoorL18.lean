/- Part 18 of DisputeLocal. -/
import Derived.Test.YtmehofoficaelaaGreatDoorL17
set_option linter.all false
namespace Go.Proofs.YtmehofoficaelaaGreatDoor
open Go Go.AL Classical
set_option maxRecDepth 100000
set_option maxHeartbeats 1000000
def nV{k:Nat}{f:FuncId}{args:List D}{d:D}(h:run T [] k f args []=some [(d,[])]):Wf T f args [] (Is d):=by
 refine Ev.mono (oK (.nil _) h) fun r hr=>?_
 obtain⟨x,hx,hr⟩:=hr
 rw[List.mem_singleton]at hx
 subst hx
 exact⟨_,_,hr,rfl,rfl⟩
def GR:List (List D)→Option (List Int)
 | []=>some []
 | [.val (.int .i64 n)]::r=>match GR r with
  | some l=>some (n::l)
  | none=>none
 | _=>none
def GQ:D→Option (List Int)
 | .sl 1 es=>GR es
 | _=>none
def GU:List (List D)→Option (List (List Int))
 | []=>some []
 | [d]::r=>match GQ d,GU r with
  | some a,some l=>some (a::l)
  | _,_=>none
 | _=>none
theorem Pd:∀ {es:List (List D)} {l:List Int},GR es=some l→es=l.map f1
 | [],l,h=>by cases h;rfl
 | [.val (.int .i64 n)]::r,l,h=>by
  simp only[GR]at h
  split at h
  ·rename_i l' h';cases h;rw[Pd h'];simp
  ·cases h
def Pb{d:D}{l:List Int}(h:GQ d=some l):d=dI l:=by
 unfold GQ at h
 split at h
 ·rw[Pd h];unfold dI;rfl
 ·cases h
theorem Pc:∀ {es:List (List D)} {l:List (List Int)},GU es=some l→es=l.map fI
 | [],l,h=>by cases h;rfl
 | [d]::r,l,h=>by
  simp only[GU]at h
  split at h
  ·rename_i a l' h1 h2;cases h;rw[Pc h2,Pb h1];simp
  ·cases h
def zX(a b n:Int):Bool:=decide (a≤n)&&decide (n<b)
def S7(n:Int)(l:List Int):Bool:=decide ((l.length:Int)=n)&&l.all (zX (-1) n)
def I'(tn:List Int):Nat→Bool
 | 0=>true
 | k+1=>zX 0 8 (tn.getD k 0)&&decide (tn.getD (tn.getD k 0).toNat 0=k)&&I' tn k
def Jv(n:Int)(nx:List (List Int))(tn:List Int):Bool:=zX 1 10 n&&decide (nx.length=8)&&nx.all (S7 n)&&decide (tn.length=8)&&I' tn 8
theorem TB{tn:List Int}:∀ {m:Nat},I' tn m=true→∀ d:Int,0≤d→d<m→0≤gt tn d∧gt tn d<8∧gt tn (gt tn d)=d
 | 0,_,d,h0,h1=>by omega
 | m+1,h,d,h0,h1=>by
  simp only[I',zX,ah,decide_eq_true_eq]at h
  by_cases e:d=m
  ·subst e
   have e2:gt tn (m:Int)=tn.getD m 0:=by unfold gt;rfl
   rw[e2]
   refine⟨h.1.1.1,h.1.1.2,?_⟩
   have:=h.1.2
   simpa[gt]using this
  ·exact TB h.2 d h0 (by omega)
def Uw{n:Int}{nx:List (List Int)}{tn:List Int}(h:Jv n nx tn=true):mY (ya n nx tn):=by
 simp only[Jv,zX,ah,decide_eq_true_eq]at h
 obtain⟨⟨⟨⟨h1,h2⟩,h3⟩,h4⟩,h5⟩:=h
 refine⟨⟨h1.1,by show n≤9;omega⟩,h2,fun l hl=>?_,h4,fun d a b=>TB h5 d a (by omega)⟩
 have:=ar.1 h3 l hl
 simp only[S7,zX,ah,decide_eq_true_eq,ar]at this
 exact⟨this.1,this.2⟩
def rN(a b:Int):Bool:=match run T [] 40 225 [.i a,.i b] []with
 | some [(.tup [.agg [.val (.int .i64 n),.sl 1 es,d],.val (.int .i64 e)],[])]=>match GU es,GQ d with
  | some nx,some tn=>Jv n nx tn&&decide (e=0)
  | _,_=>false
 | _=>false
def tV{a b:Int}(h:rN a b=true):∃ n nx tn,Wf T 225 [.i a,.i b] [] (Is (.tup [bD n nx tn,.i 0]))∧mY (ya n nx tn):=by
 unfold rN at h
 split at h
 ·rename_i n es d e hr
  split at h
  ·rename_i nx tn h1 h2
   simp only[ah,decide_eq_true_eq]at h
   refine⟨n,nx,tn,?_,Uw h.1⟩
   have:=nV hr
   rw[Pc h1,Pb h2,h.2]at this
   exact this
  ·cases h
 ·cases h
def g11:rN 1 1=true:=by kernel_rfl
def g12:rN 1 2=true:=by kernel_rfl
def g13:rN 1 3=true:=by kernel_rfl
def g21:rN 2 1=true:=by kernel_rfl
def g22:rN 2 2=true:=by kernel_rfl
def g23:rN 2 3=true:=by kernel_rfl
def WN:rN 3 1=true:=by kernel_rfl
def WO:rN 3 2=true:=by kernel_rfl
def WQ:rN 3 3=true:=by kernel_rfl
def f149(a b:Int)(ha:1≤a∧a≤3)(hb:1≤b∧b≤3):∃ n nx tn,Wf T 225 [.i a,.i b] [] (Is (.tup [bD n nx tn,.i 0]))∧mY (ya n nx tn):=by
 rcases(show a=1∨a=2∨a=3 by omega)with rfl|rfl|rfl<;>rcases(show b=1∨b=2∨b=3 by omega)with rfl|rfl|rfl
 ·exact tV g11
 ·exact tV g12
 ·exact tV g13
 ·exact tV g21
 ·exact tV g22
 ·exact tV g23
 ·exact tV WN
 ·exact tV WO
 ·exact tV WQ
