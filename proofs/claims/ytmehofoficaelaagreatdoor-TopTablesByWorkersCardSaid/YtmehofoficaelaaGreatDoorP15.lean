/- 15 -/
import Derived.Test.YtmehofoficaelaaGreatDoorP14
set_option linter.all false
open Bool renaming and_eq_true→aE
namespace Go.Proofs.YtmehofoficaelaaGreatDoor
open Go Go.AL Classical
set_option maxRecDepth 100000
set_option maxHeartbeats 1000000
def rn{k:Nat}{f:FuncId}{args:List D}{d:D}(h:run T [] k f args []=some [(d,[])]):Wf T f args [] (Is d):=by refine Ev.mono (qc (.nil _) h) λr a=>?_;obtain⟨x,b,a⟩:=a;rw[List.mem_singleton]at b;subst b;exact⟨_,_,a,rfl,rfl⟩
def P5:List (List D)->Option (List Int)
 | []=>some []
 | [.val (.int .i64 n)]::r=>match P5 r with
  | some l=>some (n::l)
  | none=>none
 | _=>none
def P4:D->Option (List Int)
 | .sl 1 es=>P5 es
 | _=>none
def P6:List (List D)->Option (List (List Int))
 | []=>some []
 | [d]::r=>match P4 d,P6 r with
  | some a,some l=>some (a::l)
  | _,_=>none
 | _=>none
theorem Z9:∀ {es:List (List D)} {l:List Int},P5 es=some l->es=l.map f1
 | [],l,h=>by cases h;rfl
 | [.val (.int .i64 n)]::r,l,h=>by
  simp only[P5]at h;split at h
  .rename_i b a;cases h;rw[Z9 a];simp
  .cases h
def Z7{d:D}{l:List Int}(h:P4 d=some l):d=dI l:=by
 unfold P4 at h;split at h
 .rw[Z9 h];unfold dI;rfl
 .cases h
theorem Z8:∀ {es:List (List D)} {l:List (List Int)},P6 es=some l->es=l.map fI
 | [],l,h=>by cases h;rfl
 | [d]::r,l,h=>by
  simp only[P6]at h;split at h
  .rename_i a c h1 b;cases h;rw[Z8 b,Z7 h1];simp
  .cases h
def G4(a b n:Int):Bool:=decide (a<=n)&&decide (n<b)
def aew(n:Int)(l:List Int):Bool:=decide ((l.length:Int)=n)&&l.all (G4 (-1) n)
def SR(tn:List Int):Nat->Bool
 | 0=>true
 | k+1=>G4 0 8 (tn.getD k 0)&&decide (tn.getD (tn.getD k 0).toNat 0=k)&&SR tn k
def Tf(n:Int)(nx:List (List Int))(tn:List Int):Bool:=G4 1 10 n&&decide (nx.length=8)&&nx.all (aew n)&&decide (tn.length=8)&&SR tn 8
theorem ae6{tn:List Int}:∀ {m:Nat},SR tn m=true->∀d:Int,0<=d->d<m->0<=gt tn d/\gt tn d<8/\gt tn (gt tn d)=d
 | 0,_,d,h0,h1=>U
 | m+1,h,d,h0,h1=>by
  simp only[SR,G4,aE,decide_eq_true_eq]at h
  by_cases e:d=m
  .subst e;have e2:gt tn (m:Int)=tn.getD m 0:=by unfold gt;rfl
   rw[e2];refine⟨h.1.1.1,h.1.1.2,?_⟩;have:=h.1.2;simpa[gt]using this
  .exact ae6 h.2 d h0 U
def agh{n:Int}{nx:List (List Int)}{tn:List Int}(h:Tf n nx tn=true):qp (EC n nx tn):=by simp only[Tf,G4,aE,decide_eq_true_eq]at h;obtain⟨⟨⟨⟨h1,g⟩,f⟩,e⟩,c⟩:=h;refine⟨⟨h1.1,by show n<=9;omega⟩,g,λl hl=>?_,e,λd a b=>ae6 c d a U⟩;have:=List.all_eq_true.1 f l hl;simp only[aew,G4,aE,decide_eq_true_eq,List.all_eq_true]at this;exact⟨this.1,this.2⟩
noncomputable def xF(a b:Int):Bool:=match run T [] 40 225 [.i a,.i b] []with
 | some [(.tup [.agg [.val (.int .i64 n),.sl 1 es,d],.val (.int .i64 e)],[])]=>match P6 es,P4 d with
  | some nx,some tn=>Tf n nx tn&&decide (e=0)
  | _,_=>false
 | _=>false
def zT{a b:Int}(h:xF a b=true):∃n nx tn,Wf T 225 [.i a,.i b] [] (Is (.tup [bD n nx tn,.i 0]))/\qp (EC n nx tn):=by
 unfold xF at h;split at h
 .rename_i n es d e c;split at h
  .rename_i nx tn h1 f;simp only[aE,decide_eq_true_eq]at h;refine⟨n,nx,tn,?_,agh h.1⟩;have:=rn c;rw[Z8 h1,Z7 f,h.2]at this;exact this
  .cases h
 .cases h
def g11:xF 1 1=true:=ia
def g12:xF 1 2=true:=ia
def g13:xF 1 3=true:=ia
def g21:xF 2 1=true:=ia
def g22:xF 2 2=true:=ia
def g23:xF 2 3=true:=ia
def g31:xF 3 1=true:=ia
def g32:xF 3 2=true:=ia
def g33:xF 3 3=true:=ia
def f149(a b:Int)(d:1<=a/\a<=3)(c:1<=b/\b<=3):∃n nx tn,Wf T 225 [.i a,.i b] [] (Is (.tup [bD n nx tn,.i 0]))/\qp (EC n nx tn):=by
 rcases(U:a=1\/a=2\/a=3)with rfl|rfl|rfl<;>rcases(U:b=1\/b=2\/b=3)with rfl|rfl|rfl
 .exact zT g11
 .exact zT g12
 .exact zT g13
 .exact zT g21
 .exact zT g22
 .exact zT g23
 .exact zT g31
 .exact zT g32
 .exact zT g33
