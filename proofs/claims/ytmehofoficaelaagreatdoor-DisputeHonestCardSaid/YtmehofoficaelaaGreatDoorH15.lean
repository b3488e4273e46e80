/- Part 15 of DisputeHonest. -/
import Derived.Test.YtmehofoficaelaaGreatDoorH14
set_option linter.all false
namespace Go.Proofs.YtmehofoficaelaaGreatDoor
open Go Go.AL Classical
set_option maxRecDepth 100000
set_option maxHeartbeats 1000000
theorem nS{k:Nat}{f:FuncId}{args:List D}{d:D}(h:run T [] k f args []=some [(d,[])]):Wf T f args [] (Is d):=by refine Ev.mono (ph (.nil _) h) λr a=>?_;obtain⟨x,b,a⟩:=a;rw[List.mem_singleton]at b;subst b;exact⟨_,_,a,rfl,rfl⟩
def Ka:List (List D)->Option (List Int)
 | []=>some []
 | [.val (.int .i64 n)]::r=>match Ka r with
  | some l=>some (n::l)
  | none=>none
 | _=>none
def J':D->Option (List Int)
 | .sl 1 es=>Ka es
 | _=>none
def Kb:List (List D)->Option (List (List Int))
 | []=>some []
 | [d]::r=>match J' d,Kb r with
  | some a,some l=>some (a::l)
  | _,_=>none
 | _=>none
theorem S6:∀ {es:List (List D)} {l:List Int},Ka es=some l->es=l.map f1
 | [],l,h=>by cases h;rfl
 | [.val (.int .i64 n)]::r,l,h=>by
  simp only[Ka]at h;split at h
  .rename_i b a;cases h;rw[S6 a];simp
  .cases h
theorem S4{d:D}{l:List Int}(h:J' d=some l):d=dI l:=by
 unfold J' at h;split at h
 .rw[S6 h];unfold dI;rfl
 .cases h
theorem S5:∀ {es:List (List D)} {l:List (List Int)},Kb es=some l->es=l.map fI
 | [],l,h=>by cases h;rfl
 | [d]::r,l,h=>by
  simp only[Kb]at h;split at h
  .rename_i a c h1 b;cases h;rw[S5 b,S4 h1];simp
  .cases h
def Co(a b n:Int):Bool:=decide (a<=n)&&decide (n<b)
def XD(n:Int)(l:List Int):Bool:=decide ((l.length:Int)=n)&&l.all (Co (-1) n)
def MH(tn:List Int):Nat->Bool
 | 0=>true
 | k+1=>Co 0 8 (tn.getD k 0)&&decide (tn.getD (tn.getD k 0).toNat 0=k)&&MH tn k
def M1(n:Int)(nx:List (List Int))(tn:List Int):Bool:=Co 1 10 n&&decide (nx.length=8)&&nx.all (XD n)&&decide (tn.length=8)&&MH tn 8
theorem X'{tn:List Int}:∀ {m:Nat},MH tn m=true->∀d:Int,0<=d->d<m->0<=gt tn d/\gt tn d<8/\gt tn (gt tn d)=d
 | 0,_,d,h0,h1=>by omega
 | m+1,h,d,h0,h1=>by
  simp only[MH,Co,Bool.and_eq_true,decide_eq_true_eq]at h
  by_cases e:d=m
  .subst e;have a:gt tn (m:Int)=tn.getD m 0:=by unfold gt;rfl
   rw[a];refine⟨h.1.1.1,h.1.1.2,?_⟩;have:=h.1.2;simpa[gt]using this
  .exact X' h.2 d h0 (by omega)
theorem Ze{n:Int}{nx:List (List Int)}{tn:List Int}(h:M1 n nx tn=true):nv (Av n nx tn):=by simp only[M1,Co,Bool.and_eq_true,decide_eq_true_eq]at h;obtain⟨⟨⟨⟨h1,g⟩,f⟩,e⟩,c⟩:=h;refine⟨⟨h1.1,by show n<=9;omega⟩,g,λl hl=>?_,e,λd a b=>X' c d a (by omega)⟩;have:=List.all_eq_true.1 f l hl;simp only[XD,Co,Bool.and_eq_true,decide_eq_true_eq,List.all_eq_true]at this;exact⟨this.1,this.2⟩
noncomputable def tK(a b:Int):Bool:=match run T [] 40 225 [.i a,.i b] []with
 | some [(.tup [.agg [.val (.int .i64 n),.sl 1 es,d],.val (.int .i64 e)],[])]=>match Kb es,J' d with
  | some nx,some tn=>M1 n nx tn&&decide (e=0)
  | _,_=>false
 | _=>false
theorem vY{a b:Int}(h:tK a b=true):∃n nx tn,Wf T 225 [.i a,.i b] [] (Is (.tup [bD n nx tn,.i 0]))/\nv (Av n nx tn):=by
 unfold tK at h;split at h
 .rename_i n es d e c;split at h
  .rename_i nx tn h1 f;simp only[Bool.and_eq_true,decide_eq_true_eq]at h;refine⟨n,nx,tn,?_,Ze h.1⟩;have:=nS c;rw[S5 h1,S4 f,h.2]at this;exact this
  .cases h
 .cases h
theorem g11:tK 1 1=true:=by kernel_rfl
theorem g12:tK 1 2=true:=by kernel_rfl
theorem g13:tK 1 3=true:=by kernel_rfl
theorem g21:tK 2 1=true:=by kernel_rfl
theorem g22:tK 2 2=true:=by kernel_rfl
theorem g23:tK 2 3=true:=by kernel_rfl
theorem g31:tK 3 1=true:=by kernel_rfl
theorem g32:tK 3 2=true:=by kernel_rfl
theorem g33:tK 3 3=true:=by kernel_rfl
theorem f149(a b:Int)(d:1<=a/\a<=3)(c:1<=b/\b<=3):∃n nx tn,Wf T 225 [.i a,.i b] [] (Is (.tup [bD n nx tn,.i 0]))/\nv (Av n nx tn):=by
 rcases(show a=1\/a=2\/a=3 by omega)with rfl|rfl|rfl<;>rcases(show b=1\/b=2\/b=3 by omega)with rfl|rfl|rfl
 .exact vY g11
 .exact vY g12
 .exact vY g13
 .exact vY g21
 .exact vY g22
 .exact vY g23
 .exact vY g31
 .exact vY g32
 .exact vY g33
