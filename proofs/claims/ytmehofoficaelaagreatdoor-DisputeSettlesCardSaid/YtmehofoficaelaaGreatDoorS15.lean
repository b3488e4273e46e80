/- Part 15 of DisputeSettles. -/
import Derived.Test.YtmehofoficaelaaGreatDoorS14
set_option linter.all false
namespace Go.Proofs.YtmehofoficaelaaGreatDoor
open Go Go.AL Classical
set_option maxRecDepth 100000
set_option maxHeartbeats 1000000
def o6{k:Nat}{f:FuncId}{args:List D}{d:D}(h:run T [] k f args []=some [(d,[])]):Wf T f args [] (Is d):=by refine Ev.mono (qp (.nil _) h) λr a=>?_;obtain⟨x,b,a⟩:=a;rw[List.mem_singleton]at b;subst b;exact⟨_,_,a,rfl,rfl⟩
def No:List (List D)->Option (List Int)
 | []=>some []
 | [.val (.int .i64 n)]::r=>match No r with
  | some l=>some (n::l)
  | none=>none
 | _=>none
def Nn:D->Option (List Int)
 | .sl 1 es=>No es
 | _=>none
def Np:List (List D)->Option (List (List Int))
 | []=>some []
 | [d]::r=>match Nn d,Np r with
  | some a,some l=>some (a::l)
  | _,_=>none
 | _=>none
theorem WC:∀ {es:List (List D)} {l:List Int},No es=some l->es=l.map f1
 | [],l,h=>by cases h;rfl
 | [.val (.int .i64 n)]::r,l,h=>by
  simp only[No]at h;split at h
  .rename_i b a;cases h;rw[WC a];simp
  .cases h
def WA{d:D}{l:List Int}(h:Nn d=some l):d=dI l:=by
 unfold Nn at h;split at h
 .rw[WC h];unfold dI;rfl
 .cases h
theorem WB:∀ {es:List (List D)} {l:List (List Int)},Np es=some l->es=l.map fI
 | [],l,h=>by cases h;rfl
 | [d]::r,l,h=>by
  simp only[Np]at h;split at h
  .rename_i a c h1 b;cases h;rw[WB b,WA h1];simp
  .cases h
def EM(a b n:Int):Bool:=decide (a<=n)&&decide (n<b)
def abx(n:Int)(l:List Int):Bool:=decide ((l.length:Int)=n)&&l.all (EM (-1) n)
def P3(tn:List Int):Nat->Bool
 | 0=>true
 | k+1=>EM 0 8 (tn.getD k 0)&&decide (tn.getD (tn.getD k 0).toNat 0=k)&&P3 tn k
def Qp(n:Int)(nx:List (List Int))(tn:List Int):Bool:=EM 1 10 n&&decide (nx.length=8)&&nx.all (abx n)&&decide (tn.length=8)&&P3 tn 8
theorem ab5{tn:List Int}:∀ {m:Nat},P3 tn m=true->∀d:Int,0<=d->d<m->0<=gt tn d/\gt tn d<8/\gt tn (gt tn d)=d
 | 0,_,d,h0,h1=>by omega
 | m+1,h,d,h0,h1=>by
  simp only[P3,EM,Bool.and_eq_true,decide_eq_true_eq]at h
  by_cases e:d=m
  .subst e;have a:gt tn (m:Int)=tn.getD m 0:=by unfold gt;rfl
   rw[a];refine⟨h.1.1.1,h.1.1.2,?_⟩;have:=h.1.2;simpa[gt]using this
  .exact ab5 h.2 d h0 (by omega)
def ada{n:Int}{nx:List (List Int)}{tn:List Int}(h:Qp n nx tn=true):oM (CA n nx tn):=by simp only[Qp,EM,Bool.and_eq_true,decide_eq_true_eq]at h;obtain⟨⟨⟨⟨h1,g⟩,f⟩,e⟩,c⟩:=h;refine⟨⟨h1.1,by show n<=9;omega⟩,g,λl hl=>?_,e,λd a b=>ab5 c d a (by omega)⟩;have:=List.all_eq_true.1 f l hl;simp only[abx,EM,Bool.and_eq_true,decide_eq_true_eq,List.all_eq_true]at this;exact⟨this.1,this.2⟩
noncomputable def vF(a b:Int):Bool:=match run T [] 40 225 [.i a,.i b] []with
 | some [(.tup [.agg [.val (.int .i64 n),.sl 1 es,d],.val (.int .i64 e)],[])]=>match Np es,Nn d with
  | some nx,some tn=>Qp n nx tn&&decide (e=0)
  | _,_=>false
 | _=>false
def x8{a b:Int}(h:vF a b=true):∃n nx tn,Wf T 225 [.i a,.i b] [] (Is (.tup [bD n nx tn,.i 0]))/\oM (CA n nx tn):=by
 unfold vF at h;split at h
 .rename_i n es d e c;split at h
  .rename_i nx tn h1 f;simp only[Bool.and_eq_true,decide_eq_true_eq]at h;refine⟨n,nx,tn,?_,ada h.1⟩;have:=o6 c;rw[WB h1,WA f,h.2]at this;exact this
  .cases h
 .cases h
def g11:vF 1 1=true:=by kernel_rfl
def g12:vF 1 2=true:=by kernel_rfl
def g13:vF 1 3=true:=by kernel_rfl
def g21:vF 2 1=true:=by kernel_rfl
def g22:vF 2 2=true:=by kernel_rfl
def g23:vF 2 3=true:=by kernel_rfl
def g31:vF 3 1=true:=by kernel_rfl
def g32:vF 3 2=true:=by kernel_rfl
def g33:vF 3 3=true:=by kernel_rfl
def f149(a b:Int)(d:1<=a/\a<=3)(c:1<=b/\b<=3):∃n nx tn,Wf T 225 [.i a,.i b] [] (Is (.tup [bD n nx tn,.i 0]))/\oM (CA n nx tn):=by
 rcases(show a=1\/a=2\/a=3 by omega)with rfl|rfl|rfl<;>rcases(show b=1\/b=2\/b=3 by omega)with rfl|rfl|rfl
 .exact x8 g11
 .exact x8 g12
 .exact x8 g13
 .exact x8 g21
 .exact x8 g22
 .exact x8 g23
 .exact x8 g31
 .exact x8 g32
 .exact x8 g33
