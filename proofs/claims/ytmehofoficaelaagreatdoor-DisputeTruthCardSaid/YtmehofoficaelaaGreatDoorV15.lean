/- Part 15 of DisputeTruth. -/
import Derived.Test.YtmehofoficaelaaGreatDoorV14
set_option linter.all false
namespace Go.Proofs.YtmehofoficaelaaGreatDoor
open Go Go.AL Classical
set_option maxRecDepth 100000
set_option maxHeartbeats 1000000
theorem oL{k:Nat}{f:FuncId}{args:List D}{d:D}(h:run T [] k f args []=some [(d,[])]):Wf T f args [] (Is d):=by refine Ev.mono (pZ (.nil _) h) λr a=>?_;obtain⟨x,b,a⟩:=a;rw[List.mem_singleton]at b;subst b;exact⟨_,_,a,rfl,rfl⟩
def Mg:List (List D)->Option (List Int)
 | []=>some []
 | [.val (.int .i64 n)]::r=>match Mg r with
  | some l=>some (n::l)
  | none=>none
 | _=>none
def Mf:D->Option (List Int)
 | .sl 1 es=>Mg es
 | _=>none
def Mh:List (List D)->Option (List (List Int))
 | []=>some []
 | [d]::r=>match Mf d,Mh r with
  | some a,some l=>some (a::l)
  | _,_=>none
 | _=>none
theorem Vn:∀ {es:List (List D)} {l:List Int},Mg es=some l->es=l.map f1
 | [],l,h=>by cases h;rfl
 | [.val (.int .i64 n)]::r,l,h=>by
  simp only[Mg]at h;split at h
  .rename_i b a;cases h;rw[Vn a];simp
  .cases h
theorem Vl{d:D}{l:List Int}(h:Mf d=some l):d=dI l:=by
 unfold Mf at h;split at h
 .rw[Vn h];unfold dI;rfl
 .cases h
theorem Vm:∀ {es:List (List D)} {l:List (List Int)},Mh es=some l->es=l.map fI
 | [],l,h=>by cases h;rfl
 | [d]::r,l,h=>by
  simp only[Mh]at h;split at h
  .rename_i a c h1 b;cases h;rw[Vm b,Vl h1];simp
  .cases h
def D0(a b n:Int):Bool:=decide (a<=n)&&decide (n<b)
def aar(n:Int)(l:List Int):Bool:=decide ((l.length:Int)=n)&&l.all (D0 (-1) n)
def OM(tn:List Int):Nat->Bool
 | 0=>true
 | k+1=>D0 0 8 (tn.getD k 0)&&decide (tn.getD (tn.getD k 0).toNat 0=k)&&OM tn k
def O9(n:Int)(nx:List (List Int))(tn:List Int):Bool:=D0 1 10 n&&decide (nx.length=8)&&nx.all (aar n)&&decide (tn.length=8)&&OM tn 8
theorem aaV{tn:List Int}:∀ {m:Nat},OM tn m=true->∀d:Int,0<=d->d<m->0<=gt tn d/\gt tn d<8/\gt tn (gt tn d)=d
 | 0,_,d,h0,h1=>by omega
 | m+1,h,d,h0,h1=>by
  simp only[OM,D0,Bool.and_eq_true,decide_eq_true_eq]at h
  by_cases e:d=m
  .subst e;have a:gt tn (m:Int)=tn.getD m 0:=by unfold gt;rfl
   rw[a];refine⟨h.1.1.1,h.1.1.2,?_⟩;have:=h.1.2;simpa[gt]using this
  .exact aaV h.2 d h0 (by omega)
theorem abS{n:Int}{nx:List (List Int)}{tn:List Int}(h:O9 n nx tn=true):oo (BO n nx tn):=by simp only[O9,D0,Bool.and_eq_true,decide_eq_true_eq]at h;obtain⟨⟨⟨⟨h1,g⟩,f⟩,e⟩,c⟩:=h;refine⟨⟨h1.1,by show n<=9;omega⟩,g,λl hl=>?_,e,λd a b=>aaV c d a (by omega)⟩;have:=List.all_eq_true.1 f l hl;simp only[aar,D0,Bool.and_eq_true,decide_eq_true_eq,List.all_eq_true]at this;exact⟨this.1,this.2⟩
noncomputable def uV(a b:Int):Bool:=match run T [] 40 225 [.i a,.i b] []with
 | some [(.tup [.agg [.val (.int .i64 n),.sl 1 es,d],.val (.int .i64 e)],[])]=>match Mh es,Mf d with
  | some nx,some tn=>O9 n nx tn&&decide (e=0)
  | _,_=>false
 | _=>false
theorem xw{a b:Int}(h:uV a b=true):∃n nx tn,Wf T 225 [.i a,.i b] [] (Is (.tup [bD n nx tn,.i 0]))/\oo (BO n nx tn):=by
 unfold uV at h;split at h
 .rename_i n es d e c;split at h
  .rename_i nx tn h1 f;simp only[Bool.and_eq_true,decide_eq_true_eq]at h;refine⟨n,nx,tn,?_,abS h.1⟩;have:=oL c;rw[Vm h1,Vl f,h.2]at this;exact this
  .cases h
 .cases h
theorem g11:uV 1 1=true:=by kernel_rfl
theorem g12:uV 1 2=true:=by kernel_rfl
theorem g13:uV 1 3=true:=by kernel_rfl
theorem g21:uV 2 1=true:=by kernel_rfl
theorem g22:uV 2 2=true:=by kernel_rfl
theorem g23:uV 2 3=true:=by kernel_rfl
theorem g31:uV 3 1=true:=by kernel_rfl
theorem g32:uV 3 2=true:=by kernel_rfl
theorem g33:uV 3 3=true:=by kernel_rfl
theorem f149(a b:Int)(d:1<=a/\a<=3)(c:1<=b/\b<=3):∃n nx tn,Wf T 225 [.i a,.i b] [] (Is (.tup [bD n nx tn,.i 0]))/\oo (BO n nx tn):=by
 rcases(show a=1\/a=2\/a=3 by omega)with rfl|rfl|rfl<;>rcases(show b=1\/b=2\/b=3 by omega)with rfl|rfl|rfl
 .exact xw g11
 .exact xw g12
 .exact xw g13
 .exact xw g21
 .exact xw g22
 .exact xw g23
 .exact xw g31
 .exact xw g32
 .exact xw g33
