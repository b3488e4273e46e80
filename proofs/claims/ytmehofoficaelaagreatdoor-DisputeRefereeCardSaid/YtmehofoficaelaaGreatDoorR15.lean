/- Part 15 of DisputeReferee. -/
import Derived.Test.YtmehofoficaelaaGreatDoorR14
set_option linter.all false
namespace Go.Proofs.YtmehofoficaelaaGreatDoor
open Go Go.AL Classical
set_option maxRecDepth 100000
set_option maxHeartbeats 1000000
theorem od{k:Nat}{f:FuncId}{args:List D}{d:D}(h:run T [] k f args []=some [(d,[])]):Wf T f args [] (Is d):=by refine Ev.mono (pE (.nil _) h) λr a=>?_;obtain⟨x,b,a⟩:=a;rw[List.mem_singleton]at b;subst b;exact⟨_,_,a,rfl,rfl⟩
def KD:List (List D)->Option (List Int)
 | []=>some []
 | [.val (.int .i64 n)]::r=>match KD r with
  | some l=>some (n::l)
  | none=>none
 | _=>none
def KB:D->Option (List Int)
 | .sl 1 es=>KD es
 | _=>none
def KE:List (List D)->Option (List (List Int))
 | []=>some []
 | [d]::r=>match KB d,KE r with
  | some a,some l=>some (a::l)
  | _,_=>none
 | _=>none
theorem Tz:∀ {es:List (List D)} {l:List Int},KD es=some l->es=l.map f1
 | [],l,h=>by cases h;rfl
 | [.val (.int .i64 n)]::r,l,h=>by
  simp only[KD]at h;split at h
  .rename_i b a;cases h;rw[Tz a];simp
  .cases h
theorem Tw{d:D}{l:List Int}(h:KB d=some l):d=dI l:=by
 unfold KB at h;split at h
 .rw[Tz h];unfold dI;rfl
 .cases h
theorem Ty:∀ {es:List (List D)} {l:List (List Int)},KE es=some l->es=l.map fI
 | [],l,h=>by cases h;rfl
 | [d]::r,l,h=>by
  simp only[KE]at h;split at h
  .rename_i a c h1 b;cases h;rw[Ty b,Tw h1];simp
  .cases h
def CY(a b n:Int):Bool:=decide (a<=n)&&decide (n<b)
def Ya(n:Int)(l:List Int):Bool:=decide ((l.length:Int)=n)&&l.all (CY (-1) n)
def M9(tn:List Int):Nat->Bool
 | 0=>true
 | k+1=>CY 0 8 (tn.getD k 0)&&decide (tn.getD (tn.getD k 0).toNat 0=k)&&M9 tn k
def Ns(n:Int)(nx:List (List Int))(tn:List Int):Bool:=CY 1 10 n&&decide (nx.length=8)&&nx.all (Ya n)&&decide (tn.length=8)&&M9 tn 8
theorem YJ{tn:List Int}:∀ {m:Nat},M9 tn m=true->∀d:Int,0<=d->d<m->0<=gt tn d/\gt tn d<8/\gt tn (gt tn d)=d
 | 0,_,d,h0,h1=>by omega
 | m+1,h,d,h0,h1=>by
  simp only[M9,CY,Bool.and_eq_true,decide_eq_true_eq]at h
  by_cases e:d=m
  .subst e;have a:gt tn (m:Int)=tn.getD m 0:=by unfold gt;rfl
   rw[a];refine⟨h.1.1.1,h.1.1.2,?_⟩;have:=h.1.2;simpa[gt]using this
  .exact YJ h.2 d h0 (by omega)
theorem ZJ{n:Int}{nx:List (List Int)}{tn:List Int}(h:Ns n nx tn=true):nM (A2 n nx tn):=by simp only[Ns,CY,Bool.and_eq_true,decide_eq_true_eq]at h;obtain⟨⟨⟨⟨h1,g⟩,f⟩,e⟩,c⟩:=h;refine⟨⟨h1.1,by show n<=9;omega⟩,g,λl hl=>?_,e,λd a b=>YJ c d a (by omega)⟩;have:=List.all_eq_true.1 f l hl;simp only[Ya,CY,Bool.and_eq_true,decide_eq_true_eq,List.all_eq_true]at this;exact⟨this.1,this.2⟩
noncomputable def uc(a b:Int):Bool:=match run T [] 40 225 [.i a,.i b] []with
 | some [(.tup [.agg [.val (.int .i64 n),.sl 1 es,d],.val (.int .i64 e)],[])]=>match KE es,KB d with
  | some nx,some tn=>Ns n nx tn&&decide (e=0)
  | _,_=>false
 | _=>false
theorem wJ{a b:Int}(h:uc a b=true):∃n nx tn,Wf T 225 [.i a,.i b] [] (Is (.tup [bD n nx tn,.i 0]))/\nM (A2 n nx tn):=by
 unfold uc at h;split at h
 .rename_i n es d e c;split at h
  .rename_i nx tn h1 f;simp only[Bool.and_eq_true,decide_eq_true_eq]at h;refine⟨n,nx,tn,?_,ZJ h.1⟩;have:=od c;rw[Ty h1,Tw f,h.2]at this;exact this
  .cases h
 .cases h
theorem g11:uc 1 1=true:=by kernel_rfl
theorem g12:uc 1 2=true:=by kernel_rfl
theorem g13:uc 1 3=true:=by kernel_rfl
theorem g21:uc 2 1=true:=by kernel_rfl
theorem g22:uc 2 2=true:=by kernel_rfl
theorem g23:uc 2 3=true:=by kernel_rfl
theorem g31:uc 3 1=true:=by kernel_rfl
theorem g32:uc 3 2=true:=by kernel_rfl
theorem g33:uc 3 3=true:=by kernel_rfl
theorem f149(a b:Int)(d:1<=a/\a<=3)(c:1<=b/\b<=3):∃n nx tn,Wf T 225 [.i a,.i b] [] (Is (.tup [bD n nx tn,.i 0]))/\nM (A2 n nx tn):=by
 rcases(show a=1\/a=2\/a=3 by omega)with rfl|rfl|rfl<;>rcases(show b=1\/b=2\/b=3 by omega)with rfl|rfl|rfl
 .exact wJ g11
 .exact wJ g12
 .exact wJ g13
 .exact wJ g21
 .exact wJ g22
 .exact wJ g23
 .exact wJ g31
 .exact wJ g32
 .exact wJ g33
