/- Part 15 of DisputeWorkers. -/
import Derived.Test.YtmehofoficaelaaGreatDoorW14
set_option linter.all false
namespace Go.Proofs.YtmehofoficaelaaGreatDoor
open Go Go.AL Classical
set_option maxRecDepth 100000
set_option maxHeartbeats 1000000
theorem o5{k:Nat}{f:FuncId}{args:List D}{d:D}(h:run T [] k f args []=some [(d,[])]):Wf T f args [] (Is d):=by refine Ev.mono (qq (.nil _) h) λr a=>?_;obtain⟨x,b,a⟩:=a;rw[List.mem_singleton]at b;subst b;exact⟨_,_,a,rfl,rfl⟩
def MU:List (List D)->Option (List Int)
 | []=>some []
 | [.val (.int .i64 n)]::r=>match MU r with
  | some l=>some (n::l)
  | none=>none
 | _=>none
def MT:D->Option (List Int)
 | .sl 1 es=>MU es
 | _=>none
def MV:List (List D)->Option (List (List Int))
 | []=>some []
 | [d]::r=>match MT d,MV r with
  | some a,some l=>some (a::l)
  | _,_=>none
 | _=>none
theorem VJ:∀ {es:List (List D)} {l:List Int},MU es=some l->es=l.map f1
 | [],l,h=>by cases h;rfl
 | [.val (.int .i64 n)]::r,l,h=>by
  simp only[MU]at h;split at h
  .rename_i b a;cases h;rw[VJ a];simp
  .cases h
theorem VH{d:D}{l:List Int}(h:MT d=some l):d=dI l:=by
 unfold MT at h;split at h
 .rw[VJ h];unfold dI;rfl
 .cases h
theorem VI:∀ {es:List (List D)} {l:List (List Int)},MV es=some l->es=l.map fI
 | [],l,h=>by cases h;rfl
 | [d]::r,l,h=>by
  simp only[MV]at h;split at h
  .rename_i a c h1 b;cases h;rw[VI b,VH h1];simp
  .cases h
def Et(a b n:Int):Bool:=decide (a<=n)&&decide (n<b)
def aaH(n:Int)(l:List Int):Bool:=decide ((l.length:Int)=n)&&l.all (Et (-1) n)
def Pp(tn:List Int):Nat->Bool
 | 0=>true
 | k+1=>Et 0 8 (tn.getD k 0)&&decide (tn.getD (tn.getD k 0).toNat 0=k)&&Pp tn k
def PH(n:Int)(nx:List (List Int))(tn:List Int):Bool:=Et 1 10 n&&decide (nx.length=8)&&nx.all (aaH n)&&decide (tn.length=8)&&Pp tn 8
theorem abd{tn:List Int}:∀ {m:Nat},Pp tn m=true->∀d:Int,0<=d->d<m->0<=gt tn d/\gt tn d<8/\gt tn (gt tn d)=d
 | 0,_,d,h0,h1=>by omega
 | m+1,h,d,h0,h1=>by
  simp only[Pp,Et,Bool.and_eq_true,decide_eq_true_eq]at h
  by_cases e:d=m
  .subst e;have a:gt tn (m:Int)=tn.getD m 0:=by unfold gt;rfl
   rw[a];refine⟨h.1.1.1,h.1.1.2,?_⟩;have:=h.1.2;simpa[gt]using this
  .exact abd h.2 d h0 (by omega)
theorem aca{n:Int}{nx:List (List Int)}{tn:List Int}(h:PH n nx tn=true):oM (Cg n nx tn):=by simp only[PH,Et,Bool.and_eq_true,decide_eq_true_eq]at h;obtain⟨⟨⟨⟨h1,g⟩,f⟩,e⟩,c⟩:=h;refine⟨⟨h1.1,by show n<=9;omega⟩,g,λl hl=>?_,e,λd a b=>abd c d a (by omega)⟩;have:=List.all_eq_true.1 f l hl;simp only[aaH,Et,Bool.and_eq_true,decide_eq_true_eq,List.all_eq_true]at this;exact⟨this.1,this.2⟩
noncomputable def vi(a b:Int):Bool:=match run T [] 40 225 [.i a,.i b] []with
 | some [(.tup [.agg [.val (.int .i64 n),.sl 1 es,d],.val (.int .i64 e)],[])]=>match MV es,MT d with
  | some nx,some tn=>PH n nx tn&&decide (e=0)
  | _,_=>false
 | _=>false
theorem xV{a b:Int}(h:vi a b=true):∃n nx tn,Wf T 225 [.i a,.i b] [] (Is (.tup [bD n nx tn,.i 0]))/\oM (Cg n nx tn):=by
 unfold vi at h;split at h
 .rename_i n es d e c;split at h
  .rename_i nx tn h1 f;simp only[Bool.and_eq_true,decide_eq_true_eq]at h;refine⟨n,nx,tn,?_,aca h.1⟩;have:=o5 c;rw[VI h1,VH f,h.2]at this;exact this
  .cases h
 .cases h
theorem g11:vi 1 1=true:=by kernel_rfl
theorem g12:vi 1 2=true:=by kernel_rfl
theorem g13:vi 1 3=true:=by kernel_rfl
theorem g21:vi 2 1=true:=by kernel_rfl
theorem g22:vi 2 2=true:=by kernel_rfl
theorem g23:vi 2 3=true:=by kernel_rfl
theorem g31:vi 3 1=true:=by kernel_rfl
theorem g32:vi 3 2=true:=by kernel_rfl
theorem g33:vi 3 3=true:=by kernel_rfl
theorem f149(a b:Int)(d:1<=a/\a<=3)(c:1<=b/\b<=3):∃n nx tn,Wf T 225 [.i a,.i b] [] (Is (.tup [bD n nx tn,.i 0]))/\oM (Cg n nx tn):=by
 rcases(show a=1\/a=2\/a=3 by omega)with rfl|rfl|rfl<;>rcases(show b=1\/b=2\/b=3 by omega)with rfl|rfl|rfl
 .exact xV g11
 .exact xV g12
 .exact xV g13
 .exact xV g21
 .exact xV g22
 .exact xV g23
 .exact xV g31
 .exact xV g32
 .exact xV g33
