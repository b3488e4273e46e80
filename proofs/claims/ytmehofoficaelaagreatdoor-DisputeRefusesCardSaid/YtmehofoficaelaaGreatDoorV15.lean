/- 15 -/
import Derived.Test.YtmehofoficaelaaGreatDoorV14
set_option linter.all false
namespace Go.Proofs.YtmehofoficaelaaGreatDoor
open Go Go.AL Classical
set_option maxRecDepth 100000
set_option maxHeartbeats 1000000
def pc{k:Nat}{f:FuncId}{args:List D}{d:D}(h:run T [] k f args []=some [(d,[])]):Wf T f args [] (Is d):=by refine Ev.mono (qv (.nil _) h) λr a=>?_;obtain⟨x,b,a⟩:=a;rw[List.mem_singleton]at b;subst b;exact⟨_,_,a,rfl,rfl⟩
def MT:List (List D)->Option (List Int)
 | []=>some []
 | [.val (.int .i64 n)]::r=>match MT r with
  | some l=>some (n::l)
  | none=>none
 | _=>none
def MS:D->Option (List Int)
 | .sl 1 es=>MT es
 | _=>none
def MU:List (List D)->Option (List (List Int))
 | []=>some []
 | [d]::r=>match MS d,MU r with
  | some a,some l=>some (a::l)
  | _,_=>none
 | _=>none
theorem VI:∀ {es:List (List D)} {l:List Int},MT es=some l->es=l.map f1
 | [],l,h=>by cases h;rfl
 | [.val (.int .i64 n)]::r,l,h=>by
  simp only[MT]at h;split at h
  .rename_i b a;cases h;rw[VI a];simp
  .cases h
def VG{d:D}{l:List Int}(h:MS d=some l):d=dI l:=by
 unfold MS at h;split at h
 .rw[VI h];unfold dI;rfl
 .cases h
theorem VH:∀ {es:List (List D)} {l:List (List Int)},MU es=some l->es=l.map fI
 | [],l,h=>by cases h;rfl
 | [d]::r,l,h=>by
  simp only[MU]at h;split at h
  .rename_i a c h1 b;cases h;rw[VH b,VG h1];simp
  .cases h
def EH(a b n:Int):Bool:=decide (a<=n)&&decide (n<b)
def aaR(n:Int)(l:List Int):Bool:=decide ((l.length:Int)=n)&&l.all (EH (-1) n)
def Pw(tn:List Int):Nat->Bool
 | 0=>true
 | k+1=>EH 0 8 (tn.getD k 0)&&decide (tn.getD (tn.getD k 0).toNat 0=k)&&Pw tn k
def PN(n:Int)(nx:List (List Int))(tn:List Int):Bool:=EH 1 10 n&&decide (nx.length=8)&&nx.all (aaR n)&&decide (tn.length=8)&&Pw tn 8
theorem abn{tn:List Int}:∀ {m:Nat},Pw tn m=true->∀d:Int,0<=d->d<m->0<=gt tn d/\gt tn d<8/\gt tn (gt tn d)=d
 | 0,_,d,h0,h1=>U
 | m+1,h,d,h0,h1=>by
  simp only[Pw,EH,ai,decide_eq_true_eq]at h
  by_cases e:d=m
  .subst e;have a:gt tn (m:Int)=tn.getD m 0:=by unfold gt;rfl
   rw[a];refine⟨h.1.1.1,h.1.1.2,?_⟩;have:=h.1.2;simpa[gt]using this
  .exact abn h.2 d h0 U
def acg{n:Int}{nx:List (List Int)}{tn:List Int}(h:PN n nx tn=true):oU (Cj n nx tn):=by simp only[PN,EH,ai,decide_eq_true_eq]at h;obtain⟨⟨⟨⟨h1,g⟩,f⟩,e⟩,c⟩:=h;refine⟨⟨h1.1,by show n<=9;omega⟩,g,λl hl=>?_,e,λd a b=>abn c d a U⟩;have:=List.all_eq_true.1 f l hl;simp only[aaR,EH,ai,decide_eq_true_eq,List.all_eq_true]at this;exact⟨this.1,this.2⟩
noncomputable def vi(a b:Int):Bool:=match run T [] 40 225 [.i a,.i b] []with
 | some [(.tup [.agg [.val (.int .i64 n),.sl 1 es,d],.val (.int .i64 e)],[])]=>match MU es,MS d with
  | some nx,some tn=>PN n nx tn&&decide (e=0)
  | _,_=>false
 | _=>false
def xW{a b:Int}(h:vi a b=true):∃n nx tn,Wf T 225 [.i a,.i b] [] (Is (.tup [bD n nx tn,.i 0]))/\oU (Cj n nx tn):=by
 unfold vi at h;split at h
 .rename_i n es d e c;split at h
  .rename_i nx tn h1 f;simp only[ai,decide_eq_true_eq]at h;refine⟨n,nx,tn,?_,acg h.1⟩;have:=pc c;rw[VH h1,VG f,h.2]at this;exact this
  .cases h
 .cases h
def g11:vi 1 1=true:=gu
def g12:vi 1 2=true:=gu
def g13:vi 1 3=true:=gu
def g21:vi 2 1=true:=gu
def g22:vi 2 2=true:=gu
def g23:vi 2 3=true:=gu
def g31:vi 3 1=true:=gu
def g32:vi 3 2=true:=gu
def g33:vi 3 3=true:=gu
def f149(a b:Int)(d:1<=a/\a<=3)(c:1<=b/\b<=3):∃n nx tn,Wf T 225 [.i a,.i b] [] (Is (.tup [bD n nx tn,.i 0]))/\oU (Cj n nx tn):=by
 rcases(U:a=1\/a=2\/a=3)with rfl|rfl|rfl<;>rcases(U:b=1\/b=2\/b=3)with rfl|rfl|rfl
 .exact xW g11
 .exact xW g12
 .exact xW g13
 .exact xW g21
 .exact xW g22
 .exact xW g23
 .exact xW g31
 .exact xW g32
 .exact xW g33
