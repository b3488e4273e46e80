/- Part 15 of DisputeMatchesReference. -/
import Derived.Test.YtmehofoficaelaaGreatDoorM14
set_option linter.all false
namespace Go.Proofs.YtmehofoficaelaaGreatDoor
open Go Go.AL Classical
set_option maxRecDepth 100000
set_option maxHeartbeats 1000000
def p7{k:Nat}{f:FuncId}{args:List D}{d:D}(h:run T [] k f args []=some [(d,[])]):Wf T f args [] (Is d):=by refine Ev.mono (sn (.nil _) h) λr a=>?_;obtain⟨x,b,a⟩:=a;rw[List.mem_singleton]at b;subst b;exact⟨_,_,a,rfl,rfl⟩
def N3:List (List D)->Option (List Int)
 | []=>some []
 | [.val (.int .i64 n)]::r=>match N3 r with
  | some l=>some (n::l)
  | none=>none
 | _=>none
def N2:D->Option (List Int)
 | .sl 1 es=>N3 es
 | _=>none
def N4:List (List D)->Option (List (List Int))
 | []=>some []
 | [d]::r=>match N2 d,N4 r with
  | some a,some l=>some (a::l)
  | _,_=>none
 | _=>none
theorem Xd:∀ {es:List (List D)} {l:List Int},N3 es=some l->es=l.map f1
 | [],l,h=>by cases h;rfl
 | [.val (.int .i64 n)]::r,l,h=>by
  simp only[N3]at h;split at h
  .rename_i b a;cases h;rw[Xd a];simp
  .cases h
def Xb{d:D}{l:List Int}(h:N2 d=some l):d=dI l:=by
 unfold N2 at h;split at h
 .rw[Xd h];unfold dI;rfl
 .cases h
theorem Xc:∀ {es:List (List D)} {l:List (List Int)},N4 es=some l->es=l.map fI
 | [],l,h=>by cases h;rfl
 | [d]::r,l,h=>by
  simp only[N4]at h;split at h
  .rename_i a c h1 b;cases h;rw[Xc b,Xb h1];simp
  .cases h
def FN(a b n:Int):Bool:=decide (a<=n)&&decide (n<b)
def acr(n:Int)(l:List Int):Bool:=decide ((l.length:Int)=n)&&l.all (FN (-1) n)
def QK(tn:List Int):Nat->Bool
 | 0=>true
 | k+1=>FN 0 8 (tn.getD k 0)&&decide (tn.getD (tn.getD k 0).toNat 0=k)&&QK tn k
def Q1(n:Int)(nx:List (List Int))(tn:List Int):Bool:=FN 1 10 n&&decide (nx.length=8)&&nx.all (acr n)&&decide (tn.length=8)&&QK tn 8
theorem acV{tn:List Int}:∀ {m:Nat},QK tn m=true->∀d:Int,0<=d->d<m->0<=gt tn d/\gt tn d<8/\gt tn (gt tn d)=d
 | 0,_,d,h0,h1=>U
 | m+1,h,d,h0,h1=>by
  simp only[QK,FN,ai,decide_eq_true_eq]at h
  by_cases e:d=m
  .subst e;have a:gt tn (m:Int)=tn.getD m 0:=by unfold gt;rfl
   rw[a];refine⟨h.1.1.1,h.1.1.2,?_⟩;have:=h.1.2;simpa[gt]using this
  .exact acV h.2 d h0 U
def adR{n:Int}{nx:List (List Int)}{tn:List Int}(h:Q1 n nx tn=true):pL (Du n nx tn):=by simp only[Q1,FN,ai,decide_eq_true_eq]at h;obtain⟨⟨⟨⟨h1,g⟩,f⟩,e⟩,c⟩:=h;refine⟨⟨h1.1,by show n<=9;omega⟩,g,λl hl=>?_,e,λd a b=>acV c d a U⟩;have:=List.all_eq_true.1 f l hl;simp only[acr,FN,ai,decide_eq_true_eq,List.all_eq_true]at this;exact⟨this.1,this.2⟩
noncomputable def wY(a b:Int):Bool:=match run T [] 40 225 [.i a,.i b] []with
 | some [(.tup [.agg [.val (.int .i64 n),.sl 1 es,d],.val (.int .i64 e)],[])]=>match N4 es,N2 d with
  | some nx,some tn=>Q1 n nx tn&&decide (e=0)
  | _,_=>false
 | _=>false
def y6{a b:Int}(h:wY a b=true):∃n nx tn,Wf T 225 [.i a,.i b] [] (Is (.tup [bD n nx tn,.i 0]))/\pL (Du n nx tn):=by
 unfold wY at h;split at h
 .rename_i n es d e c;split at h
  .rename_i nx tn h1 f;simp only[ai,decide_eq_true_eq]at h;refine⟨n,nx,tn,?_,adR h.1⟩;have:=p7 c;rw[Xc h1,Xb f,h.2]at this;exact this
  .cases h
 .cases h
def g11:wY 1 1=true:=gw
def g12:wY 1 2=true:=gw
def g13:wY 1 3=true:=gw
def g21:wY 2 1=true:=gw
def g22:wY 2 2=true:=gw
def g23:wY 2 3=true:=gw
def g31:wY 3 1=true:=gw
def g32:wY 3 2=true:=gw
def g33:wY 3 3=true:=gw
def f149(a b:Int)(d:1<=a/\a<=3)(c:1<=b/\b<=3):∃n nx tn,Wf T 225 [.i a,.i b] [] (Is (.tup [bD n nx tn,.i 0]))/\pL (Du n nx tn):=by
 rcases(U:a=1\/a=2\/a=3)with rfl|rfl|rfl<;>rcases(U:b=1\/b=2\/b=3)with rfl|rfl|rfl
 .exact y6 g11
 .exact y6 g12
 .exact y6 g13
 .exact y6 g21
 .exact y6 g22
 .exact y6 g23
 .exact y6 g31
 .exact y6 g32
 .exact y6 g33
