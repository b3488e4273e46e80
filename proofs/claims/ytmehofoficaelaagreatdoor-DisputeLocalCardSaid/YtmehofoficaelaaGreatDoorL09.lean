/- Part 9 of DisputeLocal. -/
import Derived.Test.YtmehofoficaelaaGreatDoorL07
set_option linter.all false
namespace Go.AL
open Go
abbrev iv:=Out→Prop
def PO(K:iv):n4→Prop:=fun r=>∃ o,r = .out o∧K o
def PV(K:D→U→Prop):n4→Prop:=fun r=>∃ d H,r = .val d H∧K d H
section
variable{T:gP}
def Wo(T:gP)(l:List ff)(s:St)(K:St→Prop):Prop:=Ev T (.ops l s) (PO fun o=>∃ s',o = .norm s'∧K s')
def Wc(T:gP)(c:IR)(s:St)(K:iv):Prop:=Ev T (.code c s) (PO K)
def Wf(T:gP)(f:FuncId)(args:List D)(H:U)(K:D→U→Prop):Prop:=Ev T (.call f args H) (PV K)
theorem Wc.mono{c:IR}{s:St}{K K':iv}(h:Wc T c s K)(hi:∀ o,K o→K' o):Wc T c s K':=Ev.mono h fun _ ⟨o,e,k⟩=>⟨o,e,hi o k⟩
theorem Wf.mono{f:FuncId}{args:List D}{H:U}{K K':D→U→Prop}(h:Wf T f args H K)(hi:∀ d H,K d H→K' d H):Wf T f args H K':=Ev.mono h fun _ ⟨d,H,e,k⟩=>⟨d,H,e,hi d H k⟩
theorem Wo.nil{s:St}{K:St→Prop}(h:K s):Wo T [] s K:=Ev.nil ⟨_,rfl,_,rfl,h⟩
theorem Wo.op{e:ff}{r:List ff}{s:St}{K:St→Prop}{d:D}{δ:Dl}(hg:guardOf s.env.get e.guard=some true)(h:fO s.env.get s.H s.H.length e.op=some (d,δ))
  (t:Wo T r { s with env:=put s.env e.dst d,H:=δ.app s.H (Al.last s.H) } K):Wo T (e::r) s K:=Ev.op hg h t
theorem Wo.yD{e:ff}{r:List ff}{s:St}{K:St→Prop}{d:D}{δ:Dl}(hg:guardOf s.env.get e.guard=some true)(h:lu s.env.get s.H s.H.length e.op=some (d,δ))
  (t:Wo T r { s with env:=put s.env e.dst d,H:=δ.app s.H (Al.last s.H) } K):Wo T (e::r) s K:=Ev.yD hg h t
theorem Wo.off{e:ff}{r:List ff}{s:St}{K:St→Prop}(hg:guardOf s.env.get e.guard=some false)
  (t:Wo T r { s with env:=put s.env e.dst (.val undef) } K):Wo T (e::r) s K:=Ev.off hg t
theorem Wc.skip{s:St}{K:iv}(h:K (.norm s)):Wc T .skip s K:=Ev.skip ⟨_,rfl,h⟩
theorem Wc.ret{s:St}{K:iv}(h:K (.ret s)):Wc T .ret s K:=Ev.ret ⟨_,rfl,h⟩
theorem Wc.exit{id:Nat}{s:St}{K:iv}(h:K (.exit id s)):Wc T (.exit id) s K:=Ev.exit ⟨_,rfl,h⟩
theorem Wc.ops{l:List ff}{s:St}{K:iv}(h:Wo T l s fun s'=>K (.norm s')):Wc T (.ops l) s K:=Ev.Bo (Ev.mono h fun _ ⟨o,e,s',e',k⟩=>⟨o,e,by rw[e'];exact k⟩)
def Ir(T:gP)(b:IR)(K:iv):iv
 | .norm s=>Wc T b s K
 | o=>K o
theorem Wc.seq{a b:IR}{s:St}{K:iv}(h:Wc T a s (Ir T b K)):Wc T (.seq a b) s K:=by
 refine Ev.seq h (fun s' ⟨o,e,k⟩=>?_) fun o ⟨o',e,k⟩ hs=>?_
 ·cases e;exact k
 ·cases e
  cases o with
  | norm=>cases hs
  | exit=>exact⟨_,rfl,k⟩
  | ret=>exact⟨_,rfl,k⟩
def Wc.Vd{c:X}{a b:IR}{s:St}{K:iv}(hc:ev s.env.get c = .b true)(h:Wc T a s K):Wc T (.cond c a b) s K:=Ev.cond (x:=true) hc h
def Wc.Vc{c:X}{a b:IR}{s:St}{K:iv}(hc:ev s.env.get c = .b false)(h:Wc T b s K):Wc T (.cond c a b) s K:=Ev.cond (x:=false) hc h
theorem Wc.cond{c:X}{a b:IR}{s:St}{K:iv}(x:Bool)(hc:ev s.env.get c = .b x)(ht:x=true→Wc T a s K)(hf:x=false→Wc T b s K):Wc T (.cond c a b) s K:=by
 cases x
 ·exact Wc.Vc hc (hf rfl)
 ·exact Wc.Vd hc (ht rfl)
theorem Wc.block{id:Nat}{live:List Nat}{a:IR}{s:St}{K:iv}(h:Wc T a s fun o=>K (l7 id s.H.length live o)):Wc T (.block id live a) s K:=
 Ev.block h fun o ⟨o',e,k⟩=>by cases e;exact⟨_,rfl,k⟩
theorem Wc.loop{live:List Nat}{a:IR}{s:St}{K:iv}(I:Nat→St→Prop)(m:Nat)(h0:I m { s with env:=forget live s.env })
  (h:∀ m s',I m s'→Wc T a s' fun o=>match o with
   | .norm Dd=>∃ m',m'<m∧I m' (cut s.H.length live Dd)
   | o=>K o):Wc T (.loop live a) s K:=by
 have key:∀ m s',I m s'→Ev T (.loop s.H.length live a s') (PO K):=by
  intro m
  induction m using Nat.strongRecOn with
  | ind m ih=>
   intro s' hI
   refine Ev.we (h m s' hI) (fun Dd ⟨o,e,k⟩=>?_) fun o ⟨o',e,k⟩ hs=>?_
   ·cases e
    obtain⟨m',X7,Xb⟩:=k
    exact ih m' X7 _ Xb
   ·cases e
    cases o with
    | norm=>cases hs
    | exit=>exact⟨_,rfl,k⟩
    | ret=>exact⟨_,rfl,k⟩
 exact Ev.loop (key m _ h0)
def O'{n:Nat}{live:List Nat}{s:St}(h:s.H.length≤n):cut n live s = { s with env:=forget live s.env }:=by
 unfold cut;rw[if_pos (.inl h)]
theorem Wf.call{f:FuncId}{args:List D}{H:U}{fn:eV}{K:D→U→Prop}(own:Nat)(hf:T.fn f=some fn)(hl:args.length≤fn.ntmps)
  (h:Wc T fn.body { env:=qI args,H:=H } fun o=>∃ d H',finish fn own H.length o=some (d,H')∧K d H'):Wf T f args H K:=
 Ev.call own hf hl h fun o ⟨o',e,d,H',h1,h2⟩=>by cases e;exact⟨d,H',h1,d,H',rfl,h2⟩
def Wt(T:gP)(l:List ff)(s:St)(K:List Rc→St→Prop):Prop:=Ev T (.trace l s) fun r=>∃ rs s',r = .tr rs s'∧K rs s'
def Wt.nil{s:St}{K:List Rc→St→Prop}(h:K [] s):Wt T [] s K:=Ev.Du ⟨_,_,rfl,h⟩
theorem Wt.op{e:ff}{r:List ff}{s:St}{K:List Rc→St→Prop}{d:D}{δ:Dl}(hg:guardOf s.env.get e.guard=some true)(h:fO s.env.get s.H s.H.length e.op=some (d,δ))
  (t:Wt T r { s with env:=put s.env e.dst d,H:=δ.app s.H (Al.last s.H) } fun rs s'=>K (⟨fX s.env.get s.H e.op,jm s.H.length δ⟩::rs) s'):Wt T (e::r) s K:=
 Ev.Dw hg h t fun rs s' ⟨_,_,e,k⟩=>by cases e;exact⟨_,_,rfl,k⟩
def Wt.off{e:ff}{r:List ff}{s:St}{K:List Rc→St→Prop}(hg:guardOf s.env.get e.guard=some false)
  (t:Wt T r { s with env:=put s.env e.dst (.val undef) } fun rs s'=>K (⟨[],[]⟩::rs) s'):Wt T (e::r) s K:=
 Ev.Dv hg t fun rs s' ⟨_,_,e,k⟩=>by cases e;exact⟨_,_,rfl,k⟩
theorem Wc.kK{iW:List (Nat×Nat)}{l:List ff}{s:St}{K:iv}(h:Wt T l s fun rs s'=>sv iW rs=true∧K (.norm s')):Wc T (.kK iW l) s K:=
 Ev.kK h fun rs s' ⟨_,_,e,k⟩=>by cases e;exact⟨k.1,_,rfl,k.2⟩
theorem Wc.lP{iW:List (Nat×Nat)}{l es:List ff}{s:St}{K:iv}(h:Wt T l s fun rs s'=>sv iW rs=true∧Wo T es s' fun s'=>K (.norm s')):Wc T (.lP iW l es) s K:=
 Ev.lP h (fun rs s' ⟨_,_,q,k⟩=>by cases q;exact k.1) fun rs s' ⟨_,_,q,k⟩=>by cases q;exact Ev.mono k.2 fun _ ⟨o,e,s',e2,kk⟩=>⟨o,e,by rw[e2];exact kk⟩
def WJ{live keys:List Nat}{env:Env}(h:(live.all fun k=>keys.contains k)=true):forget live (forget keys env)=forget live env:=by
 have key:∀ (l:List Nat) (k:Nat),k∈l→Env.get (l.map fun j=>(j,env.get j)) k=env.get k:=by
  intro l
  induction l with
  | nil=>intro k hk;cases hk
  | cons j r ih=>
   intro k hk
   simp only[List.map_cons,Env.sZ]
   split
   ·rename_i e;subst e;rfl
   ·rename_i e
    rcases av.1 hk with rfl|hk
    ·exact absurd rfl e
    ·exact ih k hk
 unfold forget
 refine au fun k hk=>?_
 have:=ar.1 h k hk
 rw[key keys k (by simpa using this)]
end
end Go.AL
namespace Go.AL
open Go
attribute [simp] qI forget Env.sZ Al.last
@[irreducible] def f1(n:Int):List D:=[.i n]
@[irreducible] def fB(b:Bool):List D:=[.b b]
@[simp] theorem zl(n:Int):f1 n = [.i n]:=by unfold f1;rfl
@[simp] theorem By(b:Bool):fB b = [.b b]:=by unfold fB;rfl
def dI(l:List Int):D:=.sl 1 (l.map f1)
def dL{α:Type}(sz:Nat)(f:α→List D)(l:List α):D:=.sl sz (l.map f)
def dN{α:Type}(sz:Nat)(f:α→List D):List α→D
 | []=>.eU
 | l=>.sl sz (l.map f)
structure Pos where
 cs:List Int
 h0:List Int
 h1:List Int
 fH:Int
 side:Int
 deriving DecidableEq,Inhabited
def Pos.cells(p:Pos):List D:=[dI p.cs,dI p.h0,dI p.h1,.i p.fH,.i p.side]
def dP(p:Pos):D:=.agg p.cells
def gA(l:List Pos):D:=.sl 5 (l.map Pos.cells)
abbrev fe:=Int×Int
@[irreducible] def fS(x:fe):List D:=[.i x.1,.i x.2]
@[simp] theorem Bz(x:fe):fS x = [.i x.1,.i x.2]:=by unfold fS;rfl
def gS(l:List fe):D:=.sl 2 (l.map fS)
@[irreducible] def fP(l:List fe):List D:=[gS l]
@[simp] theorem Wx(l:List fe):fP l = [gS l]:=by unfold fP;rfl
@[irreducible] def fI(l:List Int):List D:=[dI l]
@[simp] theorem Ww(l:List Int):fI l = [dI l]:=by unfold fI;rfl
structure Kind where
 name:ByteArray
 iG:List (List fe)
 pN:Bool
 deriving Inhabited
def Kind.cells(k:Kind):List D:=[.val (.string k.name),dN 1 fP k.iG,.b k.pN]
structure Clause where
 cond:Int
 kind:Int
 n:Int
 out:Int
 deriving DecidableEq,Inhabited
def Clause.cells(c:Clause):List D:=[.i c.cond,.i c.kind,.i c.n,.i c.out]
structure eY where
 size:Int
 next:List (List Int)
 iT:List Int
 kinds:List Kind
 fH:Int
 om:Bool
 clauses:List Clause
 blocked:Int
 vz:Int
 deriving Inhabited
def eY.cells(g:eY):List D:=[.i g.size,.sl 1 (g.next.map fI),dI g.iT,.sl 3 (g.kinds.map Kind.cells),.i g.fH,.b g.om,dN 4 Clause.cells g.clauses,.i g.blocked,.i g.vz]
def dG(g:eY):D:=.agg g.cells
def eY.iY(g:eY):D:=.agg [.i g.size,.sl 1 (g.next.map fI),dI g.iT]
theorem zg{α:Type}{f:α→List D}(h:∀ a,fE (f a)=true):∀ l:List α,zf (l.map f)=true
 | []=>rfl
 | a::l=>by simp[zf,h a,zg h l]
@[simp] theorem ak5(n:Int):closed (.i n)=true:=by simp only[closed]
@[simp] theorem UZ(b:Bool):closed (.b b)=true:=by simp only[closed]
@[simp] theorem akS(l:List Int):closed (dI l)=true:=by
 simp only[dI,closed]
 exact zg (fun n=>by simp[fE]) l
@[simp] theorem akZ(l:List fe):closed (gS l)=true:=by
 simp only[gS,closed]
 exact zg (fun n=>by simp[fE]) l
def w6{α:Type}{sz:Nat}{f:α→List D}(h:∀ a,fE (f a)=true)(l:List α):closed (dN sz f l)=true:=by
 cases l with
 | nil=>rfl
 | cons a l=>exact zg h (a::l)
@[simp] theorem UY(p:Pos):fE p.cells=true:=by simp[Pos.cells,fE,closed]
@[simp] theorem ak0(l:List Pos):closed (gA l)=true:=by
 simp only[gA,closed]
 exact zg (fun p=>UY p) l
@[simp] theorem akM(k:Kind):fE k.cells=true:=by
 simp only[Kind.cells,fE,w6 (f:=fP) (sz:=1) (fun a=>by simp[fE]),UZ,Bool.and_true]
 rfl
@[simp] theorem akL(c:Clause):fE c.cells=true:=by simp only[Clause.cells,fE,closed,Bool.and_self]
@[simp] theorem akQ(l:List Clause):closed (dN 4 Clause.cells l)=true:=w6 (fun _=>rfl) l
section
variable{α:Type}{sz:Nat}{f:α→List D}{H:U}
@[simp] theorem RD(sz:Nat)(es:List (List D))(H:U):oj .slice (.sl sz es) H=some (.i es.length):=rfl
@[simp] theorem anf(H:U):oj .slice .eU H=some (.i 0):=rfl
@[simp] theorem anh(v g sz off n:Nat)(H:U):oj .slice (.eX v g sz off n) H=some (.i n):=rfl
@[simp] theorem ani(s:ByteArray)(H:U):oj .string (.val (.string s)) H=some (.i s.size):=rfl
@[simp] theorem am7(l:List Int)(H:U):oj .slice (dI l) H=some (.i l.length):=by simp[dI]
@[simp] theorem anb(l:List Pos)(H:U):oj .slice (gA l) H=some (.i l.length):=by simp[gA]
@[simp] theorem ana(l:List fe)(H:U):oj .slice (gS l) H=some (.i l.length):=by simp[gS]
@[simp] theorem am8(l:List α)(H:U):oj .slice (dN sz f l) H=some (.i l.length):=by
 cases l<;>simp[dN]
end
section
variable(k:IntKind)(a b:Int)
@[simp] theorem ajq:jl .eql k a b=some (.b (a == b)):=rfl
@[simp] theorem ajw:jl .neq k a b=some (.b (a != b)):=rfl
@[simp] theorem aju:jl .lss k a b=some (.b (decide (a<b))):=rfl
@[simp] theorem ajt:jl .leq k a b=some (.b (decide (a≤b))):=rfl
@[simp] theorem ajs:jl .gtr k a b=some (.b (decide (a>b))):=rfl
@[simp] theorem ajr:jl .geq k a b=some (.b (decide (a≥b))):=rfl
@[simp] theorem ajo:jl .and k a b=some (.val (.int k (bits .and k a b))):=rfl
@[simp] theorem ajp:jl .andNot k a b=some (.val (.int k (bits .andNot k a b))):=rfl
