/- 8 -/
import Derived.Test.YtnaefnajkaohgaaGreatDoorH06
set_option linter.all false
namespace Go.AL
open Go
abbrev gS:=Out→Prop
def PO(K:gS):nY→Prop:=fun r=>∃ o,r = .out o∧K o
def PV(K:D→U→Prop):nY→Prop:=fun r=>∃ d H,r = .val d H∧K d H
section
variable{T:gy}
def Wo(T:gy)(l:List eT)(s:St)(K:St→Prop):Prop:=Ev T (.ops l s) (PO fun o=>∃ s',o = .norm s'∧K s')
def Wc(T:gy)(c:IR)(s:St)(K:gS):Prop:=Ev T (.code c s) (PO K)
def Wf(T:gy)(f:FuncId)(args:List D)(H:U)(K:D→U→Prop):Prop:=Ev T (.call f args H) (PV K)
theorem Wc.mono{c:IR}{s:St}{K K':gS}(h:Wc T c s K)(hi:∀ o,K o→K' o):Wc T c s K':=Ev.mono h fun _ ⟨o,e,k⟩=>⟨o,e,hi o k⟩
theorem Wf.mono{f:FuncId}{args:List D}{H:U}{K K':D→U→Prop}(h:Wf T f args H K)(hi:∀ d H,K d H→K' d H):Wf T f args H K':=Ev.mono h fun _ ⟨d,H,e,k⟩=>⟨d,H,e,hi d H k⟩
theorem Wo.nil{s:St}{K:St→Prop}(h:K s):Wo T [] s K:=Ev.nil ⟨_,rfl,_,rfl,h⟩
theorem Wo.op{e:eT}{r:List eT}{s:St}{K:St→Prop}{d:D}{δ:Dl}(hg:guardOf s.env.get e.guard=some true)(h:fG s.env.get s.H s.H.length e.op=some (d,δ))
  (t:Wo T r { s with env:=put s.env e.dst d,H:=δ.app s.H (Al.last s.H) } K):Wo T (e::r) s K:=Ev.op hg h t
theorem Wo.yy{e:eT}{r:List eT}{s:St}{K:St→Prop}{d:D}{δ:Dl}(hg:guardOf s.env.get e.guard=some true)(h:l6 s.env.get s.H s.H.length e.op=some (d,δ))
  (t:Wo T r { s with env:=put s.env e.dst d,H:=δ.app s.H (Al.last s.H) } K):Wo T (e::r) s K:=Ev.yy hg h t
theorem Wo.off{e:eT}{r:List eT}{s:St}{K:St→Prop}(hg:guardOf s.env.get e.guard=some false)
  (t:Wo T r { s with env:=put s.env e.dst (.val undef) } K):Wo T (e::r) s K:=Ev.off hg t
theorem Wc.skip{s:St}{K:gS}(h:K (.norm s)):Wc T .skip s K:=Ev.skip ⟨_,rfl,h⟩
theorem Wc.ret{s:St}{K:gS}(h:K (.ret s)):Wc T .ret s K:=Ev.ret ⟨_,rfl,h⟩
theorem Wc.exit{id:Nat}{s:St}{K:gS}(h:K (.exit id s)):Wc T (.exit id) s K:=Ev.exit ⟨_,rfl,h⟩
theorem Wc.ops{l:List eT}{s:St}{K:gS}(h:Wo T l s fun s'=>K (.norm s')):Wc T (.ops l) s K:=Ev.Bu (Ev.mono h fun _ ⟨o,e,s',e',k⟩=>⟨o,e,by rw[e'];exact k⟩)
def IK(T:gy)(b:IR)(K:gS):gS
 | .norm s=>Wc T b s K
 | o=>K o
theorem Wc.seq{a b:IR}{s:St}{K:gS}(h:Wc T a s (IK T b K)):Wc T (.seq a b) s K:=by
 refine Ev.seq h (fun s' ⟨o,e,k⟩=>?_) fun o ⟨o',e,k⟩ hs=>?_
 ·cases e;exact k
 ·cases e
  cases o with
  | norm=>cases hs
  | exit=>exact⟨_,rfl,k⟩
  | ret=>exact⟨_,rfl,k⟩
def Wc.UN{c:X}{a b:IR}{s:St}{K:gS}(hc:ev s.env.get c = .b true)(h:Wc T a s K):Wc T (.cond c a b) s K:=Ev.cond (x:=true) hc h
def Wc.UM{c:X}{a b:IR}{s:St}{K:gS}(hc:ev s.env.get c = .b false)(h:Wc T b s K):Wc T (.cond c a b) s K:=Ev.cond (x:=false) hc h
theorem Wc.cond{c:X}{a b:IR}{s:St}{K:gS}(x:Bool)(hc:ev s.env.get c = .b x)(ht:x=true→Wc T a s K)(hf:x=false→Wc T b s K):Wc T (.cond c a b) s K:=by
 cases x
 ·exact Wc.UM hc (hf rfl)
 ·exact Wc.UN hc (ht rfl)
theorem Wc.block{id:Nat}{live:List Nat}{a:IR}{s:St}{K:gS}(h:Wc T a s fun o=>K (mc id s.H.length live o)):Wc T (.block id live a) s K:=
 Ev.block h fun o ⟨o',e,k⟩=>by cases e;exact⟨_,rfl,k⟩
theorem Wc.loop{live:List Nat}{a:IR}{s:St}{K:gS}(I:Nat→St→Prop)(m:Nat)(h0:I m { s with env:=forget live s.env })
  (h:∀ m s',I m s'→Wc T a s' fun o=>match o with
   | .norm yw=>∃ m',m'<m∧I m' (cut s.H.length live yw)
   | o=>K o):Wc T (.loop live a) s K:=by
 have key:∀ m s',I m s'→Ev T (.loop s.H.length live a s') (PO K):=by
  intro m
  induction m using Nat.strongRecOn with
  | ind m ih=>
   intro s' hI
   refine Ev.wj (h m s' hI) (fun yw ⟨o,e,k⟩=>?_) fun o ⟨o',e,k⟩ hs=>?_
   ·cases e
    obtain⟨m',XR,WL⟩:=k
    exact ih m' XR _ WL
   ·cases e
    cases o with
    | norm=>cases hs
    | exit=>exact⟨_,rfl,k⟩
    | ret=>exact⟨_,rfl,k⟩
 exact Ev.loop (key m _ h0)
def By{n:Nat}{live:List Nat}{s:St}(h:s.H.length≤n):cut n live s = { s with env:=forget live s.env }:=by
 unfold cut;rw[if_pos h]
theorem Wf.call{f:FuncId}{args:List D}{H:U}{fn:eI}{K:D→U→Prop}(own:Nat)(hf:T.fn f=some fn)(hl:args.length≤fn.ntmps)
  (h:Wc T fn.body { env:=qY args,H:=H } fun o=>∃ d H',finish fn own H.length o=some (d,H')∧K d H'):Wf T f args H K:=
 Ev.call own hf hl h fun o ⟨o',e,d,H',h1,h2⟩=>by cases e;exact⟨d,H',h1,d,H',rfl,h2⟩
def Wt(T:gy)(l:List eT)(s:St)(K:List Rc→St→Prop):Prop:=Ev T (.trace l s) fun r=>∃ rs s',r = .tr rs s'∧K rs s'
def Wt.nil{s:St}{K:List Rc→St→Prop}(h:K [] s):Wt T [] s K:=Ev.Dz ⟨_,_,rfl,h⟩
theorem Wt.op{e:eT}{r:List eT}{s:St}{K:List Rc→St→Prop}{d:D}{δ:Dl}(hg:guardOf s.env.get e.guard=some true)(h:fG s.env.get s.H s.H.length e.op=some (d,δ))
  (t:Wt T r { s with env:=put s.env e.dst d,H:=δ.app s.H (Al.last s.H) } fun rs s'=>K (⟨fH s.env.get s.H e.op,iS s.H.length δ⟩::rs) s'):Wt T (e::r) s K:=
 Ev.DB hg h t fun rs s' ⟨_,_,e,k⟩=>by cases e;exact⟨_,_,rfl,k⟩
def Wt.off{e:eT}{r:List eT}{s:St}{K:List Rc→St→Prop}(hg:guardOf s.env.get e.guard=some false)
  (t:Wt T r { s with env:=put s.env e.dst (.val undef) } fun rs s'=>K (⟨[],[]⟩::rs) s'):Wt T (e::r) s K:=
 Ev.DA hg t fun rs s' ⟨_,_,e,k⟩=>by cases e;exact⟨_,_,rfl,k⟩
theorem Wc.kr{iH:List (Nat×Nat)}{l:List eT}{s:St}{K:gS}(h:Wt T l s fun rs s'=>sJ iH rs=true∧K (.norm s')):Wc T (.kr iH l) s K:=
 Ev.kr h fun rs s' ⟨_,_,e,k⟩=>by cases e;exact⟨k.1,_,rfl,k.2⟩
theorem Wc.lF{iH:List (Nat×Nat)}{l es:List eT}{s:St}{K:gS}(h:Wt T l s fun rs s'=>sJ iH rs=true∧Wo T es s' fun s'=>K (.norm s')):Wc T (.lF iH l es) s K:=
 Ev.lF h (fun rs s' ⟨_,_,q,k⟩=>by cases q;exact k.1) fun rs s' ⟨_,_,q,k⟩=>by cases q;exact Ev.mono k.2 fun _ ⟨o,e,s',e2,kk⟩=>⟨o,e,by rw[e2];exact kk⟩
def Pr{live keys:List Nat}{env:Env}(h:(live.all fun k=>keys.contains k)=true):forget live (forget keys env)=forget live env:=by
 have key:∀ (l:List Nat) (k:Nat),k∈l→Env.get (l.map fun j=>(j,env.get j)) k=env.get k:=by
  intro l
  induction l with
  | nil=>intro k hk;cases hk
  | cons j r ih=>
   intro k hk
   simp only[List.map_cons,Env.tj]
   split
   ·rename_i e;subst e;rfl
   ·rename_i e
    rcases au.1 hk with rfl|hk
    ·exact absurd rfl e
    ·exact ih k hk
 unfold forget
 refine aj fun k hk=>?_
 have:=aq.1 h k hk
 rw[key keys k (by simpa using this)]
end
end Go.AL
namespace Go.AL
open Go
attribute [simp] qY forget Env.tj Al.last
@[irreducible] def f1(n:Int):List D:=[.i n]
@[irreducible] def fB(b:Bool):List D:=[.b b]
@[simp] theorem vK(n:Int):f1 n = [.i n]:=by unfold f1;rfl
@[simp] theorem Kh(b:Bool):fB b = [.b b]:=by unfold fB;rfl
def dI(l:List Int):D:=.sl 1 (l.map f1)
def dN{α:Type}(sz:Nat)(f:α→List D):List α→D
 | []=>.eG
 | l=>.sl sz (l.map f)
structure Pos where
 cs:List Int
 h0:List Int
 h1:List Int
 ff:Int
 side:Int
 deriving DecidableEq,Inhabited
def Pos.cells(p:Pos):List D:=[dI p.cs,dI p.h0,dI p.h1,.i p.ff,.i p.side]
def dP(p:Pos):D:=.agg p.cells
def e7(l:List Pos):D:=.sl 5 (l.map Pos.cells)
abbrev eO:=Int×Int
@[irreducible] def fS(x:eO):List D:=[.i x.1,.i x.2]
@[simp] theorem uC(x:eO):fS x = [.i x.1,.i x.2]:=by unfold fS;rfl
def fh(l:List eO):D:=.sl 2 (l.map fS)
@[irreducible] def fP(l:List eO):List D:=[fh l]
@[simp] theorem VX(l:List eO):fP l = [fh l]:=by unfold fP;rfl
@[irreducible] def fI(l:List Int):List D:=[dI l]
@[simp] theorem VW(l:List Int):fI l = [dI l]:=by unfold fI;rfl
structure Kind where
 name:ByteArray
 gT:List (List eO)
 pY:Bool
 deriving Inhabited
def Kind.cells(k:Kind):List D:=[.val (.string k.name),dN 1 fP k.gT,.b k.pY]
structure Clause where
 cond:Int
 kind:Int
 n:Int
 out:Int
 deriving DecidableEq,Inhabited
def Clause.cells(c:Clause):List D:=[.i c.cond,.i c.kind,.i c.n,.i c.out]
structure eH where
 size:Int
 next:List (List Int)
 gU:List Int
 kinds:List Kind
 ff:Int
 lg:Bool
 clauses:List Clause
 blocked:Int
 n9:Int
 deriving Inhabited
def eH.cells(g:eH):List D:=[.i g.size,.sl 1 (g.next.map fI),dI g.gU,.sl 3 (g.kinds.map Kind.cells),.i g.ff,.b g.lg,dN 4 Clause.cells g.clauses,.i g.blocked,.i g.n9]
def dG(g:eH):D:=.agg g.cells
def eH.iw(g:eH):D:=.agg [.i g.size,.sl 1 (g.next.map fI),dI g.gU]
theorem zd{α:Type}{f:α→List D}(h:∀ a,fu (f a)=true):∀ l:List α,zc (l.map f)=true
 | []=>rfl
 | a::l=>by simp[zc,h a,zd h l]
@[simp] theorem akY(n:Int):closed (.i n)=true:=by simp only[closed]
@[simp] theorem Uy(b:Bool):closed (.b b)=true:=by simp only[closed]
@[simp] theorem GQ(l:List Int):closed (dI l)=true:=by
 simp only[dI,closed]
 exact zd (fun n=>by simp[fu]) l
@[simp] theorem akT(l:List eO):closed (fh l)=true:=by
 simp only[fh,closed]
 exact zd (fun n=>by simp[fu]) l
def xb{α:Type}{sz:Nat}{f:α→List D}(h:∀ a,fu (f a)=true)(l:List α):closed (dN sz f l)=true:=by
 cases l with
 | nil=>rfl
 | cons a l=>exact zd h (a::l)
@[simp] theorem Ux(p:Pos):fu p.cells=true:=by simp[Pos.cells,fu,closed]
@[simp] theorem Uz(l:List Pos):closed (e7 l)=true:=by
 simp only[e7,closed]
 exact zd (fun p=>Ux p) l
@[simp] theorem akI(k:Kind):fu k.cells=true:=by
 simp only[Kind.cells,fu,xb (f:=fP) (sz:=1) (fun a=>by simp[fu]),Uy,Bool.and_true]
 rfl
@[simp] theorem akH(c:Clause):fu c.cells=true:=by simp only[Clause.cells,fu,closed,Bool.and_self]
@[simp] theorem akM(l:List Clause):closed (dN 4 Clause.cells l)=true:=xb (fun _=>rfl) l
section
variable{α:Type}{sz:Nat}{f:α→List D}{H:U}
@[simp] theorem Rj(sz:Nat)(es:List (List D))(H:U):oq .slice (.sl sz es) H=some (.i es.length):=rfl
@[simp] theorem ana(H:U):oq .slice .eG H=some (.i 0):=rfl
@[simp] theorem anc(v g sz off n:Nat)(H:U):oq .slice (.eF v g sz off n) H=some (.i n):=rfl
@[simp] theorem am3(l:List Int)(H:U):oq .slice (dI l) H=some (.i l.length):=by simp[dI]
@[simp] theorem am7(l:List Pos)(H:U):oq .slice (e7 l) H=some (.i l.length):=by simp[e7]
@[simp] theorem am6(l:List eO)(H:U):oq .slice (fh l) H=some (.i l.length):=by simp[fh]
@[simp] theorem am4(l:List α)(H:U):oq .slice (dN sz f l) H=some (.i l.length):=by
 cases l<;>simp[dN]
end
section
variable(k:IntKind)(a b:Int)