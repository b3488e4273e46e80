/- Part 8 of the proof of skewer.skewerlaw15.TableValues. -/
import Derived.Test.YtnaefnajkaohgaaGreatDoorE06
set_option linter.all false
namespace Go.AL
open Go
abbrev gA:=Out→Prop
def PO(K:gA):mS→Prop:=fun r=>∃ o,r = .out o∧K o
def PV(K:D→U→Prop):mS→Prop:=fun r=>∃ d H,r = .val d H∧K d H
section
variable{T:gj}
def Wo(T:gj)(l:List fC)(s:St)(K:St→Prop):Prop:=Ev T (.ops l s) (PO fun o=>∃ s',o = .norm s'∧K s')
def Wc(T:gj)(c:IR)(s:St)(K:gA):Prop:=Ev T (.code c s) (PO K)
def Wf(T:gj)(f:FuncId)(args:List D)(H:U)(K:D→U→Prop):Prop:=Ev T (.call f args H) (PV K)
theorem Wc.mono{c:IR}{s:St}{K K':gA}(h:Wc T c s K)(hi:∀ o,K o→K' o):Wc T c s K':=Ev.mono h fun _ ⟨o,e,k⟩=>⟨o,e,hi o k⟩
theorem Wf.mono{f:FuncId}{args:List D}{H:U}{K K':D→U→Prop}(h:Wf T f args H K)(hi:∀ d H,K d H→K' d H):Wf T f args H K':=Ev.mono h fun _ ⟨d,H,e,k⟩=>⟨d,H,e,hi d H k⟩
theorem Wo.nil{s:St}{K:St→Prop}(h:K s):Wo T [] s K:=Ev.nil ⟨_,rfl,_,rfl,h⟩
theorem Wo.op{e:fC}{r:List fC}{s:St}{K:St→Prop}{d:D}{δ:Dl}(hg:guardOf s.env.get e.guard=some true)(h:fH s.env.get s.H s.H.length e.op=some (d,δ))
  (t:Wo T r { s with env:=put s.env e.dst d,H:=δ.app s.H (Al.last s.H) } K):Wo T (e::r) s K:=Ev.op hg h t
theorem Wo.wU{e:fC}{r:List fC}{s:St}{K:St→Prop}{d:D}{δ:Dl}(hg:guardOf s.env.get e.guard=some true)(h:kY s.env.get s.H s.H.length e.op=some (d,δ))
  (t:Wo T r { s with env:=put s.env e.dst d,H:=δ.app s.H (Al.last s.H) } K):Wo T (e::r) s K:=Ev.wU hg h t
theorem Wo.off{e:fC}{r:List fC}{s:St}{K:St→Prop}(hg:guardOf s.env.get e.guard=some false)
  (t:Wo T r { s with env:=put s.env e.dst (.val undef) } K):Wo T (e::r) s K:=Ev.off hg t
theorem Wc.skip{s:St}{K:gA}(h:K (.norm s)):Wc T .skip s K:=Ev.skip ⟨_,rfl,h⟩
theorem Wc.ret{s:St}{K:gA}(h:K (.ret s)):Wc T .ret s K:=Ev.ret ⟨_,rfl,h⟩
theorem Wc.exit{id:Nat}{s:St}{K:gA}(h:K (.exit id s)):Wc T (.exit id) s K:=Ev.exit ⟨_,rfl,h⟩
theorem Wc.ops{l:List fC}{s:St}{K:gA}(h:Wo T l s fun s'=>K (.norm s')):Wc T (.ops l) s K:=Ev.zS (Ev.mono h fun _ ⟨o,e,s',e',k⟩=>⟨o,e,by rw[e'];exact k⟩)
def GD(T:gj)(b:IR)(K:gA):gA
 | .norm s=>Wc T b s K
 | o=>K o
theorem Wc.seq{a b:IR}{s:St}{K:gA}(h:Wc T a s (GD T b K)):Wc T (.seq a b) s K:=by
 refine Ev.seq h (fun s' ⟨o,e,k⟩=>?_) fun o ⟨o',e,k⟩ hs=>?_
 ·cases e;exact k
 ·cases e
  cases o with
  | norm=>cases hs
  | exit=>exact⟨_,rfl,k⟩
  | ret=>exact⟨_,rfl,k⟩
theorem Wc.SO{c:X}{a b:IR}{s:St}{K:gA}(hc:ev s.env.get c = .b true)(h:Wc T a s K):Wc T (.cond c a b) s K:=Ev.cond (x:=true) hc h
theorem Wc.SN{c:X}{a b:IR}{s:St}{K:gA}(hc:ev s.env.get c = .b false)(h:Wc T b s K):Wc T (.cond c a b) s K:=Ev.cond (x:=false) hc h
theorem Wc.cond{c:X}{a b:IR}{s:St}{K:gA}(x:Bool)(hc:ev s.env.get c = .b x)(ht:x=true→Wc T a s K)(hf:x=false→Wc T b s K):Wc T (.cond c a b) s K:=by
 cases x
 ·exact Wc.SN hc (hf rfl)
 ·exact Wc.SO hc (ht rfl)
theorem Wc.block{id:Nat}{live:List Nat}{a:IR}{s:St}{K:gA}(h:Wc T a s fun o=>K (k8 id s.H.length live o)):Wc T (.block id live a) s K:=
 Ev.block h fun o ⟨o',e,k⟩=>by cases e;exact⟨_,rfl,k⟩
theorem Wc.loop{live:List Nat}{a:IR}{s:St}{K:gA}(I:Nat→St→Prop)(m:Nat)(h0:I m { s with env:=forget live s.env })
  (h:∀ m s',I m s'→Wc T a s' fun o=>match o with
   | .norm wT=>∃ m',m'<m∧I m' (cut s.H.length live wT)
   | o=>K o):Wc T (.loop live a) s K:=by
 have key:∀ m s',I m s'→Ev T (.loop s.H.length live a s') (PO K):=by
  intro m
  induction m using Nat.strongRecOn with
  | ind m ih=>
   intro s' hI
   refine Ev.uH (h m s' hI) (fun wT ⟨o,e,k⟩=>?_) fun o ⟨o',e,k⟩ hs=>?_
   ·cases e
    obtain⟨m',VE,Uz⟩:=k
    exact ih m' VE _ Uz
   ·cases e
    cases o with
    | norm=>cases hs
    | exit=>exact⟨_,rfl,k⟩
    | ret=>exact⟨_,rfl,k⟩
 exact Ev.loop (key m _ h0)
theorem xA{n:Nat}{live:List Nat}{s:St}(h:s.H.length≤n):cut n live s = { s with env:=forget live s.env }:=by
 unfold cut;rw[if_pos h]
theorem Wf.call{f:FuncId}{args:List D}{H:U}{fn:eW}{K:D→U→Prop}(own:Nat)(hf:T.fn f=some fn)(hl:args.length≤fn.ntmps)
  (h:Wc T fn.body { env:=pL args,H:=H } fun o=>∃ d H',finish fn own H.length o=some (d,H')∧K d H'):Wf T f args H K:=
 Ev.call own hf hl h fun o ⟨o',e,d,H',h1,h2⟩=>by cases e;exact⟨d,H',h1,d,H',rfl,h2⟩
def Wt(T:gj)(l:List fC)(s:St)(K:List Rc→St→Prop):Prop:=Ev T (.trace l s) fun r=>∃ rs s',r = .tr rs s'∧K rs s'
theorem Wt.nil{s:St}{K:List Rc→St→Prop}(h:K [] s):Wt T [] s K:=Ev.BZ ⟨_,_,rfl,h⟩
theorem Wt.op{e:fC}{r:List fC}{s:St}{K:List Rc→St→Prop}{d:D}{δ:Dl}(hg:guardOf s.env.get e.guard=some true)(h:fH s.env.get s.H s.H.length e.op=some (d,δ))
  (t:Wt T r { s with env:=put s.env e.dst d,H:=δ.app s.H (Al.last s.H) } fun rs s'=>K (⟨fJ s.env.get s.H e.op,iy s.H.length δ⟩::rs) s'):Wt T (e::r) s K:=
 Ev.B1 hg h t fun rs s' ⟨_,_,e,k⟩=>by cases e;exact⟨_,_,rfl,k⟩
theorem Wt.off{e:fC}{r:List fC}{s:St}{K:List Rc→St→Prop}(hg:guardOf s.env.get e.guard=some false)
  (t:Wt T r { s with env:=put s.env e.dst (.val undef) } fun rs s'=>K (⟨[],[]⟩::rs) s'):Wt T (e::r) s K:=
 Ev.B0 hg t fun rs s' ⟨_,_,e,k⟩=>by cases e;exact⟨_,_,rfl,k⟩
theorem Wc.draw{im:List (Nat×Nat)}{l:List fC}{s:St}{K:gA}(h:Wt T l s fun rs s'=>qX im rs=true∧K (.norm s')):Wc T (.draw im l) s K:=
 Ev.draw h fun rs s' ⟨_,_,e,k⟩=>by cases e;exact⟨k.1,_,rfl,k.2⟩
theorem Wc.kF{im:List (Nat×Nat)}{l es:List fC}{s:St}{K:gA}(h:Wt T l s fun rs s'=>qX im rs=true∧Wo T es s' fun s'=>K (.norm s')):Wc T (.kF im l es) s K:=
 Ev.kF h (fun rs s' ⟨_,_,q,k⟩=>by cases q;exact k.1) fun rs s' ⟨_,_,q,k⟩=>by cases q;exact Ev.mono k.2 fun _ ⟨o,e,s',e2,kk⟩=>⟨o,e,by rw[e2];exact kk⟩
theorem ND{live keys:List Nat}{env:Env}(h:(live.all fun k=>keys.contains k)=true):forget live (forget keys env)=forget live env:=by
 have key:∀ (l:List Nat) (k:Nat),k∈l→Env.get (l.map fun j=>(j,env.get j)) k=env.get k:=by
  intro l
  induction l with
  | nil=>intro k hk;cases hk
  | cons j r ih=>
   intro k hk
   simp only[List.map_cons,Env.rE]
   split
   ·rename_i e;subst e;rfl
   ·rename_i e
    rcases aq.1 hk with rfl|hk
    ·exact absurd rfl e
    ·exact ih k hk
 unfold forget
 refine aj fun k hk=>?_
 have:=ar.1 h k hk
 rw[key keys k (by simpa using this)]
end
end Go.AL
namespace Go.AL
open Go
attribute [simp] pL forget Env.rE Al.last
@[irreducible] def f1(n:Int):List D:=[.i n]
@[irreducible] def fB(b:Bool):List D:=[.b b]
@[simp] theorem rC(n:Int):f1 n = [.i n]:=by unfold f1;rfl
@[simp] theorem Nk(b:Bool):fB b = [.b b]:=by unfold fB;rfl
def dI(l:List Int):D:=.sl 1 (l.map f1)
def dL{α:Type}(sz:Nat)(f:α→List D)(l:List α):D:=.sl sz (l.map f)
def dN{α:Type}(sz:Nat)(f:α→List D):List α→D
 | []=>.emp
 | l=>.sl sz (l.map f)
structure Pos where
 cs:List Int
 h0:List Int
 h1:List Int
 fq:Int
 side:Int
 deriving DecidableEq,Inhabited
def Pos.cells(p:Pos):List D:=[dI p.cs,dI p.h0,dI p.h1,.i p.fq,.i p.side]
def dP(p:Pos):D:=.agg p.cells
def gb(l:List Pos):D:=.sl 5 (l.map Pos.cells)
abbrev eY:=Int×Int
@[irreducible] def fS(x:eY):List D:=[.i x.1,.i x.2]
@[simp] theorem tY(x:eY):fS x = [.i x.1,.i x.2]:=by unfold fS;rfl
def gQ(l:List eY):D:=.sl 2 (l.map fS)
@[irreducible] def fP(l:List eY):List D:=[gQ l]
@[simp] theorem TQ(l:List eY):fP l = [gQ l]:=by unfold fP;rfl
@[irreducible] def fI(l:List Int):List D:=[dI l]
@[simp] theorem TP(l:List Int):fI l = [dI l]:=by unfold fI;rfl
structure Kind where
 name:ByteArray
 gD:List (List eY)
 mZ:Bool
 deriving Inhabited
def Kind.cells(k:Kind):List D:=[.val (.string k.name),dN 1 fP k.gD,.b k.mZ]
structure Clause where
 cond:Int
 kind:Int
 n:Int
 out:Int
 deriving DecidableEq,Inhabited
def Clause.cells(c:Clause):List D:=[.i c.cond,.i c.kind,.i c.n,.i c.out]
structure eU where
 size:Int
 next:List (List Int)
 gV:List Int
 kinds:List Kind
 fq:Int
 lq:Bool
 clauses:List Clause
 blocked:Int
 o4:Int
 deriving Inhabited
def eU.cells(g:eU):List D:=[.i g.size,.sl 1 (g.next.map fI),dI g.gV,.sl 3 (g.kinds.map Kind.cells),.i g.fq,.b g.lq,dN 4 Clause.cells g.clauses,.i g.blocked,.i g.o4]
def dG(g:eU):D:=.agg g.cells
def eU.ib(g:eU):D:=.agg [.i g.size,.sl 1 (g.next.map fI),dI g.gV]
theorem xw{α:Type}{f:α→List D}(h:∀ a,fy (f a)=true):∀ l:List α,xv (l.map f)=true
 | []=>rfl
 | a::l=>by simp[xv,h a,xw h l]
@[simp] theorem aiA(n:Int):closed (.i n)=true:=by simp only[closed]
@[simp] theorem Sz(b:Bool):closed (.b b)=true:=by simp only[closed]
@[simp] theorem EL(l:List Int):closed (dI l)=true:=by
 simp only[dI,closed]
 exact xw (fun n=>by simp[fy]) l
@[simp] theorem aiv(l:List eY):closed (gQ l)=true:=by
 simp only[gQ,closed]
 exact xw (fun n=>by simp[fy]) l
theorem vp{α:Type}{sz:Nat}{f:α→List D}(h:∀ a,fy (f a)=true)(l:List α):closed (dN sz f l)=true:=by
 cases l with
 | nil=>rfl
 | cons a l=>exact xw h (a::l)
@[simp] theorem Sy(p:Pos):fy p.cells=true:=by simp[Pos.cells,fy,closed]
@[simp] theorem SA(l:List Pos):closed (gb l)=true:=by
 simp only[gb,closed]
 exact xw (fun p=>Sy p) l
@[simp] theorem aik(k:Kind):fy k.cells=true:=by
 simp only[Kind.cells,fy,vp (f:=fP) (sz:=1) (fun a=>by simp[fy]),Sz,Bool.and_true]
 rfl
@[simp] theorem aij(c:Clause):fy c.cells=true:=by simp only[Clause.cells,fy,closed,Bool.and_self]
@[simp] theorem aio(l:List Clause):closed (dN 4 Clause.cells l)=true:=vp (fun _=>rfl) l
section
variable{α:Type}{sz:Nat}{f:α→List D}{H:U}
@[simp] theorem Pj(sz:Nat)(es:List (List D))(H:U):na .slice (.sl sz es) H=some (.i es.length):=rfl
@[simp] theorem akG(H:U):na .slice .emp H=some (.i 0):=rfl
@[simp] theorem akI(v g sz off n:Nat)(H:U):na .slice (.eT v g sz off n) H=some (.i n):=rfl
@[simp] theorem akJ(s:ByteArray)(H:U):na .string (.val (.string s)) H=some (.i s.size):=rfl
@[simp] theorem akz(l:List Int)(H:U):na .slice (dI l) H=some (.i l.length):=by simp[dI]
@[simp] theorem akD(l:List Pos)(H:U):na .slice (gb l) H=some (.i l.length):=by simp[gb]
@[simp] theorem akC(l:List eY)(H:U):na .slice (gQ l) H=some (.i l.length):=by simp[gQ]
@[simp] theorem akA(l:List α)(H:U):na .slice (dN sz f l) H=some (.i l.length):=by
 cases l<;>simp[dN]
end
section
variable(k:IntKind)(a b:Int)
@[simp] theorem ag0:iP .eql k a b=some (.b (a == b)):=rfl
@[simp] theorem ag5:iP .neq k a b=some (.b (a != b)):=rfl
@[simp] theorem ag4:iP .lss k a b=some (.b (decide (a<b))):=rfl
@[simp] theorem ag3:iP .leq k a b=some (.b (decide (a≤b))):=rfl
@[simp] theorem ag2:iP .gtr k a b=some (.b (decide (a>b))):=rfl
@[simp] theorem ag1:iP .geq k a b=some (.b (decide (a≥b))):=rfl
@[simp] theorem agY:iP .and k a b=some (.val (.int k (bits .and k a b))):=rfl
@[simp] theorem agZ:iP .andNot k a b=some (.val (.int k (bits .andNot k a b))):=rfl
