/- Part 8 of TableHurry. -/
import Derived.Test.YtnaefnajkaohgaaGreatDoorG06
set_option linter.all false
namespace Go.AL
open Go
abbrev gp:=Out→Prop
def PO(K:gp):lJ→Prop:=fun r=>∃ o,r = .out o∧K o
def PV(K:D→et→Prop):lJ→Prop:=fun r=>∃ d H,r = .val d H∧K d H
section
variable{T:fH}
def Wo(T:fH)(l:List eX)(s:St)(K:St→Prop):Prop:=Ev T (.ops l s) (PO fun o=>∃ s',o = .norm s'∧K s')
def Wc(T:fH)(c:IR)(s:St)(K:gp):Prop:=Ev T (.code c s) (PO K)
def Wf(T:fH)(f:FuncId)(args:List D)(H:et)(K:D→et→Prop):Prop:=Ev T (.call f args H) (PV K)
theorem Wc.mono{c:IR}{s:St}{K K':gp}(h:Wc T c s K)(hi:∀ o,K o→K' o):Wc T c s K':=Ev.mono h fun _ ⟨o,e,k⟩=>⟨o,e,hi o k⟩
theorem Wf.mono{f:FuncId}{args:List D}{H:et}{K K':D→et→Prop}(h:Wf T f args H K)(hi:∀ d H,K d H→K' d H):Wf T f args H K':=Ev.mono h fun _ ⟨d,H,e,k⟩=>⟨d,H,e,hi d H k⟩
theorem Wo.nil{s:St}{K:St→Prop}(h:K s):Wo T [] s K:=Ev.nil ⟨_,rfl,_,rfl,h⟩
theorem Wo.op{e:eX}{r:List eX}{s:St}{K:St→Prop}{d:D}{δ:Dl}(hg:guardOf s.env.get e.guard=some true)(h:eZ s.env.get s.H s.H.length e.op=some (d,δ))
  (t:Wo T r { s with env:=put s.env e.dst d,H:=δ.app s.H (Al.last s.H) } K):Wo T (e::r) s K:=Ev.op hg h t
theorem Wo.uZ{e:eX}{r:List eX}{s:St}{K:St→Prop}{d:D}{δ:Dl}(hg:guardOf s.env.get e.guard=some true)(h:jZ s.env.get s.H s.H.length e.op=some (d,δ))
  (t:Wo T r { s with env:=put s.env e.dst d,H:=δ.app s.H (Al.last s.H) } K):Wo T (e::r) s K:=Ev.uZ hg h t
theorem Wo.off{e:eX}{r:List eX}{s:St}{K:St→Prop}(hg:guardOf s.env.get e.guard=some false)
  (t:Wo T r { s with env:=put s.env e.dst (.val undef) } K):Wo T (e::r) s K:=Ev.off hg t
theorem Wc.skip{s:St}{K:gp}(h:K (.norm s)):Wc T .skip s K:=Ev.skip ⟨_,rfl,h⟩
theorem Wc.ret{s:St}{K:gp}(h:K (.ret s)):Wc T .ret s K:=Ev.ret ⟨_,rfl,h⟩
theorem Wc.exit{id:Nat}{s:St}{K:gp}(h:K (.exit id s)):Wc T (.exit id) s K:=Ev.exit ⟨_,rfl,h⟩
theorem Wc.ops{l:List eX}{s:St}{K:gp}(h:Wo T l s fun s'=>K (.norm s')):Wc T (.ops l) s K:=Ev.xM (Ev.mono h fun _ ⟨o,e,s',e',k⟩=>⟨o,e,by rw[e'];exact k⟩)
def D'(T:fH)(b:IR)(K:gp):gp
 | .norm s=>Wc T b s K
 | o=>K o
theorem Wc.seq{a b:IR}{s:St}{K:gp}(h:Wc T a s (D' T b K)):Wc T (.seq a b) s K:=by
 refine Ev.seq h (fun s' ⟨o,e,k⟩=>?_) fun o ⟨o',e,k⟩ hs=>?_
 ·cases e;exact k
 ·cases e
  cases o with
  | norm=>cases hs
  | exit=>exact⟨_,rfl,k⟩
  | ret=>exact⟨_,rfl,k⟩
theorem Wc.Pr{c:X}{a b:IR}{s:St}{K:gp}(hc:ev s.env.get c = .b true)(h:Wc T a s K):Wc T (.cond c a b) s K:=Ev.cond (x:=true) hc h
theorem Wc.Pq{c:X}{a b:IR}{s:St}{K:gp}(hc:ev s.env.get c = .b false)(h:Wc T b s K):Wc T (.cond c a b) s K:=Ev.cond (x:=false) hc h
theorem Wc.cond{c:X}{a b:IR}{s:St}{K:gp}(x:Bool)(hc:ev s.env.get c = .b x)(ht:x=true→Wc T a s K)(hf:x=false→Wc T b s K):Wc T (.cond c a b) s K:=by
 cases x
 ·exact Wc.Pq hc (hf rfl)
 ·exact Wc.Pr hc (ht rfl)
theorem Wc.block{id:Nat}{live:List Nat}{a:IR}{s:St}{K:gp}(h:Wc T a s fun o=>K (kc id s.H.length live o)):Wc T (.block id live a) s K:=
 Ev.block h fun o ⟨o',e,k⟩=>by cases e;exact⟨_,rfl,k⟩
theorem Wc.loop{live:List Nat}{a:IR}{s:St}{K:gp}(I:Nat→St→Prop)(m:Nat)(h0:I m { s with env:=forget live s.env })
  (h:∀ m s',I m s'→Wc T a s' fun o=>match o with
   | .norm zF=>∃ m',m'<m∧I m' (cut s.H.length live zF)
   | o=>K o):Wc T (.loop live a) s K:=by
 have key:∀ m s',I m s'→Ev T (.loop s.H.length live a s') (PO K):=by
  intro m
  induction m using Nat.strongRecOn with
  | ind m ih=>
   intro s' hI
   refine Ev.sY (h m s' hI) (fun zF ⟨o,e,k⟩=>?_) fun o ⟨o',e,k⟩ hs=>?_
   ·cases e
    obtain⟨m',RP,QS⟩:=k
    exact ih m' RP _ QS
   ·cases e
    cases o with
    | norm=>cases hs
    | exit=>exact⟨_,rfl,k⟩
    | ret=>exact⟨_,rfl,k⟩
 exact Ev.loop (key m _ h0)
theorem Fy{n:Nat}{live:List Nat}{s:St}(h:s.H.length≤n):cut n live s = { s with env:=forget live s.env }:=by
 unfold cut;rw[if_pos h]
theorem Wf.call{f:FuncId}{args:List D}{H:et}{fn:eA}{K:D→et→Prop}(own:Nat)(hf:T.fn f=some fn)(hl:args.length≤fn.ntmps)
  (h:Wc T fn.body { env:=oC args,H:=H } fun o=>∃ d H',finish fn own H.length o=some (d,H')∧K d H'):Wf T f args H K:=
 Ev.call own hf hl h fun o ⟨o',e,d,H',h1,h2⟩=>by cases e;exact⟨d,H',h1,d,H',rfl,h2⟩
def Wt(T:fH)(l:List eX)(s:St)(K:List Rc→St→Prop):Prop:=Ev T (.trace l s) fun r=>∃ rs s',r = .tr rs s'∧K rs s'
theorem Wt.nil{s:St}{K:List Rc→St→Prop}(h:K [] s):Wt T [] s K:=Ev.zT ⟨_,_,rfl,h⟩
theorem Wt.op{e:eX}{r:List eX}{s:St}{K:List Rc→St→Prop}{d:D}{δ:Dl}(hg:guardOf s.env.get e.guard=some true)(h:eZ s.env.get s.H s.H.length e.op=some (d,δ))
  (t:Wt T r { s with env:=put s.env e.dst d,H:=δ.app s.H (Al.last s.H) } fun rs s'=>K (⟨e7 s.env.get s.H e.op,gT s.H.length δ⟩::rs) s'):Wt T (e::r) s K:=
 Ev.zV hg h t fun rs s' ⟨_,_,e,k⟩=>by cases e;exact⟨_,_,rfl,k⟩
theorem Wt.off{e:eX}{r:List eX}{s:St}{K:List Rc→St→Prop}(hg:guardOf s.env.get e.guard=some false)
  (t:Wt T r { s with env:=put s.env e.dst (.val undef) } fun rs s'=>K (⟨[],[]⟩::rs) s'):Wt T (e::r) s K:=
 Ev.zU hg t fun rs s' ⟨_,_,e,k⟩=>by cases e;exact⟨_,_,rfl,k⟩
theorem Wc.eN{gM:List (Nat×Nat)}{l:List eX}{s:St}{K:gp}(h:Wt T l s fun rs s'=>pL gM rs=true∧K (.norm s')):Wc T (.eN gM l) s K:=
 Ev.eN h fun rs s' ⟨_,_,e,k⟩=>by cases e;exact⟨k.1,_,rfl,k.2⟩
theorem Wc.jN{gM:List (Nat×Nat)}{l es:List eX}{s:St}{K:gp}(h:Wt T l s fun rs s'=>pL gM rs=true∧Wo T es s' fun s'=>K (.norm s')):Wc T (.jN gM l es) s K:=
 Ev.jN h (fun rs s' ⟨_,_,q,k⟩=>by cases q;exact k.1) fun rs s' ⟨_,_,q,k⟩=>by cases q;exact Ev.mono k.2 fun _ ⟨o,e,s',e2,kk⟩=>⟨o,e,by rw[e2];exact kk⟩
theorem Qr{live keys:List Nat}{env:Env}(h:(live.all fun k=>keys.contains k)=true):forget live (forget keys env)=forget live env:=by
 have key:∀ (l:List Nat) (k:Nat),k∈l→Env.get (l.map fun j=>(j,env.get j)) k=env.get k:=by
  intro l
  induction l with
  | nil=>intro k hk;cases hk
  | cons j r ih=>
   intro k hk
   simp only[List.map_cons,Env.qj]
   split
   ·rename_i e;subst e;rfl
   ·rename_i e
    rcases ax.1 hk with rfl|hk
    ·exact absurd rfl e
    ·exact ih k hk
 unfold forget
 refine ak fun k hk=>?_
 have:=ao.1 h k hk
 rw[key keys k (by simpa using this)]
end
end Go.AL
namespace Go.AL
open Go
attribute [simp] oC forget Env.qj Al.last
@[irreducible] def f1(n:Int):List D:=[.i n]
@[irreducible] def fB(b:Bool):List D:=[.b b]
@[simp] theorem sA(n:Int):f1 n = [.i n]:=by unfold f1;rfl
@[simp] theorem KA(b:Bool):fB b = [.b b]:=by unfold fB;rfl
def dI(l:List Int):D:=.sl 1 (l.map f1)
def dN{α:Type}(sz:Nat)(f:α→List D):List α→D
 | []=>.U
 | l=>.sl sz (l.map f)
structure Pos where
 cs:List Int
 h0:List Int
 h1:List Int
 eR:Int
 side:Int
 deriving DecidableEq,Inhabited
def Pos.cells(p:Pos):List D:=[dI p.cs,dI p.h0,dI p.h1,.i p.eR,.i p.side]
def dP(p:Pos):D:=.agg p.cells
def fh(l:List Pos):D:=.sl 5 (l.map Pos.cells)
abbrev eI:=Int×Int
@[irreducible] def fS(x:eI):List D:=[.i x.1,.i x.2]
@[simp] theorem FN(x:eI):fS x = [.i x.1,.i x.2]:=by unfold fS;rfl
def ft(l:List eI):D:=.sl 2 (l.map fS)
@[irreducible] def fP(l:List eI):List D:=[ft l]
@[simp] theorem Qf(l:List eI):fP l = [ft l]:=by unfold fP;rfl
@[irreducible] def fI(l:List Int):List D:=[dI l]
@[simp] theorem Qe(l:List Int):fI l = [dI l]:=by unfold fI;rfl
structure Kind where
 name:ByteArray
 fZ:List (List eI)
 nu:Bool
 deriving Inhabited
def Kind.cells(k:Kind):List D:=[.val (.string k.name),dN 1 fP k.fZ,.b k.nu]
structure Clause where
 cond:Int
 kind:Int
 n:Int
 out:Int
 deriving DecidableEq,Inhabited
def Clause.cells(c:Clause):List D:=[.i c.cond,.i c.kind,.i c.n,.i c.out]
structure ey where
 size:Int
 next:List (List Int)
 gE:List Int
 kinds:List Kind
 eR:Int
 k6:Bool
 clauses:List Clause
 blocked:Int
 qf:Int
 deriving Inhabited
def ey.cells(g:ey):List D:=[.i g.size,.sl 1 (g.next.map fI),dI g.gE,.sl 3 (g.kinds.map Kind.cells),.i g.eR,.b g.k6,dN 4 Clause.cells g.clauses,.i g.blocked,.i g.qf]
def dG(g:ey):D:=.agg g.cells
def ey.gH(g:ey):D:=.agg [.i g.size,.sl 1 (g.next.map fI),dI g.gE]
theorem vx{α:Type}{f:α→List D}(h:∀ a,eV (f a)=true):∀ l:List α,vw (l.map f)=true
 | []=>rfl
 | a::l=>by simp[vw,h a,vx h l]
@[simp] theorem aeA(n:Int):closed (.i n)=true:=by simp only[closed]
@[simp] theorem Pb(b:Bool):closed (.b b)=true:=by simp only[closed]
@[simp] theorem aen(l:List Int):closed (dI l)=true:=by
 simp only[dI,closed]
 exact vx (fun n=>by simp[eV]) l
@[simp] theorem aeu(l:List eI):closed (ft l)=true:=by
 simp only[ft,closed]
 exact vx (fun n=>by simp[eV]) l
theorem tE{α:Type}{sz:Nat}{f:α→List D}(h:∀ a,eV (f a)=true)(l:List α):closed (dN sz f l)=true:=by
 cases l with
 | nil=>rfl
 | cons a l=>exact vx h (a::l)
@[simp] theorem Pa(p:Pos):eV p.cells=true:=by simp[Pos.cells,eV,closed]
@[simp] theorem aev(l:List Pos):closed (fh l)=true:=by
 simp only[fh,closed]
 exact vx (fun p=>Pa p) l
@[simp] theorem aei(k:Kind):eV k.cells=true:=by
 simp only[Kind.cells,eV,tE (f:=fP) (sz:=1) (fun a=>by simp[eV]),Pb,Bool.and_true]
 rfl
@[simp] theorem aeh(c:Clause):eV c.cells=true:=by simp only[Clause.cells,eV,closed,Bool.and_self]
@[simp] theorem aem(l:List Clause):closed (dN 4 Clause.cells l)=true:=tE (fun _=>rfl) l
section
variable{α:Type}{sz:Nat}{f:α→List D}{H:et}
@[simp] theorem MA(sz:Nat)(es:List (List D))(H:et):mw .slice (.sl sz es) H=some (.i es.length):=rfl
@[simp] theorem agC(H:et):mw .slice .U H=some (.i 0):=rfl
@[simp] theorem agE(v g sz off n:Nat)(H:et):mw .slice (.eu v g sz off n) H=some (.i n):=rfl
@[simp] theorem agF(s:ByteArray)(H:et):mw .string (.val (.string s)) H=some (.i s.size):=rfl
@[simp] theorem agv(l:List Int)(H:et):mw .slice (dI l) H=some (.i l.length):=by simp[dI]
@[simp] theorem agz(l:List Pos)(H:et):mw .slice (fh l) H=some (.i l.length):=by simp[fh]
@[simp] theorem agy(l:List eI)(H:et):mw .slice (ft l) H=some (.i l.length):=by simp[ft]
@[simp] theorem agw(l:List α)(H:et):mw .slice (dN sz f l) H=some (.i l.length):=by
 cases l<;>simp[dN]
end
section
variable(k:IntKind)(a b:Int)
@[simp] theorem acX:ij .eql k a b=some (.b (a == b)):=rfl
@[simp] theorem ac2:ij .neq k a b=some (.b (a != b)):=rfl
@[simp] theorem ac1:ij .lss k a b=some (.b (decide (a<b))):=rfl
@[simp] theorem ac0:ij .leq k a b=some (.b (decide (a≤b))):=rfl
@[simp] theorem acZ:ij .gtr k a b=some (.b (decide (a>b))):=rfl
@[simp] theorem acY:ij .geq k a b=some (.b (decide (a≥b))):=rfl
@[simp] theorem acV:ij .and k a b=some (.val (.int k (bits .and k a b))):=rfl
@[simp] theorem acW:ij .andNot k a b=some (.val (.int k (bits .andNot k a b))):=rfl
