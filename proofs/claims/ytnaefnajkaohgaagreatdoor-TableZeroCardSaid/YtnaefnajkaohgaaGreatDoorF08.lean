/- Part 8 of the proof of skewer.skewerlaw15.TableZero. -/
import Derived.Test.YtnaefnajkaohgaaGreatDoorF06
set_option linter.all false
namespace Go.AL
open Go
abbrev gh:=Out→Prop
def PO(K:gh):lD→Prop:=fun r=>∃ o,r = .out o∧K o
def PV(K:D→U→Prop):lD→Prop:=fun r=>∃ d H,r = .val d H∧K d H
section
variable{T:fE}
def Wo(T:fE)(l:List eV)(s:St)(K:St→Prop):Prop:=Ev T (.ops l s) (PO fun o=>∃ s',o = .norm s'∧K s')
def Wc(T:fE)(c:IR)(s:St)(K:gh):Prop:=Ev T (.code c s) (PO K)
def Wf(T:fE)(f:FuncId)(args:List D)(H:U)(K:D→U→Prop):Prop:=Ev T (.call f args H) (PV K)
theorem Wc.mono{c:IR}{s:St}{K K':gh}(h:Wc T c s K)(hi:∀ o,K o→K' o):Wc T c s K':=Ev.mono h fun _ ⟨o,e,k⟩=>⟨o,e,hi o k⟩
theorem Wf.mono{f:FuncId}{args:List D}{H:U}{K K':D→U→Prop}(h:Wf T f args H K)(hi:∀ d H,K d H→K' d H):Wf T f args H K':=Ev.mono h fun _ ⟨d,H,e,k⟩=>⟨d,H,e,hi d H k⟩
theorem Wo.nil{s:St}{K:St→Prop}(h:K s):Wo T [] s K:=Ev.nil ⟨_,rfl,_,rfl,h⟩
theorem Wo.op{e:eV}{r:List eV}{s:St}{K:St→Prop}{d:D}{δ:Dl}(hg:guardOf s.env.get e.guard=some true)(h:eX s.env.get s.H s.H.length e.op=some (d,δ))
  (t:Wo T r { s with env:=put s.env e.dst d,H:=δ.app s.H (Al.last s.H) } K):Wo T (e::r) s K:=Ev.op hg h t
theorem Wo.uO{e:eV}{r:List eV}{s:St}{K:St→Prop}{d:D}{δ:Dl}(hg:guardOf s.env.get e.guard=some true)(h:jR s.env.get s.H s.H.length e.op=some (d,δ))
  (t:Wo T r { s with env:=put s.env e.dst d,H:=δ.app s.H (Al.last s.H) } K):Wo T (e::r) s K:=Ev.uO hg h t
theorem Wo.off{e:eV}{r:List eV}{s:St}{K:St→Prop}(hg:guardOf s.env.get e.guard=some false)
  (t:Wo T r { s with env:=put s.env e.dst (.val undef) } K):Wo T (e::r) s K:=Ev.off hg t
theorem Wc.skip{s:St}{K:gh}(h:K (.norm s)):Wc T .skip s K:=Ev.skip ⟨_,rfl,h⟩
theorem Wc.ret{s:St}{K:gh}(h:K (.ret s)):Wc T .ret s K:=Ev.ret ⟨_,rfl,h⟩
theorem Wc.exit{id:Nat}{s:St}{K:gh}(h:K (.exit id s)):Wc T (.exit id) s K:=Ev.exit ⟨_,rfl,h⟩
theorem Wc.ops{l:List eV}{s:St}{K:gh}(h:Wo T l s fun s'=>K (.norm s')):Wc T (.ops l) s K:=Ev.xA (Ev.mono h fun _ ⟨o,e,s',e',k⟩=>⟨o,e,by rw[e'];exact k⟩)
def DZ(T:fE)(b:IR)(K:gh):gh
 | .norm s=>Wc T b s K
 | o=>K o
theorem Wc.seq{a b:IR}{s:St}{K:gh}(h:Wc T a s (DZ T b K)):Wc T (.seq a b) s K:=by
 refine Ev.seq h (fun s' ⟨o,e,k⟩=>?_) fun o ⟨o',e,k⟩ hs=>?_
 ·cases e;exact k
 ·cases e
  cases o with
  | norm=>cases hs
  | exit=>exact⟨_,rfl,k⟩
  | ret=>exact⟨_,rfl,k⟩
theorem Wc.O5{c:X}{a b:IR}{s:St}{K:gh}(hc:ev s.env.get c = .b true)(h:Wc T a s K):Wc T (.cond c a b) s K:=Ev.cond (x:=true) hc h
theorem Wc.O4{c:X}{a b:IR}{s:St}{K:gh}(hc:ev s.env.get c = .b false)(h:Wc T b s K):Wc T (.cond c a b) s K:=Ev.cond (x:=false) hc h
theorem Wc.cond{c:X}{a b:IR}{s:St}{K:gh}(x:Bool)(hc:ev s.env.get c = .b x)(ht:x=true→Wc T a s K)(hf:x=false→Wc T b s K):Wc T (.cond c a b) s K:=by
 cases x
 ·exact Wc.O4 hc (hf rfl)
 ·exact Wc.O5 hc (ht rfl)
theorem Wc.block{id:Nat}{live:List Nat}{a:IR}{s:St}{K:gh}(h:Wc T a s fun o=>K (jU id s.H.length live o)):Wc T (.block id live a) s K:=
 Ev.block h fun o ⟨o',e,k⟩=>by cases e;exact⟨_,rfl,k⟩
theorem Wc.loop{live:List Nat}{a:IR}{s:St}{K:gh}(I:Nat→St→Prop)(m:Nat)(h0:I m { s with env:=forget live s.env })
  (h:∀ m s',I m s'→Wc T a s' fun o=>match o with
   | .norm zu=>∃ m',m'<m∧I m' (cut s.H.length live zu)
   | o=>K o):Wc T (.loop live a) s K:=by
 have key:∀ m s',I m s'→Ev T (.loop s.H.length live a s') (PO K):=by
  intro m
  induction m using Nat.strongRecOn with
  | ind m ih=>
   intro s' hI
   refine Ev.sL (h m s' hI) (fun zu ⟨o,e,k⟩=>?_) fun o ⟨o',e,k⟩ hs=>?_
   ·cases e
    obtain⟨m',Ru,Qx⟩:=k
    exact ih m' Ru _ Qx
   ·cases e
    cases o with
    | norm=>cases hs
    | exit=>exact⟨_,rfl,k⟩
    | ret=>exact⟨_,rfl,k⟩
 exact Ev.loop (key m _ h0)
theorem Fi{n:Nat}{live:List Nat}{s:St}(h:s.H.length≤n):cut n live s = { s with env:=forget live s.env }:=by
 unfold cut;rw[if_pos h]
theorem Wf.call{f:FuncId}{args:List D}{H:U}{fn:ey}{K:D→U→Prop}(own:Nat)(hf:T.fn f=some fn)(hl:args.length≤fn.ntmps)
  (h:Wc T fn.body { env:=om args,H:=H } fun o=>∃ d H',finish fn own H.length o=some (d,H')∧K d H'):Wf T f args H K:=
 Ev.call own hf hl h fun o ⟨o',e,d,H',h1,h2⟩=>by cases e;exact⟨d,H',h1,d,H',rfl,h2⟩
def Wt(T:fE)(l:List eV)(s:St)(K:List Rc→St→Prop):Prop:=Ev T (.trace l s) fun r=>∃ rs s',r = .tr rs s'∧K rs s'
theorem Wt.nil{s:St}{K:List Rc→St→Prop}(h:K [] s):Wt T [] s K:=Ev.zJ ⟨_,_,rfl,h⟩
theorem Wt.op{e:eV}{r:List eV}{s:St}{K:List Rc→St→Prop}{d:D}{δ:Dl}(hg:guardOf s.env.get e.guard=some true)(h:eX s.env.get s.H s.H.length e.op=some (d,δ))
  (t:Wt T r { s with env:=put s.env e.dst d,H:=δ.app s.H (Al.last s.H) } fun rs s'=>K (⟨eY s.env.get s.H e.op,gP s.H.length δ⟩::rs) s'):Wt T (e::r) s K:=
 Ev.zL hg h t fun rs s' ⟨_,_,e,k⟩=>by cases e;exact⟨_,_,rfl,k⟩
theorem Wt.off{e:eV}{r:List eV}{s:St}{K:List Rc→St→Prop}(hg:guardOf s.env.get e.guard=some false)
  (t:Wt T r { s with env:=put s.env e.dst (.val undef) } fun rs s'=>K (⟨[],[]⟩::rs) s'):Wt T (e::r) s K:=
 Ev.zK hg t fun rs s' ⟨_,_,e,k⟩=>by cases e;exact⟨_,_,rfl,k⟩
theorem Wc.draw{gJ:List (Nat×Nat)}{l:List eV}{s:St}{K:gh}(h:Wt T l s fun rs s'=>pD gJ rs=true∧K (.norm s')):Wc T (.draw gJ l) s K:=
 Ev.draw h fun rs s' ⟨_,_,e,k⟩=>by cases e;exact⟨k.1,_,rfl,k.2⟩
theorem Wc.jG{gJ:List (Nat×Nat)}{l es:List eV}{s:St}{K:gh}(h:Wt T l s fun rs s'=>pD gJ rs=true∧Wo T es s' fun s'=>K (.norm s')):Wc T (.jG gJ l es) s K:=
 Ev.jG h (fun rs s' ⟨_,_,q,k⟩=>by cases q;exact k.1) fun rs s' ⟨_,_,q,k⟩=>by cases q;exact Ev.mono k.2 fun _ ⟨o,e,s',e2,kk⟩=>⟨o,e,by rw[e2];exact kk⟩
theorem P7{live keys:List Nat}{env:Env}(h:(live.all fun k=>keys.contains k)=true):forget live (forget keys env)=forget live env:=by
 have key:∀ (l:List Nat) (k:Nat),k∈l→Env.get (l.map fun j=>(j,env.get j)) k=env.get k:=by
  intro l
  induction l with
  | nil=>intro k hk;cases hk
  | cons j r ih=>
   intro k hk
   simp only[List.map_cons,Env.p9]
   split
   ·rename_i e;subst e;rfl
   ·rename_i e
    rcases ax.1 hk with rfl|hk
    ·exact absurd rfl e
    ·exact ih k hk
 unfold forget
 refine ak fun k hk=>?_
 have:=ao.1 h k hk
 rw[key keys k (by simpa using this)]
end
end Go.AL
namespace Go.AL
open Go
attribute [simp] om forget Env.p9 Al.last
@[irreducible] def f1(n:Int):List D:=[.i n]
@[irreducible] def fB(b:Bool):List D:=[.b b]
@[simp] theorem sf(n:Int):f1 n = [.i n]:=by unfold f1;rfl
@[simp] theorem Kj(b:Bool):fB b = [.b b]:=by unfold fB;rfl
def dI(l:List Int):D:=.sl 1 (l.map f1)
def dN{α:Type}(sz:Nat)(f:α→List D):List α→D
 | []=>.emp
 | l=>.sl sz (l.map f)
structure Pos where
 cs:List Int
 h0:List Int
 h1:List Int
 eQ:Int
 side:Int
 deriving DecidableEq,Inhabited
def Pos.cells(p:Pos):List D:=[dI p.cs,dI p.h0,dI p.h1,.i p.eQ,.i p.side]
def dP(p:Pos):D:=.agg p.cells
def fe(l:List Pos):D:=.sl 5 (l.map Pos.cells)
abbrev eG:=Int×Int
@[irreducible] def fS(x:eG):List D:=[.i x.1,.i x.2]
@[simp] theorem FB(x:eG):fS x = [.i x.1,.i x.2]:=by unfold fS;rfl
def fq(l:List eG):D:=.sl 2 (l.map fS)
@[irreducible] def fP(l:List eG):List D:=[fq l]
@[simp] theorem PU(l:List eG):fP l = [fq l]:=by unfold fP;rfl
@[irreducible] def fI(l:List Int):List D:=[dI l]
@[simp] theorem PT(l:List Int):fI l = [dI l]:=by unfold fI;rfl
structure Kind where
 name:ByteArray
 fW:List (List eG)
 nh:Bool
 deriving Inhabited
def Kind.cells(k:Kind):List D:=[.val (.string k.name),dN 1 fP k.fW,.b k.nh]
structure Clause where
 cond:Int
 kind:Int
 n:Int
 out:Int
 deriving DecidableEq,Inhabited
def Clause.cells(c:Clause):List D:=[.i c.cond,.i c.kind,.i c.n,.i c.out]
structure ew where
 size:Int
 next:List (List Int)
 gy:List Int
 kinds:List Kind
 eQ:Int
 kT:Bool
 clauses:List Clause
 blocked:Int
 p6:Int
 deriving Inhabited
def ew.cells(g:ew):List D:=[.i g.size,.sl 1 (g.next.map fI),dI g.gy,.sl 3 (g.kinds.map Kind.cells),.i g.eQ,.b g.kT,dN 4 Clause.cells g.clauses,.i g.blocked,.i g.p6]
def dG(g:ew):D:=.agg g.cells
def ew.gF(g:ew):D:=.agg [.i g.size,.sl 1 (g.next.map fI),dI g.gy]
theorem vh{α:Type}{f:α→List D}(h:∀ a,eT (f a)=true):∀ l:List α,vg (l.map f)=true
 | []=>rfl
 | a::l=>by simp[vg,h a,vh h l]
@[simp] theorem aei(n:Int):closed (.i n)=true:=by simp only[closed]
@[simp] theorem OR(b:Bool):closed (.b b)=true:=by simp only[closed]
@[simp] theorem ad5(l:List Int):closed (dI l)=true:=by
 simp only[dI,closed]
 exact vh (fun n=>by simp[eT]) l
@[simp] theorem aec(l:List eG):closed (fq l)=true:=by
 simp only[fq,closed]
 exact vh (fun n=>by simp[eT]) l
theorem tj{α:Type}{sz:Nat}{f:α→List D}(h:∀ a,eT (f a)=true)(l:List α):closed (dN sz f l)=true:=by
 cases l with
 | nil=>rfl
 | cons a l=>exact vh h (a::l)
@[simp] theorem OQ(p:Pos):eT p.cells=true:=by simp[Pos.cells,eT,closed]
@[simp] theorem aed(l:List Pos):closed (fe l)=true:=by
 simp only[fe,closed]
 exact vh (fun p=>OQ p) l
@[simp] theorem ad0(k:Kind):eT k.cells=true:=by
 simp only[Kind.cells,eT,tj (f:=fP) (sz:=1) (fun a=>by simp[eT]),OR,Bool.and_true]
 rfl
@[simp] theorem adZ(c:Clause):eT c.cells=true:=by simp only[Clause.cells,eT,closed,Bool.and_self]
@[simp] theorem ad4(l:List Clause):closed (dN 4 Clause.cells l)=true:=tj (fun _=>rfl) l
section
variable{α:Type}{sz:Nat}{f:α→List D}{H:U}
@[simp] theorem Mf(sz:Nat)(es:List (List D))(H:U):mn .slice (.sl sz es) H=some (.i es.length):=rfl
@[simp] theorem agj(H:U):mn .slice .emp H=some (.i 0):=rfl
@[simp] theorem agl(v g sz off n:Nat)(H:U):mn .slice (.et v g sz off n) H=some (.i n):=rfl
@[simp] theorem agm(s:ByteArray)(H:U):mn .string (.val (.string s)) H=some (.i s.size):=rfl
@[simp] theorem agb(l:List Int)(H:U):mn .slice (dI l) H=some (.i l.length):=by simp[dI]
@[simp] theorem agf(l:List Pos)(H:U):mn .slice (fe l) H=some (.i l.length):=by simp[fe]
@[simp] theorem age(l:List eG)(H:U):mn .slice (fq l) H=some (.i l.length):=by simp[fq]
@[simp] theorem agc(l:List α)(H:U):mn .slice (dN sz f l) H=some (.i l.length):=by
 cases l<;>simp[dN]
end
section
variable(k:IntKind)(a b:Int)
@[simp] theorem acF:ic .eql k a b=some (.b (a == b)):=rfl
@[simp] theorem acK:ic .neq k a b=some (.b (a != b)):=rfl
@[simp] theorem acJ:ic .lss k a b=some (.b (decide (a<b))):=rfl
@[simp] theorem acI:ic .leq k a b=some (.b (decide (a≤b))):=rfl
@[simp] theorem acH:ic .gtr k a b=some (.b (decide (a>b))):=rfl
@[simp] theorem acG:ic .geq k a b=some (.b (decide (a≥b))):=rfl
@[simp] theorem acD:ic .and k a b=some (.val (.int k (bits .and k a b))):=rfl
@[simp] theorem acE:ic .andNot k a b=some (.val (.int k (bits .andNot k a b))):=rfl
