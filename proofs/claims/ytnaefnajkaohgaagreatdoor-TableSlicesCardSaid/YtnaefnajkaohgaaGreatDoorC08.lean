/- Part 8 of the proof of skewer.skewerlaw15.TableSlices. -/
import Derived.Test.YtnaefnajkaohgaaGreatDoorC06
set_option linter.all false
namespace Go.AL
open Go
abbrev OutP:=Out→Prop
def PO(K:OutP):Res→Prop:=fun r=>∃ o,r = .out o∧K o
def PV(K:D→Heap→Prop):Res→Prop:=fun r=>∃ d H,r = .val d H∧K d H
section
variable{T:Tab}
def Wo(T:Tab)(l:List IEnt)(s:St)(K:St→Prop):Prop:=Ev T (.ops l s) (PO fun o=>∃ s',o = .norm s'∧K s')
def Wc(T:Tab)(c:IR)(s:St)(K:OutP):Prop:=Ev T (.code c s) (PO K)
def Wf(T:Tab)(f:FuncId)(args:List D)(H:Heap)(K:D→Heap→Prop):Prop:=Ev T (.call f args H) (PV K)
theorem Wc.mono{c:IR}{s:St}{K K':OutP}(h:Wc T c s K)(hi:∀ o,K o→K' o):Wc T c s K':=Ev.mono h fun _ ⟨o,e,k⟩=>⟨o,e,hi o k⟩
theorem Wf.mono{f:FuncId}{args:List D}{H:Heap}{K K':D→Heap→Prop}(h:Wf T f args H K)(hi:∀ d H,K d H→K' d H):Wf T f args H K':=Ev.mono h fun _ ⟨d,H,e,k⟩=>⟨d,H,e,hi d H k⟩
theorem Wo.nil{s:St}{K:St→Prop}(h:K s):Wo T [] s K:=Ev.nil ⟨_,rfl,_,rfl,h⟩
theorem Wo.op{e:IEnt}{r:List IEnt}{s:St}{K:St→Prop}{d:D}{δ:Dl}(hg:guardOf s.env.get e.guard=some true)(h:aopO s.env.get s.H s.H.length e.op=some (d,δ))
  (t:Wo T r { s with env:=put s.env e.dst d,H:=δ.app s.H (Al.last s.H) } K):Wo T (e::r) s K:=Ev.op hg h t
theorem Wo.sop{e:IEnt}{r:List IEnt}{s:St}{K:St→Prop}{d:D}{δ:Dl}(hg:guardOf s.env.get e.guard=some true)(h:sopO s.env.get s.H s.H.length e.op=some (d,δ))
  (t:Wo T r { s with env:=put s.env e.dst d,H:=δ.app s.H (Al.last s.H) } K):Wo T (e::r) s K:=Ev.sop hg h t
theorem Wo.off{e:IEnt}{r:List IEnt}{s:St}{K:St→Prop}(hg:guardOf s.env.get e.guard=some false)
  (t:Wo T r { s with env:=put s.env e.dst (.val undef) } K):Wo T (e::r) s K:=Ev.off hg t
theorem Wc.skip{s:St}{K:OutP}(h:K (.norm s)):Wc T .skip s K:=Ev.skip ⟨_,rfl,h⟩
theorem Wc.ret{s:St}{K:OutP}(h:K (.ret s)):Wc T .ret s K:=Ev.ret ⟨_,rfl,h⟩
theorem Wc.exit{id:Nat}{s:St}{K:OutP}(h:K (.exit id s)):Wc T (.exit id) s K:=Ev.exit ⟨_,rfl,h⟩
theorem Wc.ops{l:List IEnt}{s:St}{K:OutP}(h:Wo T l s fun s'=>K (.norm s')):Wc T (.ops l) s K:=Ev.cops (Ev.mono h fun _ ⟨o,e,s',e',k⟩=>⟨o,e,by rw[e'];exact k⟩)
def nxt(T:Tab)(b:IR)(K:OutP):OutP
 | .norm s=>Wc T b s K
 | o=>K o
theorem Wc.seq{a b:IR}{s:St}{K:OutP}(h:Wc T a s (nxt T b K)):Wc T (.seq a b) s K:=by
 refine Ev.seq h (fun s' ⟨o,e,k⟩=>?_) fun o ⟨o',e,k⟩ hs=>?_
 ·cases e;exact k
 ·cases e
  cases o with
  | norm=>cases hs
  | exit=>exact⟨_,rfl,k⟩
  | ret=>exact⟨_,rfl,k⟩
theorem Wc.condT{c:X}{a b:IR}{s:St}{K:OutP}(hc:ev s.env.get c = .b true)(h:Wc T a s K):Wc T (.cond c a b) s K:=Ev.cond (x:=true) hc h
theorem Wc.condF{c:X}{a b:IR}{s:St}{K:OutP}(hc:ev s.env.get c = .b false)(h:Wc T b s K):Wc T (.cond c a b) s K:=Ev.cond (x:=false) hc h
theorem Wc.cond{c:X}{a b:IR}{s:St}{K:OutP}(x:Bool)(hc:ev s.env.get c = .b x)(ht:x=true→Wc T a s K)(hf:x=false→Wc T b s K):Wc T (.cond c a b) s K:=by
 cases x
 ·exact Wc.condF hc (hf rfl)
 ·exact Wc.condT hc (ht rfl)
theorem Wc.block{id:Nat}{live:List Nat}{a:IR}{s:St}{K:OutP}(h:Wc T a s fun o=>K (blk id s.H.length live o)):Wc T (.block id live a) s K:=
 Ev.block h fun o ⟨o',e,k⟩=>by cases e;exact⟨_,rfl,k⟩
theorem Wc.loop{live:List Nat}{a:IR}{s:St}{K:OutP}(I:Nat→St→Prop)(m:Nat)(h0:I m { s with env:=forget live s.env })
  (h:∀ m s',I m s'→Wc T a s' fun o=>match o with
   | .norm s''=>∃ m',m'<m∧I m' (cut s.H.length live s'')
   | o=>K o):Wc T (.loop live a) s K:=by
 have key:∀ m s',I m s'→Ev T (.loop s.H.length live a s') (PO K):=by
  intro m
  induction m using Nat.strongRecOn with
  | ind m ih=>
   intro s' hI
   refine Ev.loopI (h m s' hI) (fun s'' ⟨o,e,k⟩=>?_) fun o ⟨o',e,k⟩ hs=>?_
   ·cases e
    obtain⟨m',hm',hI'⟩:=k
    exact ih m' hm' _ hI'
   ·cases e
    cases o with
    | norm=>cases hs
    | exit=>exact⟨_,rfl,k⟩
    | ret=>exact⟨_,rfl,k⟩
 exact Ev.loop (key m _ h0)
theorem cut_none{n:Nat}{live:List Nat}{s:St}(h:s.H.length≤n):cut n live s = { s with env:=forget live s.env }:=by
 unfold cut;rw[if_pos h]
theorem Wf.call{f:FuncId}{args:List D}{H:Heap}{fn:FnA}{K:D→Heap→Prop}(own:Nat)(hf:T.fn f=some fn)(hl:args.length≤fn.ntmps)
  (h:Wc T fn.body { env:=mkEnv args,H:=H } fun o=>∃ d H',finish fn own H.length o=some (d,H')∧K d H'):Wf T f args H K:=
 Ev.call own hf hl h fun o ⟨o',e,d,H',h1,h2⟩=>by cases e;exact⟨d,H',h1,d,H',rfl,h2⟩
def Wt(T:Tab)(l:List IEnt)(s:St)(K:List Rc→St→Prop):Prop:=Ev T (.trace l s) fun r=>∃ rs s',r = .tr rs s'∧K rs s'
theorem Wt.nil{s:St}{K:List Rc→St→Prop}(h:K [] s):Wt T [] s K:=Ev.trNil ⟨_,_,rfl,h⟩
theorem Wt.op{e:IEnt}{r:List IEnt}{s:St}{K:List Rc→St→Prop}{d:D}{δ:Dl}(hg:guardOf s.env.get e.guard=some true)(h:aopO s.env.get s.H s.H.length e.op=some (d,δ))
  (t:Wt T r { s with env:=put s.env e.dst d,H:=δ.app s.H (Al.last s.H) } fun rs s'=>K (⟨fpR s.env.get s.H e.op,fpW s.H.length δ⟩::rs) s'):Wt T (e::r) s K:=
 Ev.trOp hg h t fun rs s' ⟨_,_,e,k⟩=>by cases e;exact⟨_,_,rfl,k⟩
theorem Wt.off{e:IEnt}{r:List IEnt}{s:St}{K:List Rc→St→Prop}(hg:guardOf s.env.get e.guard=some false)
  (t:Wt T r { s with env:=put s.env e.dst (.val undef) } fun rs s'=>K (⟨[],[]⟩::rs) s'):Wt T (e::r) s K:=
 Ev.trOff hg t fun rs s' ⟨_,_,e,k⟩=>by cases e;exact⟨_,_,rfl,k⟩
theorem Wc.draw{prs:List (Nat×Nat)}{l:List IEnt}{s:St}{K:OutP}(h:Wt T l s fun rs s'=>prsOK prs rs=true∧K (.norm s')):Wc T (.draw prs l) s K:=
 Ev.draw h fun rs s' ⟨_,_,e,k⟩=>by cases e;exact⟨k.1,_,rfl,k.2⟩
theorem Wc.drawL{prs:List (Nat×Nat)}{l es:List IEnt}{s:St}{K:OutP}(h:Wt T l s fun rs s'=>prsOK prs rs=true∧Wo T es s' fun s'=>K (.norm s')):Wc T (.drawL prs l es) s K:=
 Ev.drawL h (fun rs s' ⟨_,_,q,k⟩=>by cases q;exact k.1) fun rs s' ⟨_,_,q,k⟩=>by cases q;exact Ev.mono k.2 fun _ ⟨o,e,s',e2,kk⟩=>⟨o,e,by rw[e2];exact kk⟩
theorem forget_sub{live keys:List Nat}{env:Env}(h:(live.all fun k=>keys.contains k)=true):forget live (forget keys env)=forget live env:=by
 have key:∀ (l:List Nat) (k:Nat),k∈l→Env.get (l.map fun j=>(j,env.get j)) k=env.get k:=by
  intro l
  induction l with
  | nil=>intro k hk;cases hk
  | cons j r ih=>
   intro k hk
   simp only[List.map_cons,Env.get_cons]
   split
   ·rename_i e;subst e;rfl
   ·rename_i e
    rcases List.mem_cons.1 hk with rfl|hk
    ·exact absurd rfl e
    ·exact ih k hk
 unfold forget
 refine List.map_congr_left fun k hk=>?_
 have:=List.all_eq_true.1 h k hk
 rw[key keys k (by simpa using this)]
end
end Go.AL
namespace Go.AL
open Go
attribute [simp] mkEnv forget Env.get_cons Al.last
@[irreducible] def f1(n:Int):List D:=[.i n]
@[irreducible] def fB(b:Bool):List D:=[.b b]
@[simp] theorem f1_def(n:Int):f1 n = [.i n]:=by unfold f1;rfl
@[simp] theorem fB_def(b:Bool):fB b = [.b b]:=by unfold fB;rfl
def dI(l:List Int):D:=.sl 1 (l.map f1)
def dN{α:Type}(sz:Nat)(f:α→List D):List α→D
 | []=>.emp
 | l=>.sl sz (l.map f)
structure Pos where
 cs:List Int
 h0:List Int
 h1:List Int
 rights:Int
 side:Int
 deriving DecidableEq,Inhabited
def Pos.cells(p:Pos):List D:=[dI p.cs,dI p.h0,dI p.h1,.i p.rights,.i p.side]
def dP(p:Pos):D:=.agg p.cells
def dPs(l:List Pos):D:=.sl 5 (l.map Pos.cells)
abbrev Stp:=Int×Int
@[irreducible] def fS(x:Stp):List D:=[.i x.1,.i x.2]
@[simp] theorem fS_def(x:Stp):fS x = [.i x.1,.i x.2]:=by unfold fS;rfl
def dProg(l:List Stp):D:=.sl 2 (l.map fS)
@[irreducible] def fP(l:List Stp):List D:=[dProg l]
@[simp] theorem fP_def(l:List Stp):fP l = [dProg l]:=by unfold fP;rfl
@[irreducible] def fI(l:List Int):List D:=[dI l]
@[simp] theorem fI_def(l:List Int):fI l = [dI l]:=by unfold fI;rfl
structure Kind where
 name:ByteArray
 progs:List (List Stp)
 keep:Bool
 deriving Inhabited
def Kind.cells(k:Kind):List D:=[.val (.string k.name),dN 1 fP k.progs,.b k.keep]
structure Clause where
 cond:Int
 kind:Int
 n:Int
 out:Int
 deriving DecidableEq,Inhabited
def Clause.cells(c:Clause):List D:=[.i c.cond,.i c.kind,.i c.n,.i c.out]
structure Game where
 size:Int
 next:List (List Int)
 turn:List Int
 kinds:List Kind
 rights:Int
 must:Bool
 clauses:List Clause
 blocked:Int
 endless:Int
 deriving Inhabited
def Game.cells(g:Game):List D:=[.i g.size,.sl 1 (g.next.map fI),dI g.turn,.sl 3 (g.kinds.map Kind.cells),.i g.rights,.b g.must,dN 4 Clause.cells g.clauses,.i g.blocked,.i g.endless]
def dG(g:Game):D:=.agg g.cells
def Game.board(g:Game):D:=.agg [.i g.size,.sl 1 (g.next.map fI),dI g.turn]
theorem closedLL_map{α:Type}{f:α→List D}(h:∀ a,closedL (f a)=true):∀ l:List α,closedLL (l.map f)=true
 | []=>rfl
 | a::l=>by simp[closedLL,h a,closedLL_map h l]
@[simp] theorem closed_i(n:Int):closed (.i n)=true:=by simp only[closed]
@[simp] theorem closed_b(b:Bool):closed (.b b)=true:=by simp only[closed]
@[simp] theorem closed_dI(l:List Int):closed (dI l)=true:=by
 simp only[dI,closed]
 exact closedLL_map (fun n=>by simp[closedL]) l
@[simp] theorem closed_dProg(l:List Stp):closed (dProg l)=true:=by
 simp only[dProg,closed]
 exact closedLL_map (fun n=>by simp[closedL]) l
theorem closed_dN{α:Type}{sz:Nat}{f:α→List D}(h:∀ a,closedL (f a)=true)(l:List α):closed (dN sz f l)=true:=by
 cases l with
 | nil=>rfl
 | cons a l=>exact closedLL_map h (a::l)
@[simp] theorem closedL_pos(p:Pos):closedL p.cells=true:=by simp[Pos.cells,closedL,closed]
@[simp] theorem closed_dPs(l:List Pos):closed (dPs l)=true:=by
 simp only[dPs,closed]
 exact closedLL_map (fun p=>closedL_pos p) l
@[simp] theorem closedL_kind(k:Kind):closedL k.cells=true:=by
 simp only[Kind.cells,closedL,closed_dN (f:=fP) (sz:=1) (fun a=>by simp[closedL]),closed_b,Bool.and_true]
 rfl
@[simp] theorem closedL_clause(c:Clause):closedL c.cells=true:=by simp only[Clause.cells,closedL,closed,Bool.and_self]
@[simp] theorem closed_clauses(l:List Clause):closed (dN 4 Clause.cells l)=true:=closed_dN (fun _=>rfl) l
section
variable{α:Type}{sz:Nat}{f:α→List D}{H:Heap}
@[simp] theorem len_sl(sz:Nat)(es:List (List D))(H:Heap):lenO .slice (.sl sz es) H=some (.i es.length):=rfl
@[simp] theorem len_emp(H:Heap):lenO .slice .emp H=some (.i 0):=rfl
@[simp] theorem len_osl(v g sz off n:Nat)(H:Heap):lenO .slice (.osl v g sz off n) H=some (.i n):=rfl
@[simp] theorem len_dI(l:List Int)(H:Heap):lenO .slice (dI l) H=some (.i l.length):=by simp[dI]
@[simp] theorem len_dPs(l:List Pos)(H:Heap):lenO .slice (dPs l) H=some (.i l.length):=by simp[dPs]
@[simp] theorem len_dProg(l:List Stp)(H:Heap):lenO .slice (dProg l) H=some (.i l.length):=by simp[dProg]
@[simp] theorem len_dN(l:List α)(H:Heap):lenO .slice (dN sz f l) H=some (.i l.length):=by
 cases l<;>simp[dN]
end
section
variable(k:IntKind)(a b:Int)
end
end Go.AL
