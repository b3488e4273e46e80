/- Part 9 of DisputeTruth. -/
import Derived.Test.YtmehofoficaelaaGreatDoorV07
set_option linter.all false
namespace Go.AL
open Go
abbrev iQ:=Out->Prop
def PO(K:iQ):pe->Prop:=λr=>∃o,r = .out o/\K o
def PV(K:D->U->Prop):pe->Prop:=λr=>∃d H,r = .val d H/\K d H
section
variable{T:il}
def Wo(T:il)(l:List gR)(s:St)(K:St->Prop):Prop:=Ev T (.ops l s) (PO λo=>∃a,o = .norm a/\K a)
def Wc(T:il)(c:IR)(s:St)(K:iQ):Prop:=Ev T (.code c s) (PO K)
def Wf(T:il)(f:FuncId)(args:List D)(H:U)(K:D->U->Prop):Prop:=Ev T (.call f args H) (PV K)
theorem Wc.mono{c:IR}{s:St}{K a:iQ}(h:Wc T c s K)(hi:∀o,K o->a o):Wc T c s a:=Ev.mono h λ_ ⟨o,e,k⟩=>⟨o,e,hi o k⟩
theorem Wf.mono{f:FuncId}{args:List D}{H:U}{K a:D->U->Prop}(h:Wf T f args H K)(hi:∀d H,K d H->a d H):Wf T f args H a:=Ev.mono h λ_ ⟨d,H,e,k⟩=>⟨d,H,e,hi d H k⟩
theorem Wo.nil{s:St}{K:St->Prop}(h:K s):Wo T [] s K:=Ev.nil ⟨_,rfl,_,rfl,h⟩
theorem Wo.op{e:gR}{r:List gR}{s:St}{K:St->Prop}{d:D}{δ:Dl}(hg:guardOf s.env.get e.guard=some true)(h:gH s.env.get s.H s.H.length e.op=some (d,δ))
  (t:Wo T r { s with env:=put s.env e.dst d,H:=δ.app s.H (Al.last s.H) } K):Wo T (e::r) s K:=Ev.op hg h t
theorem Wo.Cc{e:gR}{r:List gR}{s:St}{K:St->Prop}{d:D}{δ:Dl}(hg:guardOf s.env.get e.guard=some true)(h:ml s.env.get s.H s.H.length e.op=some (d,δ))
  (t:Wo T r { s with env:=put s.env e.dst d,H:=δ.app s.H (Al.last s.H) } K):Wo T (e::r) s K:=Ev.Cc hg h t
theorem Wo.off{e:gR}{r:List gR}{s:St}{K:St->Prop}(hg:guardOf s.env.get e.guard=some false)
  (t:Wo T r { s with env:=put s.env e.dst (.val undef) } K):Wo T (e::r) s K:=Ev.off hg t
theorem Wc.skip{s:St}{K:iQ}(h:K (.norm s)):Wc T .skip s K:=Ev.skip ⟨_,rfl,h⟩
theorem Wc.ret{s:St}{K:iQ}(h:K (.ret s)):Wc T .ret s K:=Ev.ret ⟨_,rfl,h⟩
theorem Wc.exit{id:Nat}{s:St}{K:iQ}(h:K (.exit id s)):Wc T (.exit id) s K:=Ev.exit ⟨_,rfl,h⟩
theorem Wc.ops{l:List gR}{s:St}{K:iQ}(h:Wo T l s λa=>K (.norm a)):Wc T (.ops l) s K:=Ev.FK (Ev.mono h λ_ ⟨o,e,a,b,k⟩=>⟨o,e,by rw[b];exact k⟩)
def NV(T:il)(b:IR)(K:iQ):iQ
 | .norm s=>Wc T b s K
 | o=>K o
theorem Wc.seq{a b:IR}{s:St}{K:iQ}(h:Wc T a s (NV T b K)):Wc T (.seq a b) s K:=by
 refine Ev.seq h (λc ⟨o,e,k⟩=>?_) λo ⟨o',e,k⟩ hs=>?_
 .cases e;exact k
 .cases e
  cases o with
  | norm=>cases hs
  | exit=>exact⟨_,rfl,k⟩
  | ret=>exact⟨_,rfl,k⟩
theorem Wc.acE{c:X}{a b:IR}{s:St}{K:iQ}(d:ev s.env.get c = .b true)(h:Wc T a s K):Wc T (.cond c a b) s K:=Ev.cond (x:=true) d h
theorem Wc.acD{c:X}{a b:IR}{s:St}{K:iQ}(d:ev s.env.get c = .b false)(h:Wc T b s K):Wc T (.cond c a b) s K:=Ev.cond (x:=false) d h
theorem Wc.cond{c:X}{a b:IR}{s:St}{K:iQ}(x:Bool)(d:ev s.env.get c = .b x)(e:x=true->Wc T a s K)(f:x=false->Wc T b s K):Wc T (.cond c a b) s K:=by
 cases x
 .exact Wc.acD d (f rfl)
 .exact Wc.acE d (e rfl)
theorem Wc.block{id:Nat}{live:List Nat}{a:IR}{s:St}{K:iQ}(h:Wc T a s λo=>K (lG id s.H.length live o)):Wc T (.block id live a) s K:=
 Ev.block h λo ⟨o',e,k⟩=>by cases e;exact⟨_,rfl,k⟩
theorem Wc.loop{live:List Nat}{a:IR}{s:St}{K:iQ}(I:Nat->St->Prop)(m:Nat)(h0:I m { s with env:=forget live s.env })
  (h:∀m b,I m b->Wc T a b λo=>match o with
   | .norm d=>∃c,c<m/\I c (cut s.H.length live d)
   | o=>K o):Wc T (.loop live a) s K:=by
 have key:∀m b,I m b->Ev T (.loop s.H.length live a b) (PO K):=by
  intro m
  induction m using Nat.strongRecOn with
  | ind m g=>
   intro b f;refine Ev.zR (h m b f) (λd ⟨o,e,k⟩=>?_) λo ⟨o',e,k⟩ hs=>?_
   .grind
   .cases e
    cases o with
    | norm=>cases hs
    | exit=>exact⟨_,rfl,k⟩
    | ret=>exact⟨_,rfl,k⟩
 exact Ev.loop (key m _ h0)
theorem Vi{n:Nat}{live:List Nat}{s:St}(h:s.H.length<=n):cut n live s = { s with env:=forget live s.env }:=by unfold cut;rw[if_pos (.inl h)]
theorem Wf.call{f:FuncId}{args:List D}{H:U}{fn:je}{K:D->U->Prop}(own:Nat)(a:T.fn f=some fn)(hl:args.length<=fn.ntmps)
  (h:Wc T fn.body { env:=tJ args,H:=H } λo=>∃d H',finish fn own H.length o=some (d,H')/\K d H'):Wf T f args H K:=
 Ev.call own a hl h λo ⟨o',e,d,H',h1,b⟩=>by cases e;exact⟨d,H',h1,d,H',rfl,b⟩
def Wt(T:il)(l:List gR)(s:St)(K:List Rc->St->Prop):Prop:=Ev T (.trace l s) λr=>∃rs a,r = .tr rs a/\K rs a
theorem Wt.nil{s:St}{K:List Rc->St->Prop}(h:K [] s):Wt T [] s K:=Ev.Iy ⟨_,_,rfl,h⟩
theorem Wt.op{e:gR}{r:List gR}{s:St}{K:List Rc->St->Prop}{d:D}{δ:Dl}(hg:guardOf s.env.get e.guard=some true)(h:gH s.env.get s.H s.H.length e.op=some (d,δ))
  (t:Wt T r { s with env:=put s.env e.dst d,H:=δ.app s.H (Al.last s.H) } λrs a=>K (⟨gK s.env.get s.H e.op,jO s.H.length δ⟩::rs) a):Wt T (e::r) s K:=
 Ev.IA hg h t λrs a ⟨_,_,e,k⟩=>by cases e;exact⟨_,_,rfl,k⟩
theorem Wt.off{e:gR}{r:List gR}{s:St}{K:List Rc->St->Prop}(hg:guardOf s.env.get e.guard=some false)
  (t:Wt T r { s with env:=put s.env e.dst (.val undef) } λrs a=>K (⟨[],[]⟩::rs) a):Wt T (e::r) s K:=
 Ev.Iz hg t λrs a ⟨_,_,e,k⟩=>by cases e;exact⟨_,_,rfl,k⟩
theorem Wc.lU{b:List (Nat×Nat)}{l:List gR}{s:St}{K:iQ}(h:Wt T l s λrs a=>vM b rs=true/\K (.norm a)):Wc T (.lU b l) s K:=
 Ev.lU h λrs a ⟨_,_,e,k⟩=>by cases e;exact⟨k.1,_,rfl,k.2⟩
theorem Wc.mF{b:List (Nat×Nat)}{l es:List gR}{s:St}{K:iQ}(h:Wt T l s λrs a=>vM b rs=true/\Wo T es a λa=>K (.norm a)):Wc T (.mF b l es) s K:=
 Ev.mF h (λrs a ⟨_,_,q,k⟩=>by cases q;exact k.1) λrs a ⟨_,_,q,k⟩=>by cases q;exact Ev.mono k.2 λ_ ⟨o,e,a,c,kk⟩=>⟨o,e,by rw[c];exact kk⟩
theorem Wq{live keys:List Nat}{env:Env}(h:(live.all λk=>keys.contains k)=true):forget live (forget keys env)=forget live env:=by
 have key:∀(l:List Nat) (k:Nat),k∈l->Env.get (l.map λj=>(j,env.get j)) k=env.get k:=by
  intro l
  induction l with
  | nil=>intro k a;cases a
  | cons j r b=>
   intro k a;simp only[List.map_cons,Env.wD];split
   .grind
   .grind
 unfold forget;refine au λk a=>?_;have:=List.all_eq_true.1 h k a;rw[key keys k (by simpa using this)]
end
end Go.AL
namespace Go.AL
open Go
attribute [simp] tJ forget Env.wD Al.last
@[irreducible] def f1(n:Int):List D:=[.i n]
@[irreducible] def fB(b:Bool):List D:=[.b b]
@[simp] theorem C6(n:Int):f1 n = [.i n]:=by unfold f1;rfl
@[simp] theorem FV(b:Bool):fB b = [.b b]:=by unfold fB;rfl
def dI(l:List Int):D:=.sl 1 (l.map f1)
def dL{α:Type}(sz:Nat)(f:α->List D)(l:List α):D:=.sl sz (l.map f)
def dN{α:Type}(sz:Nat)(f:α->List D):List α->D
 | []=>.fX
 | l=>.sl sz (l.map f)
structure Pos where
 cs:List Int
 h0:List Int
 h1:List Int
 gD:Int
 side:Int
 deriving DecidableEq,Inhabited
def Pos.cells(p:Pos):List D:=[dI p.cs,dI p.h0,dI p.h1,.i p.gD,.i p.side]
def dP(p:Pos):D:=.agg p.cells
def gQ(l:List Pos):D:=.sl 5 (l.map Pos.cells)
abbrev fO:=Int×Int
@[irreducible] def fS(x:fO):List D:=[.i x.1,.i x.2]
@[simp] theorem AS(x:fO):fS x = [.i x.1,.i x.2]:=by unfold fS;rfl
def ie(l:List fO):D:=.sl 2 (l.map fS)
@[irreducible] def fP(l:List fO):List D:=[ie l]
@[simp] theorem aey(l:List fO):fP l = [ie l]:=by unfold fP;rfl
@[irreducible] def fI(l:List Int):List D:=[dI l]
@[simp] theorem aex(l:List Int):fI l = [dI l]:=by unfold fI;rfl
structure Kind where
 name:ByteArray
 jh:List (List fO)
 keep:Bool
 deriving Inhabited
def Kind.cells(k:Kind):List D:=[.val (.string k.name),dN 1 fP k.jh,.b k.keep]
structure Clause where
 cond:Int
 kind:Int
 n:Int
 out:Int
 deriving DecidableEq,Inhabited
def Clause.cells(c:Clause):List D:=[.i c.cond,.i c.kind,.i c.n,.i c.out]
structure fY where
 size:Int
 next:List (List Int)
 jn:List Int
 kinds:List Kind
 gD:Int
 oi:Bool
 clauses:List Clause
 blocked:Int
 uY:Int
 deriving Inhabited
def fY.cells(g:fY):List D:=[.i g.size,.sl 1 (g.next.map fI),dI g.jn,.sl 3 (g.kinds.map Kind.cells),.i g.gD,.b g.oi,dN 4 Clause.cells g.clauses,.i g.blocked,.i g.uY]
def dG(g:fY):D:=.agg g.cells
def fY.jB(g:fY):D:=.agg [.i g.size,.sl 1 (g.next.map fI),dI g.jn]
theorem C0{α:Type}{f:α->List D}(h:∀a,gw (f a)=true):∀l:List α,CZ (l.map f)=true
 | []=>rfl
 | a::l=>by simp[CZ,h a,C0 h l]
@[simp] theorem asy(n:Int):closed (.i n)=true:=by simp only[closed]
@[simp] theorem aco(b:Bool):closed (.b b)=true:=by simp only[closed]
@[simp] theorem asl(l:List Int):closed (dI l)=true:=by simp only[dI,closed];exact C0 (λn=>by simp[gw]) l
@[simp] theorem ass(l:List fO):closed (ie l)=true:=by simp only[ie,closed];exact C0 (λn=>by simp[gw]) l
theorem AB{α:Type}{sz:Nat}{f:α->List D}(h:∀a,gw (f a)=true)(l:List α):closed (dN sz f l)=true:=by
 cases l with
 | nil=>rfl
 | cons a l=>exact C0 h (a::l)
@[simp] theorem acn(p:Pos):gw p.cells=true:=by simp[Pos.cells,gw,closed]
@[simp] theorem ast(l:List Pos):closed (gQ l)=true:=by simp only[gQ,closed];exact C0 (λp=>acn p) l
@[simp] theorem ase(k:Kind):gw k.cells=true:=by simp only[Kind.cells,gw,AB (f:=fP) (sz:=1) (λa=>by simp[gw]),aco,Bool.and_true];rfl
@[simp] theorem asd(c:Clause):gw c.cells=true:=by simp only[Clause.cells,gw,closed,Bool.and_self]
@[simp] theorem ash(l:List Clause):closed (dN 4 Clause.cells l)=true:=AB (λ_=>rfl) l
section
variable{α:Type}{sz:Nat}{f:α->List D}{H:U}
@[simp] theorem YL(sz:Nat)(es:List (List D))(H:U):mK .slice (.sl sz es) H=some (.i es.length):=rfl
@[simp] theorem au5(H:U):mK .slice .fX H=some (.i 0):=rfl
@[simp] theorem au7(v g sz off n:Nat)(H:U):mK .slice (.fM v g sz off n) H=some (.i n):=rfl
@[simp] theorem au8(s:ByteArray)(H:U):mK .string (.val (.string s)) H=some (.i s.size):=rfl
@[simp] theorem auY(l:List Int)(H:U):mK .slice (dI l) H=some (.i l.length):=by simp[dI]
@[simp] theorem au2(l:List Pos)(H:U):mK .slice (gQ l) H=some (.i l.length):=by simp[gQ]
@[simp] theorem au1(l:List fO)(H:U):mK .slice (ie l) H=some (.i l.length):=by simp[ie]
@[simp] theorem auZ(l:List α)(H:U):mK .slice (dN sz f l) H=some (.i l.length):=by cases l<;>simp[dN]
end
section
variable(k:IntKind)(a b:Int)
@[simp] theorem aqI:jN .eql k a b=some (.b (a == b)):=rfl
@[simp] theorem aqO:jN .neq k a b=some (.b (a != b)):=rfl
@[simp] theorem aqM:jN .lss k a b=some (.b (decide (a<b))):=rfl
@[simp] theorem aqL:jN .leq k a b=some (.b (decide (a<=b))):=rfl
@[simp] theorem aqK:jN .gtr k a b=some (.b (decide (a>b))):=rfl
@[simp] theorem aqJ:jN .geq k a b=some (.b (decide (a>=b))):=rfl
@[simp] theorem aqG:jN .and k a b=some (.val (.int k (bits .and k a b))):=rfl
@[simp] theorem aqH:jN .andNot k a b=some (.val (.int k (bits .andNot k a b))):=rfl
