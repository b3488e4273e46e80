/- 9 -/
import Derived.Test.YtmehofoficaelaaGreatDoorP07
set_option linter.all false
open Option renaming some→aE
open List renaming length→List.l
namespace Go.AL
open Go
abbrev jD:=Out->Prop
def PO(K:jD):rW->Prop:=λr=>∃o,r = .out o/\K o
def PV(K:D->gQ->Prop):rW->Prop:=λr=>∃d H,r = .val d H/\K d H
section
variable{T:jt}
def Wo(T:jt)(l:List jb)(s:St)(K:St->Prop):Prop:=Ev T (.ops l s) (PO λo=>∃s',o = .norm s'/\K s')
def Wc(T:jt)(c:IR)(s:St)(K:jD):Prop:=Ev T (.code c s) (PO K)
def Wf(T:jt)(f:FuncId)(args:List D)(H:gQ)(K:D->gQ->Prop):Prop:=Ev T (.call f args H) (PV K)
theorem Wc.mono{c:IR}{s:St}{K a:jD}(h:Wc T c s K)(hi:∀o,K o->a o):Wc T c s a:=Ev.mono h λ_ ⟨o,e,k⟩=>⟨o,e,hi o k⟩
theorem Wf.mono{f:FuncId}{args:List D}{H:gQ}{K a:D->gQ->Prop}(h:Wf T f args H K)(hi:∀d H,K d H->a d H):Wf T f args H a:=Ev.mono h λ_ ⟨d,H,e,k⟩=>⟨d,H,e,hi d H k⟩
theorem Wo.nil{s:St}{K:St->Prop}(h:K s):Wo T [] s K:=Ev.nil ⟨_,rfl,_,rfl,h⟩
theorem Wo.op{e:jb}{r:List jb}{s:St}{K:St->Prop}{d:D}{δ:Dl}(hg:guardOf s.env.get e.guard=aE true)(h:iL s.env.get s.H s.H.l e.op=aE (d,δ))
  (t:Wo T r { s with env:=put s.env e.dst d,H:=δ.app s.H (Al.last s.H) } K):Wo T (e::r) s K:=Ev.op hg h t
theorem Wo.E4{e:jb}{r:List jb}{s:St}{K:St->Prop}{d:D}{δ:Dl}(hg:guardOf s.env.get e.guard=aE true)(h:nW s.env.get s.H s.H.l e.op=aE (d,δ))
  (t:Wo T r { s with env:=put s.env e.dst d,H:=δ.app s.H (Al.last s.H) } K):Wo T (e::r) s K:=Ev.E4 hg h t
theorem Wo.off{e:jb}{r:List jb}{s:St}{K:St->Prop}(hg:guardOf s.env.get e.guard=aE false)
  (t:Wo T r { s with env:=put s.env e.dst (.val undef) } K):Wo T (e::r) s K:=Ev.off hg t
theorem Wc.skip{s:St}{K:jD}(h:K (.norm s)):Wc T .skip s K:=Ev.skip ⟨_,rfl,h⟩
theorem Wc.ret{s:St}{K:jD}(h:K (.ret s)):Wc T .ret s K:=Ev.ret ⟨_,rfl,h⟩
theorem Wc.exit{id:Nat}{s:St}{K:jD}(h:K (.exit id s)):Wc T (.exit id) s K:=Ev.exit ⟨_,rfl,h⟩
theorem Wc.ops{l:List jb}{s:St}{K:jD}(h:Wo T l s λs'=>K (.norm s')):Wc T (.ops l) s K:=Ev.Jn (Ev.mono h λ_ ⟨o,e,s',a,k⟩=>⟨o,e,by rw[a];exact k⟩)
def RZ(T:jt)(b:IR)(K:jD):jD
 | .norm s=>Wc T b s K
 | o=>K o
theorem Wc.seq{a b:IR}{s:St}{K:jD}(h:Wc T a s (RZ T b K)):Wc T (.seq a b) s K:=by
 refine Ev.seq h (λs' ⟨o,e,k⟩=>?_) λo ⟨o',e,k⟩ hs=>?_
 .cases e;exact k
 .cases e
  cases o with
  | norm=>cases hs
  | exit=>exact⟨_,rfl,k⟩
  | ret=>exact⟨_,rfl,k⟩
theorem Wc.ag4{c:X}{a b:IR}{s:St}{K:jD}(d:ev s.env.get c = .b true)(h:Wc T a s K):Wc T (.cond c a b) s K:=Ev.cond (x:=true) d h
theorem Wc.ag3{c:X}{a b:IR}{s:St}{K:jD}(d:ev s.env.get c = .b false)(h:Wc T b s K):Wc T (.cond c a b) s K:=Ev.cond (x:=false) d h
theorem Wc.cond{c:X}{a b:IR}{s:St}{K:jD}(x:Bool)(d:ev s.env.get c = .b x)(e:x=true->Wc T a s K)(f:x=false->Wc T b s K):Wc T (.cond c a b) s K:=by
 cases x
 .exact Wc.ag3 d (f rfl)
 .exact Wc.ag4 d (e rfl)
theorem Wc.block{id:Nat}{live:List Nat}{a:IR}{s:St}{K:jD}(h:Wc T a s λo=>K (mX id s.H.l live o)):Wc T (.block id live a) s K:=
 Ev.block h λo ⟨o',e,k⟩=>by cases e;exact⟨_,rfl,k⟩
theorem Wc.loop{live:List Nat}{a:IR}{s:St}{K:jD}(I:Nat->St->Prop)(m:Nat)(h0:I m { s with env:=forget live s.env })
  (h:∀m s',I m s'->Wc T a s' λo=>match o with
   | .norm c=>∃b,b<m/\I b (cut s.H.l live c)
   | o=>K o):Wc T (.loop live a) s K:=by
 have key:∀m s',I m s'->Ev T (.loop s.H.l live a s') (PO K):=by
  intro m
  induction m using Nat.strongRecOn with
  | ind m f=>
   intro s' d;refine Ev.Cn (h m s' d) (λc ⟨o,e,k⟩=>?_) λo ⟨o',e,k⟩ hs=>?_
   .grind
   .cases e
    cases o with
    | norm=>cases hs
    | exit=>exact⟨_,rfl,k⟩
    | ret=>exact⟨_,rfl,k⟩
 exact Ev.loop (key m _ h0)
theorem Jq{n:Nat}{live:List Nat}{s:St}(h:s.H.l<=n):cut n live s = { s with env:=forget live s.env }:=by unfold cut;rw[if_pos (.inl h)]
theorem Wf.call{f:FuncId}{args:List D}{H:gQ}{fn:kn}{K:D->gQ->Prop}(own:Nat)(a:T.fn f=aE fn)(hl:args.l<=fn.ntmps)
  (h:Wc T fn.body { env:=wH args,H:=H } λo=>∃d H',finish fn own H.l o=aE (d,H')/\K d H'):Wf T f args H K:=
 Ev.call own a hl h λo ⟨o',e,d,H',h1,b⟩=>by cases e;exact⟨d,H',h1,d,H',rfl,b⟩
def Wt(T:jt)(l:List jb)(s:St)(K:List Rc->St->Prop):Prop:=Ev T (.trace l s) λr=>∃rs s',r = .tr rs s'/\K rs s'
theorem Wt.nil{s:St}{K:List Rc->St->Prop}(h:K [] s):Wt T [] s K:=Ev.Mg ⟨_,_,rfl,h⟩
theorem Wt.op{e:jb}{r:List jb}{s:St}{K:List Rc->St->Prop}{d:D}{δ:Dl}(hg:guardOf s.env.get e.guard=aE true)(h:iL s.env.get s.H s.H.l e.op=aE (d,δ))
  (t:Wt T r { s with env:=put s.env e.dst d,H:=δ.app s.H (Al.last s.H) } λrs s'=>K (⟨iO s.env.get s.H e.op,kX s.H.l δ⟩::rs) s'):Wt T (e::r) s K:=
 Ev.Mi hg h t λrs s' ⟨_,_,e,k⟩=>by cases e;exact⟨_,_,rfl,k⟩
theorem Wt.off{e:jb}{r:List jb}{s:St}{K:List Rc->St->Prop}(hg:guardOf s.env.get e.guard=aE false)
  (t:Wt T r { s with env:=put s.env e.dst (.val undef) } λrs s'=>K (⟨[],[]⟩::rs) s'):Wt T (e::r) s K:=
 Ev.Mh hg t λrs s' ⟨_,_,e,k⟩=>by cases e;exact⟨_,_,rfl,k⟩
theorem Wc.np{a:List (Nat×Nat)}{l:List jb}{s:St}{K:jD}(h:Wt T l s λrs s'=>ym a rs=true/\K (.norm s')):Wc T (.np a l) s K:=
 Ev.np h λrs s' ⟨_,_,e,k⟩=>by cases e;exact⟨k.1,_,rfl,k.2⟩
theorem Wc.oH{a:List (Nat×Nat)}{l es:List jb}{s:St}{K:jD}(h:Wt T l s λrs s'=>ym a rs=true/\Wo T es s' λs'=>K (.norm s')):Wc T (.oH a l es) s K:=
 Ev.oH h (λrs s' ⟨_,_,q,k⟩=>by cases q;exact k.1) λrs s' ⟨_,_,q,k⟩=>by cases q;exact Ev.mono k.2 λ_ ⟨o,e,s',e2,kk⟩=>⟨o,e,by rw[e2];exact kk⟩
theorem T8{live keys:List Nat}{env:Env}(h:(live.all λk=>keys.contains k)=true):forget live (forget keys env)=forget live env:=by
 have key:∀(l:List Nat) (k:Nat),k∈l->Env.get (l.map λj=>(j,env.get j)) k=env.get k:=by
  intro l
  induction l with
  | nil=>intro k a;cases a
  | cons j r b=>
   intro k a;simp only[List.map_cons,Env.y4];split
   .grind
   .grind
 unfold forget;refine au λk a=>?_;have:=List.all_eq_true.1 h k a;rw[key keys k (by simpa using this)]
end
attribute [simp] wH forget Env.y4 Al.last
@[irreducible] def f1(n:Int):List D:=[.i n]
@[irreducible] def fB(b:Bool):List D:=[.b b]
@[simp] theorem Bw(n:Int):f1 n = [.i n]:=by unfold f1;rfl
@[simp] theorem Qi(b:Bool):fB b = [.b b]:=by unfold fB;rfl
def dI(l:List Int):D:=.sl 1 (l.map f1)
def dL{α:Type}(sz:Nat)(f:α->List D)(l:List α):D:=.sl sz (l.map f)
def dN{α:Type}(sz:Nat)(f:α->List D):List α->D
 | []=>.gV
 | l=>.sl sz (l.map f)
structure Pos where
 cs:List Int
 h0:List Int
 h1:List Int
 iw:Int
 side:Int
 deriving DecidableEq,Inhabited
def Pos.cells(p:Pos):List D:=[dI p.cs,dI p.h0,dI p.h1,.i p.iw,.i p.side]
def dP(p:Pos):D:=.agg p.cells
def iZ(l:List Pos):D:=.sl 5 (l.map Pos.cells)
abbrev gT:=Int×Int
@[irreducible] def fS(x:gT):List D:=[.i x.1,.i x.2]
@[simp] theorem z6(x:gT):fS x = [.i x.1,.i x.2]:=by unfold fS;rfl
def iS(l:List gT):D:=.sl 2 (l.map fS)
@[irreducible] def fP(l:List gT):List D:=[iS l]
@[simp] theorem ajf(l:List gT):fP l = [iS l]:=by unfold fP;rfl
@[irreducible] def fI(l:List Int):List D:=[dI l]
@[simp] theorem aje(l:List Int):fI l = [dI l]:=by unfold fI;rfl
structure Kind where
 name:ByteArray
 jv:List (List gT)
 keep:Bool
 deriving Inhabited
def Kind.cells(k:Kind):List D:=[.val (.string k.name),dN 1 fP k.jv,.b k.keep]
structure Clause where
 cond:Int
 kind:Int
 n:Int
 out:Int
 deriving DecidableEq,Inhabited
def Clause.cells(c:Clause):List D:=[.i c.cond,.i c.kind,.i c.n,.i c.out]
structure gY where
 size:Int
 next:List (List Int)
 jC:List Int
 kinds:List Kind
 iw:Int
 me:Bool
 clauses:List Clause
 blocked:Int
 oV:Int
 deriving Inhabited
def gY.cells(g:gY):List D:=[.i g.size,.sl 1 (g.next.map fI),dI g.jC,.sl 3 (g.kinds.map Kind.cells),.i g.iw,.b g.me,dN 4 Clause.cells g.clauses,.i g.blocked,.i g.oV]
def dG(g:gY):D:=.agg g.cells
def gY.kC(g:gY):D:=.agg [.i g.size,.sl 1 (g.next.map fI),dI g.jC]
theorem FZ{α:Type}{f:α->List D}(h:∀a,iB (f a)=true):∀l:List α,FY (l.map f)=true
 | []=>rfl
 | a::l=>by simp[FY,h a,FZ h l]
@[simp] theorem ayB(n:Int):closed (.i n)=true:=by simp only[closed]
@[simp] theorem agN(b:Bool):closed (.b b)=true:=by simp only[closed]
@[simp] theorem PR(l:List Int):closed (dI l)=true:=by simp only[dI,closed];exact FZ (λn=>by simp[iB]) l
@[simp] theorem ayw(l:List gT):closed (iS l)=true:=by simp only[iS,closed];exact FZ (λn=>by simp[iB]) l
def Db{α:Type}{sz:Nat}{f:α->List D}(h:∀a,iB (f a)=true)(l:List α):closed (dN sz f l)=true:=by
 cases l with
 | nil=>rfl
 | cons a l=>exact FZ h (a::l)
@[simp] theorem agM(p:Pos):iB p.cells=true:=by simp[Pos.cells,iB,closed]
@[simp] theorem agP(l:List Pos):closed (iZ l)=true:=by simp only[iZ,closed];exact FZ (λp=>agM p) l
@[simp] theorem ayj(k:Kind):iB k.cells=true:=by simp only[Kind.cells,iB,Db (f:=fP) (sz:=1) (λa=>by simp[iB]),agN,Bool.and_true];rfl
@[simp] theorem ayi(c:Clause):iB c.cells=true:=by simp only[Clause.cells,iB,closed,Bool.and_self]
@[simp] theorem ayn(l:List Clause):closed (dN 4 Clause.cells l)=true:=Db (λ_=>rfl) l
section
variable{α:Type}{sz:Nat}{f:α->List D}{H:gQ}
@[simp] theorem acK(sz:Nat)(es:List (List D))(H:gQ):od .slice (.sl sz es) H=aE (.i es.l):=rfl
@[simp] theorem aA6(H:gQ):od .slice .gV H=aE (.i 0):=rfl
@[simp] theorem aA8(v g sz off n:Nat)(H:gQ):od .slice (.gR v g sz off n) H=aE (.i n):=rfl
@[simp] theorem aA9(s:ByteArray)(H:gQ):od .string (.val (.string s)) H=aE (.i s.size):=rfl
@[simp] theorem aAZ(l:List Int)(H:gQ):od .slice (dI l) H=aE (.i l.l):=by simp[dI]
@[simp] theorem aA3(l:List Pos)(H:gQ):od .slice (iZ l) H=aE (.i l.l):=by simp[iZ]
@[simp] theorem aA2(l:List gT)(H:gQ):od .slice (iS l) H=aE (.i l.l):=by simp[iS]
@[simp] theorem aA0(l:List α)(H:gQ):od .slice (dN sz f l) H=aE (.i l.l):=by cases l<;>simp[dN]
end
section
variable(k:IntKind)(a b:Int)
@[simp] theorem awR:kW .eql k a b=aE (.b (a == b)):=rfl
@[simp] theorem awX:kW .neq k a b=aE (.b (a != b)):=rfl
@[simp] theorem awV:kW .lss k a b=aE (.b (decide (a<b))):=rfl
@[simp] theorem awU:kW .leq k a b=aE (.b (decide (a<=b))):=rfl
@[simp] theorem awT:kW .gtr k a b=aE (.b (decide (a>b))):=rfl
@[simp] theorem awS:kW .geq k a b=aE (.b (decide (a>=b))):=rfl
@[simp] theorem awP:kW .and k a b=aE (.val (.int k (bits .and k a b))):=rfl
@[simp] theorem awQ:kW .andNot k a b=aE (.val (.int k (bits .andNot k a b))):=rfl
