/- Part 9 of DisputeReferee. -/
import Derived.Test.YtmehofoficaelaaGreatDoorR07
set_option linter.all false
namespace Go.AL
open Go
abbrev iE:=Out->Prop
def PO(K:iE):oS->Prop:=λr=>∃o,r = .out o/\K o
def PV(K:D->U->Prop):oS->Prop:=λr=>∃d H,r = .val d H/\K d H
section
variable{T:ia}
def Wo(T:ia)(l:List gI)(s:St)(K:St->Prop):Prop:=Ev T (.ops l s) (PO λo=>∃a,o = .norm a/\K a)
def Wc(T:ia)(c:IR)(s:St)(K:iE):Prop:=Ev T (.code c s) (PO K)
def Wf(T:ia)(f:FuncId)(args:List D)(H:U)(K:D->U->Prop):Prop:=Ev T (.call f args H) (PV K)
theorem Wc.mono{c:IR}{s:St}{K a:iE}(h:Wc T c s K)(hi:∀o,K o->a o):Wc T c s a:=Ev.mono h λ_ ⟨o,e,k⟩=>⟨o,e,hi o k⟩
theorem Wf.mono{f:FuncId}{args:List D}{H:U}{K a:D->U->Prop}(h:Wf T f args H K)(hi:∀d H,K d H->a d H):Wf T f args H a:=Ev.mono h λ_ ⟨d,H,e,k⟩=>⟨d,H,e,hi d H k⟩
theorem Wo.nil{s:St}{K:St->Prop}(h:K s):Wo T [] s K:=Ev.nil ⟨_,rfl,_,rfl,h⟩
theorem Wo.op{e:gI}{r:List gI}{s:St}{K:St->Prop}{d:D}{δ:Dl}(hg:guardOf s.env.get e.guard=some true)(h:gv s.env.get s.H s.H.length e.op=some (d,δ))
  (t:Wo T r { s with env:=put s.env e.dst d,H:=δ.app s.H (Al.last s.H) } K):Wo T (e::r) s K:=Ev.op hg h t
theorem Wo.Bq{e:gI}{r:List gI}{s:St}{K:St->Prop}{d:D}{δ:Dl}(hg:guardOf s.env.get e.guard=some true)(h:l5 s.env.get s.H s.H.length e.op=some (d,δ))
  (t:Wo T r { s with env:=put s.env e.dst d,H:=δ.app s.H (Al.last s.H) } K):Wo T (e::r) s K:=Ev.Bq hg h t
theorem Wo.off{e:gI}{r:List gI}{s:St}{K:St->Prop}(hg:guardOf s.env.get e.guard=some false)
  (t:Wo T r { s with env:=put s.env e.dst (.val undef) } K):Wo T (e::r) s K:=Ev.off hg t
theorem Wc.skip{s:St}{K:iE}(h:K (.norm s)):Wc T .skip s K:=Ev.skip ⟨_,rfl,h⟩
theorem Wc.ret{s:St}{K:iE}(h:K (.ret s)):Wc T .ret s K:=Ev.ret ⟨_,rfl,h⟩
theorem Wc.exit{id:Nat}{s:St}{K:iE}(h:K (.exit id s)):Wc T (.exit id) s K:=Ev.exit ⟨_,rfl,h⟩
theorem Wc.ops{l:List gI}{s:St}{K:iE}(h:Wo T l s λa=>K (.norm a)):Wc T (.ops l) s K:=Ev.Eu (Ev.mono h λ_ ⟨o,e,a,b,k⟩=>⟨o,e,by rw[b];exact k⟩)
def Mm(T:ia)(b:IR)(K:iE):iE
 | .norm s=>Wc T b s K
 | o=>K o
theorem Wc.seq{a b:IR}{s:St}{K:iE}(h:Wc T a s (Mm T b K)):Wc T (.seq a b) s K:=by
 refine Ev.seq h (λc ⟨o,e,k⟩=>?_) λo ⟨o',e,k⟩ hs=>?_
 .cases e;exact k
 .cases e
  cases o with
  | norm=>cases hs
  | exit=>exact⟨_,rfl,k⟩
  | ret=>exact⟨_,rfl,k⟩
theorem Wc.aaz{c:X}{a b:IR}{s:St}{K:iE}(d:ev s.env.get c = .b true)(h:Wc T a s K):Wc T (.cond c a b) s K:=Ev.cond (x:=true) d h
theorem Wc.aay{c:X}{a b:IR}{s:St}{K:iE}(d:ev s.env.get c = .b false)(h:Wc T b s K):Wc T (.cond c a b) s K:=Ev.cond (x:=false) d h
theorem Wc.cond{c:X}{a b:IR}{s:St}{K:iE}(x:Bool)(d:ev s.env.get c = .b x)(e:x=true->Wc T a s K)(f:x=false->Wc T b s K):Wc T (.cond c a b) s K:=by
 cases x
 .exact Wc.aay d (f rfl)
 .exact Wc.aaz d (e rfl)
theorem Wc.block{id:Nat}{live:List Nat}{a:IR}{s:St}{K:iE}(h:Wc T a s λo=>K (lh id s.H.length live o)):Wc T (.block id live a) s K:=
 Ev.block h λo ⟨o',e,k⟩=>by cases e;exact⟨_,rfl,k⟩
theorem Wc.loop{live:List Nat}{a:IR}{s:St}{K:iE}(I:Nat->St->Prop)(m:Nat)(h0:I m { s with env:=forget live s.env })
  (h:∀m b,I m b->Wc T a b λo=>match o with
   | .norm d=>∃c,c<m/\I c (cut s.H.length live d)
   | o=>K o):Wc T (.loop live a) s K:=by
 have key:∀m b,I m b->Ev T (.loop s.H.length live a b) (PO K):=by
  intro m
  induction m using Nat.strongRecOn with
  | ind m g=>
   intro b f;refine Ev.y5 (h m b f) (λd ⟨o,e,k⟩=>?_) λo ⟨o',e,k⟩ hs=>?_
   .grind
   .cases e
    cases o with
    | norm=>cases hs
    | exit=>exact⟨_,rfl,k⟩
    | ret=>exact⟨_,rfl,k⟩
 exact Ev.loop (key m _ h0)
theorem Tt{n:Nat}{live:List Nat}{s:St}(h:s.H.length<=n):cut n live s = { s with env:=forget live s.env }:=by unfold cut;rw[if_pos (.inl h)]
theorem Wf.call{f:FuncId}{args:List D}{H:U}{fn:iP}{K:D->U->Prop}(own:Nat)(a:T.fn f=some fn)(hl:args.length<=fn.ntmps)
  (h:Wc T fn.body { env:=s7 args,H:=H } λo=>∃d H',finish fn own H.length o=some (d,H')/\K d H'):Wf T f args H K:=
 Ev.call own a hl h λo ⟨o',e,d,H',h1,b⟩=>by cases e;exact⟨d,H',h1,d,H',rfl,b⟩
def Wt(T:ia)(l:List gI)(s:St)(K:List Rc->St->Prop):Prop:=Ev T (.trace l s) λr=>∃rs a,r = .tr rs a/\K rs a
theorem Wt.nil{s:St}{K:List Rc->St->Prop}(h:K [] s):Wt T [] s K:=Ev.G2 ⟨_,_,rfl,h⟩
theorem Wt.op{e:gI}{r:List gI}{s:St}{K:List Rc->St->Prop}{d:D}{δ:Dl}(hg:guardOf s.env.get e.guard=some true)(h:gv s.env.get s.H s.H.length e.op=some (d,δ))
  (t:Wt T r { s with env:=put s.env e.dst d,H:=δ.app s.H (Al.last s.H) } λrs a=>K (⟨gA s.env.get s.H e.op,jy s.H.length δ⟩::rs) a):Wt T (e::r) s K:=
 Ev.G4 hg h t λrs a ⟨_,_,e,k⟩=>by cases e;exact⟨_,_,rfl,k⟩
theorem Wt.off{e:gI}{r:List gI}{s:St}{K:List Rc->St->Prop}(hg:guardOf s.env.get e.guard=some false)
  (t:Wt T r { s with env:=put s.env e.dst (.val undef) } λrs a=>K (⟨[],[]⟩::rs) a):Wt T (e::r) s K:=
 Ev.G3 hg t λrs a ⟨_,_,e,k⟩=>by cases e;exact⟨_,_,rfl,k⟩
theorem Wc.lF{b:List (Nat×Nat)}{l:List gI}{s:St}{K:iE}(h:Wt T l s λrs a=>uZ b rs=true/\K (.norm a)):Wc T (.lF b l) s K:=
 Ev.lF h λrs a ⟨_,_,e,k⟩=>by cases e;exact⟨k.1,_,rfl,k.2⟩
theorem Wc.mj{b:List (Nat×Nat)}{l es:List gI}{s:St}{K:iE}(h:Wt T l s λrs a=>uZ b rs=true/\Wo T es a λa=>K (.norm a)):Wc T (.mj b l es) s K:=
 Ev.mj h (λrs a ⟨_,_,q,k⟩=>by cases q;exact k.1) λrs a ⟨_,_,q,k⟩=>by cases q;exact Ev.mono k.2 λ_ ⟨o,e,a,c,kk⟩=>⟨o,e,by rw[c];exact kk⟩
theorem acH{live keys:List Nat}{env:Env}(h:(live.all λk=>keys.contains k)=true):forget live (forget keys env)=forget live env:=by
 have key:∀(l:List Nat) (k:Nat),k∈l->Env.get (l.map λj=>(j,env.get j)) k=env.get k:=by
  intro l
  induction l with
  | nil=>intro k a;cases a
  | cons j r b=>
   intro k a;simp only[List.map_cons,Env.vC];split
   .grind
   .grind
 unfold forget;refine ak λk a=>?_;have:=List.all_eq_true.1 h k a;rw[key keys k (by simpa using this)]
end
end Go.AL
namespace Go.AL
open Go
attribute [simp] s7 forget Env.vC Al.last
@[irreducible] def f1(n:Int):List D:=[.i n]
@[irreducible] def fB(b:Bool):List D:=[.b b]
@[simp] theorem Ca(n:Int):f1 n = [.i n]:=by unfold f1;rfl
@[simp] theorem EI(b:Bool):fB b = [.b b]:=by unfold fB;rfl
def dI(l:List Int):D:=.sl 1 (l.map f1)
def dN{α:Type}(sz:Nat)(f:α->List D):List α->D
 | []=>.fJ
 | l=>.sl sz (l.map f)
structure Pos where
 cs:List Int
 h0:List Int
 h1:List Int
 gj:Int
 side:Int
 deriving DecidableEq,Inhabited
def Pos.cells(p:Pos):List D:=[dI p.cs,dI p.h0,dI p.h1,.i p.gj,.i p.side]
def dP(p:Pos):D:=.agg p.cells
def gJ(l:List Pos):D:=.sl 5 (l.map Pos.cells)
abbrev fE:=Int×Int
@[irreducible] def fS(x:fE):List D:=[.i x.1,.i x.2]
@[simp] theorem Cd(x:fE):fS x = [.i x.1,.i x.2]:=by unfold fS;rfl
def gY(l:List fE):D:=.sl 2 (l.map fS)
@[irreducible] def fP(l:List fE):List D:=[gY l]
@[simp] theorem acs(l:List fE):fP l = [gY l]:=by unfold fP;rfl
@[irreducible] def fI(l:List Int):List D:=[dI l]
@[simp] theorem acr(l:List Int):fI l = [dI l]:=by unfold fI;rfl
structure Kind where
 name:ByteArray
 iS:List (List fE)
 keep:Bool
 deriving Inhabited
def Kind.cells(k:Kind):List D:=[.val (.string k.name),dN 1 fP k.iS,.b k.keep]
structure Clause where
 cond:Int
 kind:Int
 n:Int
 out:Int
 deriving DecidableEq,Inhabited
def Clause.cells(c:Clause):List D:=[.i c.cond,.i c.kind,.i c.n,.i c.out]
structure fH where
 size:Int
 next:List (List Int)
 iX:List Int
 kinds:List Kind
 gj:Int
 nJ:Bool
 clauses:List Clause
 blocked:Int
 uk:Int
 deriving Inhabited
def fH.cells(g:fH):List D:=[.i g.size,.sl 1 (g.next.map fI),dI g.iX,.sl 3 (g.kinds.map Kind.cells),.i g.gj,.b g.nJ,dN 4 Clause.cells g.clauses,.i g.blocked,.i g.uk]
def dG(g:fH):D:=.agg g.cells
def fH.jm(g:fH):D:=.agg [.i g.size,.sl 1 (g.next.map fI),dI g.iX]
theorem B4{α:Type}{f:α->List D}(h:∀a,gh (f a)=true):∀l:List α,B3 (l.map f)=true
 | []=>rfl
 | a::l=>by simp[B3,h a,B4 h l]
@[simp] theorem ap5(n:Int):closed (.i n)=true:=by simp only[closed]
@[simp] theorem aak(b:Bool):closed (.b b)=true:=by simp only[closed]
@[simp] theorem apS(l:List Int):closed (dI l)=true:=by simp only[dI,closed];exact B4 (λn=>by simp[gh]) l
@[simp] theorem apZ(l:List fE):closed (gY l)=true:=by simp only[gY,closed];exact B4 (λn=>by simp[gh]) l
theorem zJ{α:Type}{sz:Nat}{f:α->List D}(h:∀a,gh (f a)=true)(l:List α):closed (dN sz f l)=true:=by
 cases l with
 | nil=>rfl
 | cons a l=>exact B4 h (a::l)
@[simp] theorem aaj(p:Pos):gh p.cells=true:=by simp[Pos.cells,gh,closed]
@[simp] theorem ap0(l:List Pos):closed (gJ l)=true:=by simp only[gJ,closed];exact B4 (λp=>aaj p) l
@[simp] theorem apM(k:Kind):gh k.cells=true:=by simp only[Kind.cells,gh,zJ (f:=fP) (sz:=1) (λa=>by simp[gh]),aak,Bool.and_true];rfl
@[simp] theorem apL(c:Clause):gh c.cells=true:=by simp only[Clause.cells,gh,closed,Bool.and_self]
@[simp] theorem apP(l:List Clause):closed (dN 4 Clause.cells l)=true:=zJ (λ_=>rfl) l
section
variable{α:Type}{sz:Nat}{f:α->List D}{H:U}
@[simp] theorem Wz(sz:Nat)(es:List (List D))(H:U):mM .slice (.sl sz es) H=some (.i es.length):=rfl
@[simp] theorem asz(H:U):mM .slice .fJ H=some (.i 0):=rfl
@[simp] theorem asB(v g sz off n:Nat)(H:U):mM .slice (.fy v g sz off n) H=some (.i n):=rfl
@[simp] theorem asC(s:ByteArray)(H:U):mM .string (.val (.string s)) H=some (.i s.size):=rfl
@[simp] theorem ass(l:List Int)(H:U):mM .slice (dI l) H=some (.i l.length):=by simp[dI]
@[simp] theorem asw(l:List Pos)(H:U):mM .slice (gJ l) H=some (.i l.length):=by simp[gJ]
@[simp] theorem asv(l:List fE)(H:U):mM .slice (gY l) H=some (.i l.length):=by simp[gY]
@[simp] theorem ast(l:List α)(H:U):mM .slice (dN sz f l) H=some (.i l.length):=by cases l<;>simp[dN]
end
section
variable(k:IntKind)(a b:Int)
@[simp] theorem aoj:jx .eql k a b=some (.b (a == b)):=rfl
@[simp] theorem aoq:jx .neq k a b=some (.b (a != b)):=rfl
@[simp] theorem aon:jx .lss k a b=some (.b (decide (a<b))):=rfl
@[simp] theorem aom:jx .leq k a b=some (.b (decide (a<=b))):=rfl
@[simp] theorem aol:jx .gtr k a b=some (.b (decide (a>b))):=rfl
@[simp] theorem aok:jx .geq k a b=some (.b (decide (a>=b))):=rfl
@[simp] theorem aoh:jx .and k a b=some (.val (.int k (bits .and k a b))):=rfl
@[simp] theorem aoi:jx .andNot k a b=some (.val (.int k (bits .andNot k a b))):=rfl
