/- Part 9 of DisputeSettles. -/
import Derived.Test.YtmehofoficaelaaGreatDoorS07
set_option linter.all false
namespace Go.AL
open Go
abbrev iU:=Out->Prop
def PO(K:iU):pI->Prop:=λr=>∃o,r = .out o/\K o
def PV(K:D->U->Prop):pI->Prop:=λr=>∃d H,r = .val d H/\K d H
section
variable{T:iD}
def Wo(T:iD)(l:List ia)(s:St)(K:St->Prop):Prop:=Ev T (.ops l s) (PO λo=>∃s',o = .norm s'/\K s')
def Wc(T:iD)(c:IR)(s:St)(K:iU):Prop:=Ev T (.code c s) (PO K)
def Wf(T:iD)(f:FuncId)(args:List D)(H:U)(K:D->U->Prop):Prop:=Ev T (.call f args H) (PV K)
theorem Wc.mono{c:IR}{s:St}{K a:iU}(h:Wc T c s K)(hi:∀o,K o->a o):Wc T c s a:=Ev.mono h λ_ ⟨o,e,k⟩=>⟨o,e,hi o k⟩
theorem Wf.mono{f:FuncId}{args:List D}{H:U}{K a:D->U->Prop}(h:Wf T f args H K)(hi:∀d H,K d H->a d H):Wf T f args H a:=Ev.mono h λ_ ⟨d,H,e,k⟩=>⟨d,H,e,hi d H k⟩
theorem Wo.nil{s:St}{K:St->Prop}(h:K s):Wo T [] s K:=Ev.nil ⟨_,rfl,_,rfl,h⟩
theorem Wo.op{e:ia}{r:List ia}{s:St}{K:St->Prop}{d:D}{δ:Dl}(hg:guardOf s.env.get e.guard=some true)(h:gP s.env.get s.H s.H.length e.op=some (d,δ))
  (t:Wo T r { s with env:=put s.env e.dst d,H:=δ.app s.H (Al.last s.H) } K):Wo T (e::r) s K:=Ev.op hg h t
theorem Wo.C1{e:ia}{r:List ia}{s:St}{K:St->Prop}{d:D}{δ:Dl}(hg:guardOf s.env.get e.guard=some true)(h:mC s.env.get s.H s.H.length e.op=some (d,δ))
  (t:Wo T r { s with env:=put s.env e.dst d,H:=δ.app s.H (Al.last s.H) } K):Wo T (e::r) s K:=Ev.C1 hg h t
theorem Wo.off{e:ia}{r:List ia}{s:St}{K:St->Prop}(hg:guardOf s.env.get e.guard=some false)
  (t:Wo T r { s with env:=put s.env e.dst (.val undef) } K):Wo T (e::r) s K:=Ev.off hg t
theorem Wc.skip{s:St}{K:iU}(h:K (.norm s)):Wc T .skip s K:=Ev.skip ⟨_,rfl,h⟩
theorem Wc.ret{s:St}{K:iU}(h:K (.ret s)):Wc T .ret s K:=Ev.ret ⟨_,rfl,h⟩
theorem Wc.exit{id:Nat}{s:St}{K:iU}(h:K (.exit id s)):Wc T (.exit id) s K:=Ev.exit ⟨_,rfl,h⟩
theorem Wc.ops{l:List ia}{s:St}{K:iU}(h:Wo T l s λs'=>K (.norm s')):Wc T (.ops l) s K:=Ev.GG (Ev.mono h λ_ ⟨o,e,s',a,k⟩=>⟨o,e,by rw[a];exact k⟩)
def Pb(T:iD)(b:IR)(K:iU):iU
 | .norm s=>Wc T b s K
 | o=>K o
theorem Wc.seq{a b:IR}{s:St}{K:iU}(h:Wc T a s (Pb T b K)):Wc T (.seq a b) s K:=by
 refine Ev.seq h (λs' ⟨o,e,k⟩=>?_) λo ⟨o',e,k⟩ hs=>?_
 .cases e;exact k
 .cases e
  cases o with
  | norm=>cases hs
  | exit=>exact⟨_,rfl,k⟩
  | ret=>exact⟨_,rfl,k⟩
theorem Wc.adX{c:X}{a b:IR}{s:St}{K:iU}(d:ev s.env.get c = .b true)(h:Wc T a s K):Wc T (.cond c a b) s K:=Ev.cond (x:=true) d h
theorem Wc.adW{c:X}{a b:IR}{s:St}{K:iU}(d:ev s.env.get c = .b false)(h:Wc T b s K):Wc T (.cond c a b) s K:=Ev.cond (x:=false) d h
theorem Wc.cond{c:X}{a b:IR}{s:St}{K:iU}(x:Bool)(d:ev s.env.get c = .b x)(e:x=true->Wc T a s K)(f:x=false->Wc T b s K):Wc T (.cond c a b) s K:=by
 cases x
 .exact Wc.adW d (f rfl)
 .exact Wc.adX d (e rfl)
theorem Wc.block{id:Nat}{live:List Nat}{a:IR}{s:St}{K:iU}(h:Wc T a s λo=>K (lS id s.H.length live o)):Wc T (.block id live a) s K:=
 Ev.block h λo ⟨o',e,k⟩=>by cases e;exact⟨_,rfl,k⟩
theorem Wc.loop{live:List Nat}{a:IR}{s:St}{K:iU}(I:Nat->St->Prop)(m:Nat)(h0:I m { s with env:=forget live s.env })
  (h:∀m s',I m s'->Wc T a s' λo=>match o with
   | .norm c=>∃b,b<m/\I b (cut s.H.length live c)
   | o=>K o):Wc T (.loop live a) s K:=by
 have key:∀m s',I m s'->Ev T (.loop s.H.length live a s') (PO K):=by
  intro m
  induction m using Nat.strongRecOn with
  | ind m f=>
   intro s' d;refine Ev.AE (h m s' d) (λc ⟨o,e,k⟩=>?_) λo ⟨o',e,k⟩ hs=>?_
   .grind
   .cases e
    cases o with
    | norm=>cases hs
    | exit=>exact⟨_,rfl,k⟩
    | ret=>exact⟨_,rfl,k⟩
 exact Ev.loop (key m _ h0)
theorem QK{n:Nat}{live:List Nat}{s:St}(h:s.H.length<=n):cut n live s = { s with env:=forget live s.env }:=by unfold cut;rw[if_pos (.inl h)]
theorem Wf.call{f:FuncId}{args:List D}{H:U}{fn:jo}{K:D->U->Prop}(own:Nat)(a:T.fn f=some fn)(hl:args.length<=fn.ntmps)
  (h:Wc T fn.body { env:=uo args,H:=H } λo=>∃d H',finish fn own H.length o=some (d,H')/\K d H'):Wf T f args H K:=
 Ev.call own a hl h λo ⟨o',e,d,H',h1,b⟩=>by cases e;exact⟨d,H',h1,d,H',rfl,b⟩
def Wt(T:iD)(l:List ia)(s:St)(K:List Rc->St->Prop):Prop:=Ev T (.trace l s) λr=>∃rs s',r = .tr rs s'/\K rs s'
theorem Wt.nil{s:St}{K:List Rc->St->Prop}(h:K [] s):Wt T [] s K:=Ev.Jz ⟨_,_,rfl,h⟩
theorem Wt.op{e:ia}{r:List ia}{s:St}{K:List Rc->St->Prop}{d:D}{δ:Dl}(hg:guardOf s.env.get e.guard=some true)(h:gP s.env.get s.H s.H.length e.op=some (d,δ))
  (t:Wt T r { s with env:=put s.env e.dst d,H:=δ.app s.H (Al.last s.H) } λrs s'=>K (⟨gR s.env.get s.H e.op,jV s.H.length δ⟩::rs) s'):Wt T (e::r) s K:=
 Ev.JB hg h t λrs s' ⟨_,_,e,k⟩=>by cases e;exact⟨_,_,rfl,k⟩
theorem Wt.off{e:ia}{r:List ia}{s:St}{K:List Rc->St->Prop}(hg:guardOf s.env.get e.guard=some false)
  (t:Wt T r { s with env:=put s.env e.dst (.val undef) } λrs s'=>K (⟨[],[]⟩::rs) s'):Wt T (e::r) s K:=
 Ev.JA hg t λrs s' ⟨_,_,e,k⟩=>by cases e;exact⟨_,_,rfl,k⟩
theorem Wc.mb{a:List (Nat×Nat)}{l:List ia}{s:St}{K:iU}(h:Wt T l s λrs s'=>wE a rs=true/\K (.norm s')):Wc T (.mb a l) s K:=
 Ev.mb h λrs s' ⟨_,_,e,k⟩=>by cases e;exact⟨k.1,_,rfl,k.2⟩
theorem Wc.mR{a:List (Nat×Nat)}{l es:List ia}{s:St}{K:iU}(h:Wt T l s λrs s'=>wE a rs=true/\Wo T es s' λs'=>K (.norm s')):Wc T (.mR a l es) s K:=
 Ev.mR h (λrs s' ⟨_,_,q,k⟩=>by cases q;exact k.1) λrs s' ⟨_,_,q,k⟩=>by cases q;exact Ev.mono k.2 λ_ ⟨o,e,s',b,kk⟩=>⟨o,e,by rw[b];exact kk⟩
theorem XI{live keys:List Nat}{env:Env}(h:(live.all λk=>keys.contains k)=true):forget live (forget keys env)=forget live env:=by
 have key:∀(l:List Nat) (k:Nat),k∈l->Env.get (l.map λj=>(j,env.get j)) k=env.get k:=by
  intro l
  induction l with
  | nil=>intro k a;cases a
  | cons j r b=>
   intro k a;simp only[List.map_cons,Env.xf];split
   .grind
   .grind
 unfold forget;refine aq λk a=>?_;have:=List.all_eq_true.1 h k a;rw[key keys k (by simpa using this)]
end
end Go.AL
namespace Go.AL
open Go
attribute [simp] uo forget Env.xf Al.last
@[irreducible] def f1(n:Int):List D:=[.i n]
@[irreducible] def fB(b:Bool):List D:=[.b b]
@[simp] theorem zO(n:Int):f1 n = [.i n]:=by unfold f1;rfl
@[simp] theorem GX(b:Bool):fB b = [.b b]:=by unfold fB;rfl
def dI(l:List Int):D:=.sl 1 (l.map f1)
def dL{α:Type}(sz:Nat)(f:α->List D)(l:List α):D:=.sl sz (l.map f)
def dN{α:Type}(sz:Nat)(f:α->List D):List α->D
 | []=>.gg
 | l=>.sl sz (l.map f)
structure Pos where
 cs:List Int
 h0:List Int
 h1:List Int
 gM:Int
 side:Int
 deriving DecidableEq,Inhabited
def Pos.cells(p:Pos):List D:=[dI p.cs,dI p.h0,dI p.h1,.i p.gM,.i p.side]
def dP(p:Pos):D:=.agg p.cells
def gZ(l:List Pos):D:=.sl 5 (l.map Pos.cells)
abbrev gd:=Int×Int
@[irreducible] def fS(x:gd):List D:=[.i x.1,.i x.2]
@[simp] theorem xd(x:gd):fS x = [.i x.1,.i x.2]:=by unfold fS;rfl
def iw(l:List gd):D:=.sl 2 (l.map fS)
@[irreducible] def fP(l:List gd):List D:=[iw l]
@[simp] theorem afU(l:List gd):fP l = [iw l]:=by unfold fP;rfl
@[irreducible] def fI(l:List Int):List D:=[dI l]
@[simp] theorem afT(l:List Int):fI l = [dI l]:=by unfold fI;rfl
structure Kind where
 name:ByteArray
 jr:List (List gd)
 keep:Bool
 deriving Inhabited
def Kind.cells(k:Kind):List D:=[.val (.string k.name),dN 1 fP k.jr,.b k.keep]
structure Clause where
 cond:Int
 kind:Int
 n:Int
 out:Int
 deriving DecidableEq,Inhabited
def Clause.cells(c:Clause):List D:=[.i c.cond,.i c.kind,.i c.n,.i c.out]
structure gj where
 size:Int
 next:List (List Int)
 jw:List Int
 kinds:List Kind
 gM:Int
 oH:Bool
 clauses:List Clause
 blocked:Int
 vJ:Int
 deriving Inhabited
def gj.cells(g:gj):List D:=[.i g.size,.sl 1 (g.next.map fI),dI g.jw,.sl 3 (g.kinds.map Kind.cells),.i g.gM,.b g.oH,dN 4 Clause.cells g.clauses,.i g.blocked,.i g.vJ]
def dG(g:gj):D:=.agg g.cells
def gj.jJ(g:gj):D:=.agg [.i g.size,.sl 1 (g.next.map fI),dI g.jw]
theorem DL{α:Type}{f:α->List D}(h:∀a,gG (f a)=true):∀l:List α,DK (l.map f)=true
 | []=>rfl
 | a::l=>by simp[DK,h a,DL h l]
@[simp] theorem auc(n:Int):closed (.i n)=true:=by simp only[closed]
@[simp] theorem adH(b:Bool):closed (.b b)=true:=by simp only[closed]
@[simp] theorem atX(l:List Int):closed (dI l)=true:=by simp only[dI,closed];exact DL (λn=>by simp[gG]) l
@[simp] theorem at4(l:List gd):closed (iw l)=true:=by simp only[iw,closed];exact DL (λn=>by simp[gG]) l
def Bg{α:Type}{sz:Nat}{f:α->List D}(h:∀a,gG (f a)=true)(l:List α):closed (dN sz f l)=true:=by
 cases l with
 | nil=>rfl
 | cons a l=>exact DL h (a::l)
@[simp] theorem adG(p:Pos):gG p.cells=true:=by simp[Pos.cells,gG,closed]
@[simp] theorem at5(l:List Pos):closed (gZ l)=true:=by simp only[gZ,closed];exact DL (λp=>adG p) l
@[simp] theorem atP(k:Kind):gG k.cells=true:=by simp only[Kind.cells,gG,Bg (f:=fP) (sz:=1) (λa=>by simp[gG]),adH,Bool.and_true];rfl
@[simp] theorem atO(c:Clause):gG c.cells=true:=by simp only[Clause.cells,gG,closed,Bool.and_self]
@[simp] theorem atU(l:List Clause):closed (dN 4 Clause.cells l)=true:=Bg (λ_=>rfl) l
section
variable{α:Type}{sz:Nat}{f:α->List D}{H:U}
@[simp] theorem Z4(sz:Nat)(es:List (List D))(H:U):mX .slice (.sl sz es) H=some (.i es.length):=rfl
@[simp] theorem awE(H:U):mX .slice .gg H=some (.i 0):=rfl
@[simp] theorem awG(v g sz off n:Nat)(H:U):mX .slice (.fZ v g sz off n) H=some (.i n):=rfl
@[simp] theorem awH(s:ByteArray)(H:U):mX .string (.val (.string s)) H=some (.i s.size):=rfl
@[simp] theorem awx(l:List Int)(H:U):mX .slice (dI l) H=some (.i l.length):=by simp[dI]
@[simp] theorem awB(l:List Pos)(H:U):mX .slice (gZ l) H=some (.i l.length):=by simp[gZ]
@[simp] theorem awA(l:List gd)(H:U):mX .slice (iw l) H=some (.i l.length):=by simp[iw]
@[simp] theorem awy(l:List α)(H:U):mX .slice (dN sz f l) H=some (.i l.length):=by cases l<;>simp[dN]
end
section
variable(k:IntKind)(a b:Int)
@[simp] theorem asm:jU .eql k a b=some (.b (a == b)):=rfl
@[simp] theorem ass:jU .neq k a b=some (.b (a != b)):=rfl
@[simp] theorem asq:jU .lss k a b=some (.b (decide (a<b))):=rfl
@[simp] theorem asp:jU .leq k a b=some (.b (decide (a<=b))):=rfl
@[simp] theorem aso:jU .gtr k a b=some (.b (decide (a>b))):=rfl
@[simp] theorem asn:jU .geq k a b=some (.b (decide (a>=b))):=rfl
@[simp] theorem asj:jU .and k a b=some (.val (.int k (bits .and k a b))):=rfl
@[simp] theorem asl:jU .andNot k a b=some (.val (.int k (bits .andNot k a b))):=rfl
