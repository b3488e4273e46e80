/- Part 9 of DisputeHonest. -/
import Derived.Test.YtmehofoficaelaaGreatDoorH07
set_option linter.all false
namespace Go.AL
open Go
abbrev iq:=Out->Prop
def PO(K:iq):oD->Prop:=λr=>∃o,r = .out o/\K o
def PV(K:D->U->Prop):oD->Prop:=λr=>∃d H,r = .val d H/\K d H
section
variable{T:gO}
def Wo(T:gO)(l:List gy)(s:St)(K:St->Prop):Prop:=Ev T (.ops l s) (PO λo=>∃a,o = .norm a/\K a)
def Wc(T:gO)(c:IR)(s:St)(K:iq):Prop:=Ev T (.code c s) (PO K)
def Wf(T:gO)(f:FuncId)(args:List D)(H:U)(K:D->U->Prop):Prop:=Ev T (.call f args H) (PV K)
theorem Wc.mono{c:IR}{s:St}{K a:iq}(h:Wc T c s K)(hi:∀o,K o->a o):Wc T c s a:=Ev.mono h λ_ ⟨o,e,k⟩=>⟨o,e,hi o k⟩
theorem Wf.mono{f:FuncId}{args:List D}{H:U}{K a:D->U->Prop}(h:Wf T f args H K)(hi:∀d H,K d H->a d H):Wf T f args H a:=Ev.mono h λ_ ⟨d,H,e,k⟩=>⟨d,H,e,hi d H k⟩
theorem Wo.nil{s:St}{K:St->Prop}(h:K s):Wo T [] s K:=Ev.nil ⟨_,rfl,_,rfl,h⟩
theorem Wo.op{e:gy}{r:List gy}{s:St}{K:St->Prop}{d:D}{δ:Dl}(hg:guardOf s.env.get e.guard=some true)(h:gf s.env.get s.H s.H.length e.op=some (d,δ))
  (t:Wo T r { s with env:=put s.env e.dst d,H:=δ.app s.H (Al.last s.H) } K):Wo T (e::r) s K:=Ev.op hg h t
theorem Wo.AW{e:gy}{r:List gy}{s:St}{K:St->Prop}{d:D}{δ:Dl}(hg:guardOf s.env.get e.guard=some true)(h:lL s.env.get s.H s.H.length e.op=some (d,δ))
  (t:Wo T r { s with env:=put s.env e.dst d,H:=δ.app s.H (Al.last s.H) } K):Wo T (e::r) s K:=Ev.AW hg h t
theorem Wo.off{e:gy}{r:List gy}{s:St}{K:St->Prop}(hg:guardOf s.env.get e.guard=some false)
  (t:Wo T r { s with env:=put s.env e.dst (.val undef) } K):Wo T (e::r) s K:=Ev.off hg t
theorem Wc.skip{s:St}{K:iq}(h:K (.norm s)):Wc T .skip s K:=Ev.skip ⟨_,rfl,h⟩
theorem Wc.ret{s:St}{K:iq}(h:K (.ret s)):Wc T .ret s K:=Ev.ret ⟨_,rfl,h⟩
theorem Wc.exit{id:Nat}{s:St}{K:iq}(h:K (.exit id s)):Wc T (.exit id) s K:=Ev.exit ⟨_,rfl,h⟩
theorem Wc.ops{l:List gy}{s:St}{K:iq}(h:Wo T l s λa=>K (.norm a)):Wc T (.ops l) s K:=Ev.DW (Ev.mono h λ_ ⟨o,e,a,b,k⟩=>⟨o,e,by rw[b];exact k⟩)
def LS(T:gO)(b:IR)(K:iq):iq
 | .norm s=>Wc T b s K
 | o=>K o
theorem Wc.seq{a b:IR}{s:St}{K:iq}(h:Wc T a s (LS T b K)):Wc T (.seq a b) s K:=by
 refine Ev.seq h (λc ⟨o,e,k⟩=>?_) λo ⟨o',e,k⟩ hs=>?_
 .cases e;exact k
 .cases e
  cases o with
  | norm=>cases hs
  | exit=>exact⟨_,rfl,k⟩
  | ret=>exact⟨_,rfl,k⟩
theorem Wc.ZY{c:X}{a b:IR}{s:St}{K:iq}(d:ev s.env.get c = .b true)(h:Wc T a s K):Wc T (.cond c a b) s K:=Ev.cond (x:=true) d h
theorem Wc.ZX{c:X}{a b:IR}{s:St}{K:iq}(d:ev s.env.get c = .b false)(h:Wc T b s K):Wc T (.cond c a b) s K:=Ev.cond (x:=false) d h
theorem Wc.cond{c:X}{a b:IR}{s:St}{K:iq}(x:Bool)(d:ev s.env.get c = .b x)(e:x=true->Wc T a s K)(f:x=false->Wc T b s K):Wc T (.cond c a b) s K:=by
 cases x
 .exact Wc.ZX d (f rfl)
 .exact Wc.ZY d (e rfl)
theorem Wc.block{id:Nat}{live:List Nat}{a:IR}{s:St}{K:iq}(h:Wc T a s λo=>K (kN id s.H.length live o)):Wc T (.block id live a) s K:=
 Ev.block h λo ⟨o',e,k⟩=>by cases e;exact⟨_,rfl,k⟩
theorem Wc.loop{live:List Nat}{a:IR}{s:St}{K:iq}(I:Nat->St->Prop)(m:Nat)(h0:I m { s with env:=forget live s.env })
  (h:∀m b,I m b->Wc T a b λo=>match o with
   | .norm d=>∃c,c<m/\I c (cut s.H.length live d)
   | o=>K o):Wc T (.loop live a) s K:=by
 have key:∀m b,I m b->Ev T (.loop s.H.length live a b) (PO K):=by
  intro m
  induction m using Nat.strongRecOn with
  | ind m g=>
   intro b f;refine Ev.yB (h m b f) (λd ⟨o,e,k⟩=>?_) λo ⟨o',e,k⟩ hs=>?_
   .grind
   .cases e
    cases o with
    | norm=>cases hs
    | exit=>exact⟨_,rfl,k⟩
    | ret=>exact⟨_,rfl,k⟩
 exact Ev.loop (key m _ h0)
theorem S1{n:Nat}{live:List Nat}{s:St}(h:s.H.length<=n):cut n live s = { s with env:=forget live s.env }:=by unfold cut;rw[if_pos (.inl h)]
theorem Wf.call{f:FuncId}{args:List D}{H:U}{fn:iE}{K:D->U->Prop}(own:Nat)(a:T.fn f=some fn)(hl:args.length<=fn.ntmps)
  (h:Wc T fn.body { env:=sJ args,H:=H } λo=>∃d H',finish fn own H.length o=some (d,H')/\K d H'):Wf T f args H K:=
 Ev.call own a hl h λo ⟨o',e,d,H',h1,b⟩=>by cases e;exact⟨d,H',h1,d,H',rfl,b⟩
def Wt(T:gO)(l:List gy)(s:St)(K:List Rc->St->Prop):Prop:=Ev T (.trace l s) λr=>∃rs a,r = .tr rs a/\K rs a
theorem Wt.nil{s:St}{K:List Rc->St->Prop}(h:K [] s):Wt T [] s K:=Ev.Gs ⟨_,_,rfl,h⟩
theorem Wt.op{e:gy}{r:List gy}{s:St}{K:List Rc->St->Prop}{d:D}{δ:Dl}(hg:guardOf s.env.get e.guard=some true)(h:gf s.env.get s.H s.H.length e.op=some (d,δ))
  (t:Wt T r { s with env:=put s.env e.dst d,H:=δ.app s.H (Al.last s.H) } λrs a=>K (⟨gi s.env.get s.H e.op,jm s.H.length δ⟩::rs) a):Wt T (e::r) s K:=
 Ev.Gu hg h t λrs a ⟨_,_,e,k⟩=>by cases e;exact⟨_,_,rfl,k⟩
theorem Wt.off{e:gy}{r:List gy}{s:St}{K:List Rc->St->Prop}(hg:guardOf s.env.get e.guard=some false)
  (t:Wt T r { s with env:=put s.env e.dst (.val undef) } λrs a=>K (⟨[],[]⟩::rs) a):Wt T (e::r) s K:=
 Ev.Gt hg t λrs a ⟨_,_,e,k⟩=>by cases e;exact⟨_,_,rfl,k⟩
theorem Wc.lh{b:List (Nat×Nat)}{l:List gy}{s:St}{K:iq}(h:Wt T l s λrs a=>uC b rs=true/\K (.norm a)):Wc T (.lh b l) s K:=
 Ev.lh h λrs a ⟨_,_,e,k⟩=>by cases e;exact⟨k.1,_,rfl,k.2⟩
theorem Wc.l5{b:List (Nat×Nat)}{l es:List gy}{s:St}{K:iq}(h:Wt T l s λrs a=>uC b rs=true/\Wo T es a λa=>K (.norm a)):Wc T (.l5 b l es) s K:=
 Ev.l5 h (λrs a ⟨_,_,q,k⟩=>by cases q;exact k.1) λrs a ⟨_,_,q,k⟩=>by cases q;exact Ev.mono k.2 λ_ ⟨o,e,a,c,kk⟩=>⟨o,e,by rw[c];exact kk⟩
theorem abZ{live keys:List Nat}{env:Env}(h:(live.all λk=>keys.contains k)=true):forget live (forget keys env)=forget live env:=by
 have key:∀(l:List Nat) (k:Nat),k∈l->Env.get (l.map λj=>(j,env.get j)) k=env.get k:=by
  intro l
  induction l with
  | nil=>intro k a;cases a
  | cons j r b=>
   intro k a;simp only[List.map_cons,Env.u9];split
   .grind
   .grind
 unfold forget;refine ao λk a=>?_;have:=List.all_eq_true.1 h k a;rw[key keys k (by simpa using this)]
end
end Go.AL
namespace Go.AL
open Go
attribute [simp] sJ forget Env.u9 Al.last
@[irreducible] def f1(n:Int):List D:=[.i n]
@[irreducible] def fB(b:Bool):List D:=[.b b]
@[simp] theorem BF(n:Int):f1 n = [.i n]:=by unfold f1;rfl
@[simp] theorem D6(b:Bool):fB b = [.b b]:=by unfold fB;rfl
def dI(l:List Int):D:=.sl 1 (l.map f1)
def dN{α:Type}(sz:Nat)(f:α->List D):List α->D
 | []=>.fw
 | l=>.sl sz (l.map f)
structure Pos where
 cs:List Int
 h0:List Int
 h1:List Int
 fY:Int
 side:Int
 deriving DecidableEq,Inhabited
def Pos.cells(p:Pos):List D:=[dI p.cs,dI p.h0,dI p.h1,.i p.fY,.i p.side]
def dP(p:Pos):D:=.agg p.cells
def gC(l:List Pos):D:=.sl 5 (l.map Pos.cells)
abbrev fq:=Int×Int
@[irreducible] def fS(x:fq):List D:=[.i x.1,.i x.2]
@[simp] theorem BH(x:fq):fS x = [.i x.1,.i x.2]:=by unfold fS;rfl
def gQ(l:List fq):D:=.sl 2 (l.map fS)
@[irreducible] def fP(l:List fq):List D:=[gQ l]
@[simp] theorem abN(l:List fq):fP l = [gQ l]:=by unfold fP;rfl
@[irreducible] def fI(l:List Int):List D:=[dI l]
@[simp] theorem abM(l:List Int):fI l = [dI l]:=by unfold fI;rfl
structure Kind where
 name:ByteArray
 iG:List (List fq)
 keep:Bool
 deriving Inhabited
def Kind.cells(k:Kind):List D:=[.val (.string k.name),dN 1 fP k.iG,.b k.keep]
structure Clause where
 cond:Int
 kind:Int
 n:Int
 out:Int
 deriving DecidableEq,Inhabited
def Clause.cells(c:Clause):List D:=[.i c.cond,.i c.kind,.i c.n,.i c.out]
structure fu where
 size:Int
 next:List (List Int)
 iO:List Int
 kinds:List Kind
 fY:Int
 nL:Bool
 clauses:List Clause
 blocked:Int
 u4:Int
 deriving Inhabited
def fu.cells(g:fu):List D:=[.i g.size,.sl 1 (g.next.map fI),dI g.iO,.sl 3 (g.kinds.map Kind.cells),.i g.fY,.b g.nL,dN 4 Clause.cells g.clauses,.i g.blocked,.i g.u4]
def dG(g:fu):D:=.agg g.cells
def fu.jb(g:fu):D:=.agg [.i g.size,.sl 1 (g.next.map fI),dI g.iO]
theorem Bz{α:Type}{f:α->List D}(h:∀a,fR (f a)=true):∀l:List α,By (l.map f)=true
 | []=>rfl
 | a::l=>by simp[By,h a,Bz h l]
@[simp] theorem apq(n:Int):closed (.i n)=true:=by simp only[closed]
@[simp] theorem ZI(b:Bool):closed (.b b)=true:=by simp only[closed]
@[simp] theorem apc(l:List Int):closed (dI l)=true:=by simp only[dI,closed];exact Bz (λn=>by simp[fR]) l
@[simp] theorem apj(l:List fq):closed (gQ l)=true:=by simp only[gQ,closed];exact Bz (λn=>by simp[fR]) l
theorem zd{α:Type}{sz:Nat}{f:α->List D}(h:∀a,fR (f a)=true)(l:List α):closed (dN sz f l)=true:=by
 cases l with
 | nil=>rfl
 | cons a l=>exact Bz h (a::l)
@[simp] theorem ZH(p:Pos):fR p.cells=true:=by simp[Pos.cells,fR,closed]
@[simp] theorem apk(l:List Pos):closed (gC l)=true:=by simp only[gC,closed];exact Bz (λp=>ZH p) l
@[simp] theorem ao6(k:Kind):fR k.cells=true:=by simp only[Kind.cells,fR,zd (f:=fP) (sz:=1) (λa=>by simp[fR]),ZI,Bool.and_true];rfl
@[simp] theorem ao5(c:Clause):fR c.cells=true:=by simp only[Clause.cells,fR,closed,Bool.and_self]
@[simp] theorem ao9(l:List Clause):closed (dN 4 Clause.cells l)=true:=zd (λ_=>rfl) l
section
variable{α:Type}{sz:Nat}{f:α->List D}{H:U}
@[simp] theorem V3(sz:Nat)(es:List (List D))(H:U):mB .slice (.sl sz es) H=some (.i es.length):=rfl
@[simp] theorem arT(H:U):mB .slice .fw H=some (.i 0):=rfl
@[simp] theorem arV(v g sz off n:Nat)(H:U):mB .slice (.fm v g sz off n) H=some (.i n):=rfl
@[simp] theorem arW(s:ByteArray)(H:U):mB .string (.val (.string s)) H=some (.i s.size):=rfl
@[simp] theorem arM(l:List Int)(H:U):mB .slice (dI l) H=some (.i l.length):=by simp[dI]
@[simp] theorem arQ(l:List Pos)(H:U):mB .slice (gC l) H=some (.i l.length):=by simp[gC]
@[simp] theorem arP(l:List fq)(H:U):mB .slice (gQ l) H=some (.i l.length):=by simp[gQ]
@[simp] theorem arN(l:List α)(H:U):mB .slice (dN sz f l) H=some (.i l.length):=by cases l<;>simp[dN]
end
section
variable(k:IntKind)(a b:Int)
@[simp] theorem anE:jl .eql k a b=some (.b (a == b)):=rfl
@[simp] theorem anK:jl .neq k a b=some (.b (a != b)):=rfl
@[simp] theorem anI:jl .lss k a b=some (.b (decide (a<b))):=rfl
@[simp] theorem anH:jl .leq k a b=some (.b (decide (a<=b))):=rfl
@[simp] theorem anG:jl .gtr k a b=some (.b (decide (a>b))):=rfl
@[simp] theorem anF:jl .geq k a b=some (.b (decide (a>=b))):=rfl
@[simp] theorem anC:jl .and k a b=some (.val (.int k (bits .and k a b))):=rfl
@[simp] theorem anD:jl .andNot k a b=some (.val (.int k (bits .andNot k a b))):=rfl
