/- Part 9 of DisputeMatchesReference. -/
import Derived.Test.YtmehofoficaelaaGreatDoorM07
set_option linter.all false
open Option renaming some→aE
open List renaming length→List.l
namespace Go.AL
open Go
abbrev ju:=Out->Prop
def PO(K:ju):qy->Prop:=λr=>∃o,r = .out o/\K o
def PV(K:D->gg->Prop):qy->Prop:=λr=>∃d H,r = .val d H/\K d H
section
variable{T:iL}
def Wo(T:iL)(l:List iz)(s:St)(K:St->Prop):Prop:=Ev T (.ops l s) (PO λo=>∃a,o = .norm a/\K a)
def Wc(T:iL)(c:IR)(s:St)(K:ju):Prop:=Ev T (.code c s) (PO K)
def Wf(T:iL)(f:FuncId)(args:List D)(H:gg)(K:D->gg->Prop):Prop:=Ev T (.call f args H) (PV K)
theorem Wc.mono{c:IR}{s:St}{K a:ju}(h:Wc T c s K)(hi:∀o,K o->a o):Wc T c s a:=Ev.mono h λ_ ⟨o,e,k⟩=>⟨o,e,hi o k⟩
theorem Wf.mono{f:FuncId}{args:List D}{H:gg}{K a:D->gg->Prop}(h:Wf T f args H K)(hi:∀d H,K d H->a d H):Wf T f args H a:=Ev.mono h λ_ ⟨d,H,e,k⟩=>⟨d,H,e,hi d H k⟩
theorem Wo.nil{s:St}{K:St->Prop}(h:K s):Wo T [] s K:=Ev.nil ⟨_,rfl,_,rfl,h⟩
theorem Wo.op{e:iz}{r:List iz}{s:St}{K:St->Prop}{d:D}{δ:Dl}(hg:guardOf s.env.get e.guard=aE true)(h:ie s.env.get s.H s.H.l e.op=aE (d,δ))
  (t:Wo T r { s with env:=put s.env e.dst d,H:=δ.app s.H (Al.last s.H) } K):Wo T (e::r) s K:=Ev.op hg h t
theorem Wo.DT{e:iz}{r:List iz}{s:St}{K:St->Prop}{d:D}{δ:Dl}(hg:guardOf s.env.get e.guard=aE true)(h:nv s.env.get s.H s.H.l e.op=aE (d,δ))
  (t:Wo T r { s with env:=put s.env e.dst d,H:=δ.app s.H (Al.last s.H) } K):Wo T (e::r) s K:=Ev.DT hg h t
theorem Wo.off{e:iz}{r:List iz}{s:St}{K:St->Prop}(hg:guardOf s.env.get e.guard=aE false)
  (t:Wo T r { s with env:=put s.env e.dst (.val undef) } K):Wo T (e::r) s K:=Ev.off hg t
theorem Wc.skip{s:St}{K:ju}(h:K (.norm s)):Wc T .skip s K:=Ev.skip ⟨_,rfl,h⟩
theorem Wc.ret{s:St}{K:ju}(h:K (.ret s)):Wc T .ret s K:=Ev.ret ⟨_,rfl,h⟩
theorem Wc.exit{id:Nat}{s:St}{K:ju}(h:K (.exit id s)):Wc T (.exit id) s K:=Ev.exit ⟨_,rfl,h⟩
theorem Wc.ops{l:List iz}{s:St}{K:ju}(h:Wo T l s λa=>K (.norm a)):Wc T (.ops l) s K:=Ev.HJ (Ev.mono h λ_ ⟨o,e,a,b,k⟩=>⟨o,e,by rw[b];exact k⟩)
def PW(T:iL)(b:IR)(K:ju):ju
 | .norm s=>Wc T b s K
 | o=>K o
theorem Wc.seq{a b:IR}{s:St}{K:ju}(h:Wc T a s (PW T b K)):Wc T (.seq a b) s K:=by
 refine Ev.seq h (λc ⟨o,e,k⟩=>?_) λo ⟨o',e,k⟩ hs=>?_
 .cases e;exact k
 .cases e
  cases o with
  | norm=>cases hs
  | exit=>exact⟨_,rfl,k⟩
  | ret=>exact⟨_,rfl,k⟩
theorem Wc.aeA{c:X}{a b:IR}{s:St}{K:ju}(d:ev s.env.get c = .b true)(h:Wc T a s K):Wc T (.cond c a b) s K:=Ev.cond (x:=true) d h
theorem Wc.aez{c:X}{a b:IR}{s:St}{K:ju}(d:ev s.env.get c = .b false)(h:Wc T b s K):Wc T (.cond c a b) s K:=Ev.cond (x:=false) d h
theorem Wc.cond{c:X}{a b:IR}{s:St}{K:ju}(x:Bool)(d:ev s.env.get c = .b x)(e:x=true->Wc T a s K)(f:x=false->Wc T b s K):Wc T (.cond c a b) s K:=by
 cases x
 .exact Wc.aez d (f rfl)
 .exact Wc.aeA d (e rfl)
theorem Wc.block{id:Nat}{live:List Nat}{a:IR}{s:St}{K:ju}(h:Wc T a s λo=>K (mz id s.H.l live o)):Wc T (.block id live a) s K:=
 Ev.block h λo ⟨o',e,k⟩=>by cases e;exact⟨_,rfl,k⟩
theorem Wc.loop{live:List Nat}{a:IR}{s:St}{K:ju}(I:Nat->St->Prop)(m:Nat)(h0:I m { s with env:=forget live s.env })
  (h:∀m b,I m b->Wc T a b λo=>match o with
   | .norm d=>∃c,c<m/\I c (cut s.H.l live d)
   | o=>K o):Wc T (.loop live a) s K:=by
 have key:∀m b,I m b->Ev T (.loop s.H.l live a b) (PO K):=by
  intro m
  induction m using Nat.strongRecOn with
  | ind m g=>
   intro b f;refine Ev.Bt (h m b f) (λd ⟨o,e,k⟩=>?_) λo ⟨o',e,k⟩ hs=>?_
   .grind
   .cases e
    cases o with
    | norm=>cases hs
    | exit=>exact⟨_,rfl,k⟩
    | ret=>exact⟨_,rfl,k⟩
 exact Ev.loop (key m _ h0)
theorem W8{n:Nat}{live:List Nat}{s:St}(h:s.H.l<=n):cut n live s = { s with env:=forget live s.env }:=by unfold cut;rw[if_pos (.inl h)]
theorem Wf.call{f:FuncId}{args:List D}{H:gg}{fn:jK}{K:D->gg->Prop}(own:Nat)(a:T.fn f=aE fn)(hl:args.l<=fn.ntmps)
  (h:Wc T fn.body { env:=vx args,H:=H } λo=>∃d H',finish fn own H.l o=aE (d,H')/\K d H'):Wf T f args H K:=
 Ev.call own a hl h λo ⟨o',e,d,H',h1,b⟩=>by cases e;exact⟨d,H',h1,d,H',rfl,b⟩
def Wt(T:iL)(l:List iz)(s:St)(K:List Rc->St->Prop):Prop:=Ev T (.trace l s) λr=>∃rs a,r = .tr rs a/\K rs a
theorem Wt.nil{s:St}{K:List Rc->St->Prop}(h:K [] s):Wt T [] s K:=Ev.J7 ⟨_,_,rfl,h⟩
theorem Wt.op{e:iz}{r:List iz}{s:St}{K:List Rc->St->Prop}{d:D}{δ:Dl}(hg:guardOf s.env.get e.guard=aE true)(h:ie s.env.get s.H s.H.l e.op=aE (d,δ))
  (t:Wt T r { s with env:=put s.env e.dst d,H:=δ.app s.H (Al.last s.H) } λrs a=>K (⟨ik s.env.get s.H e.op,kC s.H.l δ⟩::rs) a):Wt T (e::r) s K:=
 Ev.J9 hg h t λrs a ⟨_,_,e,k⟩=>by cases e;exact⟨_,_,rfl,k⟩
theorem Wt.off{e:iz}{r:List iz}{s:St}{K:List Rc->St->Prop}(hg:guardOf s.env.get e.guard=aE false)
  (t:Wt T r { s with env:=put s.env e.dst (.val undef) } λrs a=>K (⟨[],[]⟩::rs) a):Wt T (e::r) s K:=
 Ev.J8 hg t λrs a ⟨_,_,e,k⟩=>by cases e;exact⟨_,_,rfl,k⟩
theorem Wc.mO{b:List (Nat×Nat)}{l:List iz}{s:St}{K:ju}(h:Wt T l s λrs a=>xL b rs=true/\K (.norm a)):Wc T (.mO b l) s K:=
 Ev.mO h λrs a ⟨_,_,e,k⟩=>by cases e;exact⟨k.1,_,rfl,k.2⟩
theorem Wc.nT{b:List (Nat×Nat)}{l es:List iz}{s:St}{K:ju}(h:Wt T l s λrs a=>xL b rs=true/\Wo T es a λa=>K (.norm a)):Wc T (.nT b l es) s K:=
 Ev.nT h (λrs a ⟨_,_,q,k⟩=>by cases q;exact k.1) λrs a ⟨_,_,q,k⟩=>by cases q;exact Ev.mono k.2 λ_ ⟨o,e,a,c,kk⟩=>⟨o,e,by rw[c];exact kk⟩
theorem YC{live keys:List Nat}{env:Env}(h:(live.all λk=>keys.contains k)=true):forget live (forget keys env)=forget live env:=by
 have key:∀(l:List Nat) (k:Nat),k∈l->Env.get (l.map λj=>(j,env.get j)) k=env.get k:=by
  intro l
  induction l with
  | nil=>intro k a;cases a
  | cons j r b=>
   intro k a;simp only[List.map_cons,Env.yg];split
   .grind
   .grind
 unfold forget;refine aw λk a=>?_;have:=List.all_eq_true.1 h k a;rw[key keys k (by simpa using this)]
end
attribute [simp] vx forget Env.yg Al.last
@[irreducible] def f1(n:Int):List D:=[.i n]
@[irreducible] def fB(b:Bool):List D:=[.b b]
@[simp] theorem EN(n:Int):f1 n = [.i n]:=by unfold f1;rfl
@[simp] theorem HW(b:Bool):fB b = [.b b]:=by unfold fB;rfl
def dI(l:List Int):D:=.sl 1 (l.map f1)
def dL{α:Type}(sz:Nat)(f:α->List D)(l:List α):D:=.sl sz (l.map f)
def dN{α:Type}(sz:Nat)(f:α->List D):List α->D
 | []=>.gp
 | l=>.sl sz (l.map f)
structure Pos where
 cs:List Int
 h0:List Int
 h1:List Int
 gX:Int
 side:Int
 deriving DecidableEq,Inhabited
def Pos.cells(p:Pos):List D:=[dI p.cs,dI p.h0,dI p.h1,.i p.gX,.i p.side]
def dP(p:Pos):D:=.agg p.cells
def gT(l:List Pos):D:=.sl 5 (l.map Pos.cells)
abbrev gj:=Int×Int
@[irreducible] def fS(x:gj):List D:=[.i x.1,.i x.2]
@[simp] theorem Cv(x:gj):fS x = [.i x.1,.i x.2]:=by unfold fS;rfl
def iu(l:List gj):D:=.sl 2 (l.map fS)
@[irreducible] def fP(l:List gj):List D:=[iu l]
@[simp] theorem agF(l:List gj):fP l = [iu l]:=by unfold fP;rfl
@[irreducible] def fI(l:List Int):List D:=[dI l]
@[simp] theorem agE(l:List Int):fI l = [dI l]:=by unfold fI;rfl
structure Kind where
 name:ByteArray
 jN:List (List gj)
 keep:Bool
 deriving Inhabited
def Kind.cells(k:Kind):List D:=[.val (.string k.name),dN 1 fP k.jN,.b k.keep]
structure Clause where
 cond:Int
 kind:Int
 n:Int
 out:Int
 deriving DecidableEq,Inhabited
def Clause.cells(c:Clause):List D:=[.i c.cond,.i c.kind,.i c.n,.i c.out]
structure gv where
 size:Int
 next:List (List Int)
 jS:List Int
 kinds:List Kind
 gX:Int
 pI:Bool
 clauses:List Clause
 blocked:Int
 w7:Int
 deriving Inhabited
def gv.cells(g:gv):List D:=[.i g.size,.sl 1 (g.next.map fI),dI g.jS,.sl 3 (g.kinds.map Kind.cells),.i g.gX,.b g.pI,dN 4 Clause.cells g.clauses,.i g.blocked,.i g.w7]
def dG(g:gv):D:=.agg g.cells
def gv.ki(g:gv):D:=.agg [.i g.size,.sl 1 (g.next.map fI),dI g.jS]
theorem EG{α:Type}{f:α->List D}(h:∀a,gN (f a)=true):∀l:List α,EF (l.map f)=true
 | []=>rfl
 | a::l=>by simp[EF,h a,EG h l]
@[simp] theorem auT(n:Int):closed (.i n)=true:=by simp only[closed]
@[simp] theorem ael(b:Bool):closed (.b b)=true:=by simp only[closed]
@[simp] theorem auG(l:List Int):closed (dI l)=true:=by simp only[dI,closed];exact EG (λn=>by simp[gN]) l
@[simp] theorem auN(l:List gj):closed (iu l)=true:=by simp only[iu,closed];exact EG (λn=>by simp[gN]) l
def Cg{α:Type}{sz:Nat}{f:α->List D}(h:∀a,gN (f a)=true)(l:List α):closed (dN sz f l)=true:=by
 cases l with
 | nil=>rfl
 | cons a l=>exact EG h (a::l)
@[simp] theorem aek(p:Pos):gN p.cells=true:=by simp[Pos.cells,gN,closed]
@[simp] theorem auO(l:List Pos):closed (gT l)=true:=by simp only[gT,closed];exact EG (λp=>aek p) l
@[simp] theorem auA(k:Kind):gN k.cells=true:=by simp only[Kind.cells,gN,Cg (f:=fP) (sz:=1) (λa=>by simp[gN]),ael,Bool.and_true];rfl
@[simp] theorem auz(c:Clause):gN c.cells=true:=by simp only[Clause.cells,gN,closed,Bool.and_self]
@[simp] theorem auD(l:List Clause):closed (dN 4 Clause.cells l)=true:=Cg (λ_=>rfl) l
section
variable{α:Type}{sz:Nat}{f:α->List D}{H:gg}
@[simp] theorem aaO(sz:Nat)(es:List (List D))(H:gg):oa .slice (.sl sz es) H=aE (.i es.l):=rfl
@[simp] theorem axh(H:gg):oa .slice .gp H=aE (.i 0):=rfl
@[simp] theorem axj(v g sz off n:Nat)(H:gg):oa .slice (.gh v g sz off n) H=aE (.i n):=rfl
@[simp] theorem axk(s:ByteArray)(H:gg):oa .string (.val (.string s)) H=aE (.i s.size):=rfl
@[simp] theorem axa(l:List Int)(H:gg):oa .slice (dI l) H=aE (.i l.l):=by simp[dI]
@[simp] theorem axe(l:List Pos)(H:gg):oa .slice (gT l) H=aE (.i l.l):=by simp[gT]
@[simp] theorem axd(l:List gj)(H:gg):oa .slice (iu l) H=aE (.i l.l):=by simp[iu]
@[simp] theorem axb(l:List α)(H:gg):oa .slice (dN sz f l) H=aE (.i l.l):=by cases l<;>simp[dN]
end
section
variable(k:IntKind)(a b:Int)
@[simp] theorem as1:kA .eql k a b=aE (.b (a == b)):=rfl
@[simp] theorem as7:kA .neq k a b=aE (.b (a != b)):=rfl
@[simp] theorem as5:kA .lss k a b=aE (.b (decide (a<b))):=rfl
@[simp] theorem as4:kA .leq k a b=aE (.b (decide (a<=b))):=rfl
@[simp] theorem as3:kA .gtr k a b=aE (.b (decide (a>b))):=rfl
@[simp] theorem as2:kA .geq k a b=aE (.b (decide (a>=b))):=rfl
@[simp] theorem asZ:kA .and k a b=aE (.val (.int k (bits .and k a b))):=rfl
@[simp] theorem as0:kA .andNot k a b=aE (.val (.int k (bits .andNot k a b))):=rfl
