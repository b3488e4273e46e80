/- 9 -/
import Derived.Test.YtmehofoficaelaaGreatDoorV07
set_option linter.all false
open Option renaming some→aE
open List renaming length→List.l
namespace Go.AL
open Go
abbrev jb:=Out->Prop
def PO(K:jb):ph->Prop:=λr=>∃o,r = .out o/\K o
def PV(K:D->gd->Prop):ph->Prop:=λr=>∃d H,r = .val d H/\K d H
section
variable{T:iF}
def Wo(T:iF)(l:List il)(s:St)(K:St->Prop):Prop:=Ev T (.ops l s) (PO λo=>∃a,o = .norm a/\K a)
def Wc(T:iF)(c:IR)(s:St)(K:jb):Prop:=Ev T (.code c s) (PO K)
def Wf(T:iF)(f:FuncId)(args:List D)(H:gd)(K:D->gd->Prop):Prop:=Ev T (.call f args H) (PV K)
theorem Wc.mono{c:IR}{s:St}{K a:jb}(h:Wc T c s K)(hi:∀o,K o->a o):Wc T c s a:=Ev.mono h λ_ ⟨o,e,k⟩=>⟨o,e,hi o k⟩
theorem Wf.mono{f:FuncId}{args:List D}{H:gd}{K a:D->gd->Prop}(h:Wf T f args H K)(hi:∀d H,K d H->a d H):Wf T f args H a:=Ev.mono h λ_ ⟨d,H,e,k⟩=>⟨d,H,e,hi d H k⟩
theorem Wo.nil{s:St}{K:St->Prop}(h:K s):Wo T [] s K:=Ev.nil ⟨_,rfl,_,rfl,h⟩
theorem Wo.op{e:il}{r:List il}{s:St}{K:St->Prop}{d:D}{δ:Dl}(hg:guardOf s.env.get e.guard=aE true)(h:gW s.env.get s.H s.H.l e.op=aE (d,δ))
  (t:Wo T r { s with env:=put s.env e.dst d,H:=δ.app s.H (Al.last s.H) } K):Wo T (e::r) s K:=Ev.op hg h t
theorem Wo.CL{e:il}{r:List il}{s:St}{K:St->Prop}{d:D}{δ:Dl}(hg:guardOf s.env.get e.guard=aE true)(h:mH s.env.get s.H s.H.l e.op=aE (d,δ))
  (t:Wo T r { s with env:=put s.env e.dst d,H:=δ.app s.H (Al.last s.H) } K):Wo T (e::r) s K:=Ev.CL hg h t
theorem Wo.off{e:il}{r:List il}{s:St}{K:St->Prop}(hg:guardOf s.env.get e.guard=aE false)
  (t:Wo T r { s with env:=put s.env e.dst (.val undef) } K):Wo T (e::r) s K:=Ev.off hg t
theorem Wc.skip{s:St}{K:jb}(h:K (.norm s)):Wc T .skip s K:=Ev.skip ⟨_,rfl,h⟩
theorem Wc.ret{s:St}{K:jb}(h:K (.ret s)):Wc T .ret s K:=Ev.ret ⟨_,rfl,h⟩
theorem Wc.exit{id:Nat}{s:St}{K:jb}(h:K (.exit id s)):Wc T (.exit id) s K:=Ev.exit ⟨_,rfl,h⟩
theorem Wc.ops{l:List il}{s:St}{K:jb}(h:Wo T l s λa=>K (.norm a)):Wc T (.ops l) s K:=Ev.Gq (Ev.mono h λ_ ⟨o,e,a,b,k⟩=>⟨o,e,by rw[b];exact k⟩)
def IC(T:iF)(b:IR)(K:jb):jb
 | .norm s=>Wc T b s K
 | o=>K o
theorem Wc.seq{a b:IR}{s:St}{K:jb}(h:Wc T a s (IC T b K)):Wc T (.seq a b) s K:=by
 refine Ev.seq h (λc ⟨o,e,k⟩=>?_) λo ⟨o',e,k⟩ hs=>?_
 .cases e;exact k
 .cases e
  cases o with
  | norm=>cases hs
  | exit=>exact⟨_,rfl,k⟩
  | ret=>exact⟨_,rfl,k⟩
theorem Wc.ac2{c:X}{a b:IR}{s:St}{K:jb}(d:ev s.env.get c = .b true)(h:Wc T a s K):Wc T (.cond c a b) s K:=Ev.cond (x:=true) d h
theorem Wc.ac1{c:X}{a b:IR}{s:St}{K:jb}(d:ev s.env.get c = .b false)(h:Wc T b s K):Wc T (.cond c a b) s K:=Ev.cond (x:=false) d h
theorem Wc.cond{c:X}{a b:IR}{s:St}{K:jb}(x:Bool)(d:ev s.env.get c = .b x)(e:x=true->Wc T a s K)(f:x=false->Wc T b s K):Wc T (.cond c a b) s K:=by
 cases x
 .exact Wc.ac1 d (f rfl)
 .exact Wc.ac2 d (e rfl)
theorem Wc.block{id:Nat}{live:List Nat}{a:IR}{s:St}{K:jb}(h:Wc T a s λo=>K (l4 id s.H.l live o)):Wc T (.block id live a) s K:=
 Ev.block h λo ⟨o',e,k⟩=>by cases e;exact⟨_,rfl,k⟩
theorem Wc.loop{live:List Nat}{a:IR}{s:St}{K:jb}(I:Nat->St->Prop)(m:Nat)(h0:I m { s with env:=forget live s.env })
  (h:∀m b,I m b->Wc T a b λo=>match o with
   | .norm d=>∃c,c<m/\I c (cut s.H.l live d)
   | o=>K o):Wc T (.loop live a) s K:=by
 have key:∀m b,I m b->Ev T (.loop s.H.l live a b) (PO K):=by
  intro m
  induction m using Nat.strongRecOn with
  | ind m g=>
   intro b f;refine Ev.Aq (h m b f) (λd ⟨o,e,k⟩=>?_) λo ⟨o',e,k⟩ hs=>?_
   .grind
   .cases e
    cases o with
    | norm=>cases hs
    | exit=>exact⟨_,rfl,k⟩
    | ret=>exact⟨_,rfl,k⟩
 exact Ev.loop (key m _ h0)
theorem VC{n:Nat}{live:List Nat}{s:St}(h:s.H.l<=n):cut n live s = { s with env:=forget live s.env }:=by unfold cut;rw[if_pos (.inl h)]
theorem Wf.call{f:FuncId}{args:List D}{H:gd}{fn:jq}{K:D->gd->Prop}(own:Nat)(a:T.fn f=aE fn)(hl:args.l<=fn.ntmps)
  (h:Wc T fn.body { env:=ti args,H:=H } λo=>∃d H',finish fn own H.l o=aE (d,H')/\K d H'):Wf T f args H K:=
 Ev.call own a hl h λo ⟨o',e,d,H',h1,b⟩=>by cases e;exact⟨d,H',h1,d,H',rfl,b⟩
theorem ZV{b:IR}{s:St}{K:jb}(h:Wc T b s K):IC T b K (.norm s):=h
def Wt(T:iF)(l:List il)(s:St)(K:List Rc->St->Prop):Prop:=Ev T (.trace l s) λr=>∃rs a,r = .tr rs a/\K rs a
theorem Wt.nil{s:St}{K:List Rc->St->Prop}(h:K [] s):Wt T [] s K:=Ev.Jg ⟨_,_,rfl,h⟩
theorem Wt.op{e:il}{r:List il}{s:St}{K:List Rc->St->Prop}{d:D}{δ:Dl}(hg:guardOf s.env.get e.guard=aE true)(h:gW s.env.get s.H s.H.l e.op=aE (d,δ))
  (t:Wt T r { s with env:=put s.env e.dst d,H:=δ.app s.H (Al.last s.H) } λrs a=>K (⟨gT s.env.get s.H e.op,kd s.H.l δ⟩::rs) a):Wt T (e::r) s K:=
 Ev.Ji hg h t λrs a ⟨_,_,e,k⟩=>by cases e;exact⟨_,_,rfl,k⟩
theorem Wt.off{e:il}{r:List il}{s:St}{K:List Rc->St->Prop}(hg:guardOf s.env.get e.guard=aE false)
  (t:Wt T r { s with env:=put s.env e.dst (.val undef) } λrs a=>K (⟨[],[]⟩::rs) a):Wt T (e::r) s K:=
 Ev.Jh hg t λrs a ⟨_,_,e,k⟩=>by cases e;exact⟨_,_,rfl,k⟩
theorem Wc.mg{b:List (Nat×Nat)}{l:List il}{s:St}{K:jb}(h:Wt T l s λrs a=>wu b rs=true/\K (.norm a)):Wc T (.mg b l) s K:=
 Ev.mg h λrs a ⟨_,_,e,k⟩=>by cases e;exact⟨k.1,_,rfl,k.2⟩
theorem Wc.mS{b:List (Nat×Nat)}{l es:List il}{s:St}{K:jb}(h:Wt T l s λrs a=>wu b rs=true/\Wo T es a λa=>K (.norm a)):Wc T (.mS b l es) s K:=
 Ev.mS h (λrs a ⟨_,_,q,k⟩=>by cases q;exact k.1) λrs a ⟨_,_,q,k⟩=>by cases q;exact Ev.mono k.2 λ_ ⟨o,e,a,c,kk⟩=>⟨o,e,by rw[c];exact kk⟩
theorem WR{live keys:List Nat}{env:Env}(h:(live.all λk=>keys.contains k)=true):forget live (forget keys env)=forget live env:=by
 have key:∀(l:List Nat) (k:Nat),k∈l->Env.get (l.map λj=>(j,env.get j)) k=env.get k:=by
  intro l
  induction l with
  | nil=>intro k a;cases a
  | cons j r b=>
   intro k a;simp only[List.map_cons,Env.w7];split
   .grind
   .grind
 unfold forget;refine au λk a=>?_;have:=List.all_eq_true.1 h k a;rw[key keys k (by simpa using this)]
end
attribute [simp] ti forget Env.w7 Al.last
@[irreducible] def f1(n:Int):List D:=[.i n]
@[irreducible] def fB(b:Bool):List D:=[.b b]
@[simp] theorem DH(n:Int):f1 n = [.i n]:=by unfold f1;rfl
@[simp] theorem GC(b:Bool):fB b = [.b b]:=by unfold fB;rfl
def dI(l:List Int):D:=.sl 1 (l.map f1)
def dL{α:Type}(sz:Nat)(f:α->List D)(l:List α):D:=.sl sz (l.map f)
def dN{α:Type}(sz:Nat)(f:α->List D):List α->D
 | []=>.gi
 | l=>.sl sz (l.map f)
structure Pos where
 cs:List Int
 h0:List Int
 h1:List Int
 gO:Int
 side:Int
 deriving DecidableEq,Inhabited
def Pos.cells(p:Pos):List D:=[dI p.cs,dI p.h0,dI p.h1,.i p.gO,.i p.side]
def dP(p:Pos):D:=.agg p.cells
def gP(l:List Pos):D:=.sl 5 (l.map Pos.cells)
abbrev gg:=Int×Int
@[irreducible] def fS(x:gg):List D:=[.i x.1,.i x.2]
@[simp] theorem DJ(x:gg):fS x = [.i x.1,.i x.2]:=by unfold fS;rfl
def iw(l:List gg):D:=.sl 2 (l.map fS)
@[irreducible] def fP(l:List gg):List D:=[iw l]
@[simp] theorem ae7(l:List gg):fP l = [iw l]:=by unfold fP;rfl
@[irreducible] def fI(l:List Int):List D:=[dI l]
@[simp] theorem ae6(l:List Int):fI l = [dI l]:=by unfold fI;rfl
structure Kind where
 name:ByteArray
 jA:List (List gg)
 keep:Bool
 deriving Inhabited
def Kind.cells(k:Kind):List D:=[.val (.string k.name),dN 1 fP k.jA,.b k.keep]
structure Clause where
 cond:Int
 kind:Int
 n:Int
 out:Int
 deriving DecidableEq,Inhabited
def Clause.cells(c:Clause):List D:=[.i c.cond,.i c.kind,.i c.n,.i c.out]
structure gq where
 size:Int
 next:List (List Int)
 jD:List Int
 kinds:List Kind
 gO:Int
 oQ:Bool
 clauses:List Clause
 blocked:Int
 vo:Int
 deriving Inhabited
def gq.cells(g:gq):List D:=[.i g.size,.sl 1 (g.next.map fI),dI g.jD,.sl 3 (g.kinds.map Kind.cells),.i g.gO,.b g.oQ,dN 4 Clause.cells g.clauses,.i g.blocked,.i g.vo]
def dG(g:gq):D:=.agg g.cells
def gq.jU(g:gq):D:=.agg [.i g.size,.sl 1 (g.next.map fI),dI g.jD]
theorem Dz{α:Type}{f:α->List D}(h:∀a,gK (f a)=true):∀l:List α,Dy (l.map f)=true
 | []=>rfl
 | a::l=>by simp[Dy,h a,Dz h l]
@[simp] theorem as8(n:Int):closed (.i n)=true:=by simp only[closed]
@[simp] theorem acN(b:Bool):closed (.b b)=true:=by simp only[closed]
@[simp] theorem asV(l:List Int):closed (dI l)=true:=by simp only[dI,closed];exact Dz (λn=>by simp[gK]) l
@[simp] theorem as2(l:List gg):closed (iw l)=true:=by simp only[iw,closed];exact Dz (λn=>by simp[gK]) l
def Bb{α:Type}{sz:Nat}{f:α->List D}(h:∀a,gK (f a)=true)(l:List α):closed (dN sz f l)=true:=by
 cases l with
 | nil=>rfl
 | cons a l=>exact Dz h (a::l)
@[simp] theorem acM(p:Pos):gK p.cells=true:=by simp[Pos.cells,gK,closed]
@[simp] theorem as3(l:List Pos):closed (gP l)=true:=by simp only[gP,closed];exact Dz (λp=>acM p) l
@[simp] theorem asO(k:Kind):gK k.cells=true:=by simp only[Kind.cells,gK,Bb (f:=fP) (sz:=1) (λa=>by simp[gK]),acN,Bool.and_true];rfl
@[simp] theorem asN(c:Clause):gK c.cells=true:=by simp only[Clause.cells,gK,closed,Bool.and_self]
@[simp] theorem asS(l:List Clause):closed (dN 4 Clause.cells l)=true:=Bb (λ_=>rfl) l
section
variable{α:Type}{sz:Nat}{f:α->List D}{H:gd}
@[simp] theorem Zn(sz:Nat)(es:List (List D))(H:gd):mY .slice (.sl sz es) H=aE (.i es.l):=rfl
@[simp] theorem avD(H:gd):mY .slice .gi H=aE (.i 0):=rfl
@[simp] theorem avF(v g sz off n:Nat)(H:gd):mY .slice (.gf v g sz off n) H=aE (.i n):=rfl
@[simp] theorem avG(s:ByteArray)(H:gd):mY .string (.val (.string s)) H=aE (.i s.size):=rfl
@[simp] theorem avw(l:List Int)(H:gd):mY .slice (dI l) H=aE (.i l.l):=by simp[dI]
@[simp] theorem avA(l:List Pos)(H:gd):mY .slice (gP l) H=aE (.i l.l):=by simp[gP]
@[simp] theorem avz(l:List gg)(H:gd):mY .slice (iw l) H=aE (.i l.l):=by simp[iw]
@[simp] theorem avx(l:List α)(H:gd):mY .slice (dN sz f l) H=aE (.i l.l):=by cases l<;>simp[dN]
end
section
variable(k:IntKind)(a b:Int)
@[simp] theorem ari:kc .eql k a b=aE (.b (a == b)):=rfl
@[simp] theorem arp:kc .neq k a b=aE (.b (a != b)):=rfl
@[simp] theorem arn:kc .lss k a b=aE (.b (decide (a<b))):=rfl
@[simp] theorem arl:kc .leq k a b=aE (.b (decide (a<=b))):=rfl
@[simp] theorem ark:kc .gtr k a b=aE (.b (decide (a>b))):=rfl
@[simp] theorem arj:kc .geq k a b=aE (.b (decide (a>=b))):=rfl
@[simp] theorem arf:kc .and k a b=aE (.val (.int k (bits .and k a b))):=rfl
@[simp] theorem arh:kc .andNot k a b=aE (.val (.int k (bits .andNot k a b))):=rfl
