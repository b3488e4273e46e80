/- Part 9 of DisputeWorkers. -/
import Derived.Test.YtmehofoficaelaaGreatDoorW07
set_option linter.all false
namespace Go.AL
open Go
abbrev iY:=Out->Prop
def PO(K:iY):pJ->Prop:=λr=>∃o,r = .out o/\K o
def PV(K:D->U->Prop):pJ->Prop:=λr=>∃d H,r = .val d H/\K d H
section
variable{T:iB}
def Wo(T:iB)(l:List ic)(s:St)(K:St->Prop):Prop:=Ev T (.ops l s) (PO λo=>∃a,o = .norm a/\K a)
def Wc(T:iB)(c:IR)(s:St)(K:iY):Prop:=Ev T (.code c s) (PO K)
def Wf(T:iB)(f:FuncId)(args:List D)(H:U)(K:D->U->Prop):Prop:=Ev T (.call f args H) (PV K)
theorem Wc.mono{c:IR}{s:St}{K a:iY}(h:Wc T c s K)(hi:∀o,K o->a o):Wc T c s a:=Ev.mono h λ_ ⟨o,e,k⟩=>⟨o,e,hi o k⟩
theorem Wf.mono{f:FuncId}{args:List D}{H:U}{K a:D->U->Prop}(h:Wf T f args H K)(hi:∀d H,K d H->a d H):Wf T f args H a:=Ev.mono h λ_ ⟨d,H,e,k⟩=>⟨d,H,e,hi d H k⟩
theorem Wo.nil{s:St}{K:St->Prop}(h:K s):Wo T [] s K:=Ev.nil ⟨_,rfl,_,rfl,h⟩
theorem Wo.op{e:ic}{r:List ic}{s:St}{K:St->Prop}{d:D}{δ:Dl}(hg:guardOf s.env.get e.guard=some true)(h:gN s.env.get s.H s.H.length e.op=some (d,δ))
  (t:Wo T r { s with env:=put s.env e.dst d,H:=δ.app s.H (Al.last s.H) } K):Wo T (e::r) s K:=Ev.op hg h t
theorem Wo.CJ{e:ic}{r:List ic}{s:St}{K:St->Prop}{d:D}{δ:Dl}(hg:guardOf s.env.get e.guard=some true)(h:mz s.env.get s.H s.H.length e.op=some (d,δ))
  (t:Wo T r { s with env:=put s.env e.dst d,H:=δ.app s.H (Al.last s.H) } K):Wo T (e::r) s K:=Ev.CJ hg h t
theorem Wo.off{e:ic}{r:List ic}{s:St}{K:St->Prop}(hg:guardOf s.env.get e.guard=some false)
  (t:Wo T r { s with env:=put s.env e.dst (.val undef) } K):Wo T (e::r) s K:=Ev.off hg t
theorem Wc.skip{s:St}{K:iY}(h:K (.norm s)):Wc T .skip s K:=Ev.skip ⟨_,rfl,h⟩
theorem Wc.ret{s:St}{K:iY}(h:K (.ret s)):Wc T .ret s K:=Ev.ret ⟨_,rfl,h⟩
theorem Wc.exit{id:Nat}{s:St}{K:iY}(h:K (.exit id s)):Wc T (.exit id) s K:=Ev.exit ⟨_,rfl,h⟩
theorem Wc.ops{l:List ic}{s:St}{K:iY}(h:Wo T l s λa=>K (.norm a)):Wc T (.ops l) s K:=Ev.Gf (Ev.mono h λ_ ⟨o,e,a,b,k⟩=>⟨o,e,by rw[b];exact k⟩)
def OA(T:iB)(b:IR)(K:iY):iY
 | .norm s=>Wc T b s K
 | o=>K o
theorem Wc.seq{a b:IR}{s:St}{K:iY}(h:Wc T a s (OA T b K)):Wc T (.seq a b) s K:=by
 refine Ev.seq h (λc ⟨o,e,k⟩=>?_) λo ⟨o',e,k⟩ hs=>?_
 .cases e;exact k
 .cases e
  cases o with
  | norm=>cases hs
  | exit=>exact⟨_,rfl,k⟩
  | ret=>exact⟨_,rfl,k⟩
theorem Wc.acV{c:X}{a b:IR}{s:St}{K:iY}(d:ev s.env.get c = .b true)(h:Wc T a s K):Wc T (.cond c a b) s K:=Ev.cond (x:=true) d h
theorem Wc.acU{c:X}{a b:IR}{s:St}{K:iY}(d:ev s.env.get c = .b false)(h:Wc T b s K):Wc T (.cond c a b) s K:=Ev.cond (x:=false) d h
theorem Wc.cond{c:X}{a b:IR}{s:St}{K:iY}(x:Bool)(d:ev s.env.get c = .b x)(e:x=true->Wc T a s K)(f:x=false->Wc T b s K):Wc T (.cond c a b) s K:=by
 cases x
 .exact Wc.acU d (f rfl)
 .exact Wc.acV d (e rfl)
theorem Wc.block{id:Nat}{live:List Nat}{a:IR}{s:St}{K:iY}(h:Wc T a s λo=>K (lP id s.H.length live o)):Wc T (.block id live a) s K:=
 Ev.block h λo ⟨o',e,k⟩=>by cases e;exact⟨_,rfl,k⟩
theorem Wc.loop{live:List Nat}{a:IR}{s:St}{K:iY}(I:Nat->St->Prop)(m:Nat)(h0:I m { s with env:=forget live s.env })
  (h:∀m b,I m b->Wc T a b λo=>match o with
   | .norm d=>∃c,c<m/\I c (cut s.H.length live d)
   | o=>K o):Wc T (.loop live a) s K:=by
 have key:∀m b,I m b->Ev T (.loop s.H.length live a b) (PO K):=by
  intro m
  induction m using Nat.strongRecOn with
  | ind m g=>
   intro b f;refine Ev.Aq (h m b f) (λd ⟨o,e,k⟩=>?_) λo ⟨o',e,k⟩ hs=>?_
   .grind
   .cases e
    cases o with
    | norm=>cases hs
    | exit=>exact⟨_,rfl,k⟩
    | ret=>exact⟨_,rfl,k⟩
 exact Ev.loop (key m _ h0)
theorem VE{n:Nat}{live:List Nat}{s:St}(h:s.H.length<=n):cut n live s = { s with env:=forget live s.env }:=by unfold cut;rw[if_pos (.inl h)]
theorem Wf.call{f:FuncId}{args:List D}{H:U}{fn:jw}{K:D->U->Prop}(own:Nat)(a:T.fn f=some fn)(hl:args.length<=fn.ntmps)
  (h:Wc T fn.body { env:=uf args,H:=H } λo=>∃d H',finish fn own H.length o=some (d,H')/\K d H'):Wf T f args H K:=
 Ev.call own a hl h λo ⟨o',e,d,H',h1,b⟩=>by cases e;exact⟨d,H',h1,d,H',rfl,b⟩
def Wt(T:iB)(l:List ic)(s:St)(K:List Rc->St->Prop):Prop:=Ev T (.trace l s) λr=>∃rs a,r = .tr rs a/\K rs a
theorem Wt.nil{s:St}{K:List Rc->St->Prop}(h:K [] s):Wt T [] s K:=Ev.I7 ⟨_,_,rfl,h⟩
theorem Wt.op{e:ic}{r:List ic}{s:St}{K:List Rc->St->Prop}{d:D}{δ:Dl}(hg:guardOf s.env.get e.guard=some true)(h:gN s.env.get s.H s.H.length e.op=some (d,δ))
  (t:Wt T r { s with env:=put s.env e.dst d,H:=δ.app s.H (Al.last s.H) } λrs a=>K (⟨gT s.env.get s.H e.op,jV s.H.length δ⟩::rs) a):Wt T (e::r) s K:=
 Ev.I9 hg h t λrs a ⟨_,_,e,k⟩=>by cases e;exact⟨_,_,rfl,k⟩
theorem Wt.off{e:ic}{r:List ic}{s:St}{K:List Rc->St->Prop}(hg:guardOf s.env.get e.guard=some false)
  (t:Wt T r { s with env:=put s.env e.dst (.val undef) } λrs a=>K (⟨[],[]⟩::rs) a):Wt T (e::r) s K:=
 Ev.I8 hg t λrs a ⟨_,_,e,k⟩=>by cases e;exact⟨_,_,rfl,k⟩
theorem Wc.l6{b:List (Nat×Nat)}{l:List ic}{s:St}{K:iY}(h:Wt T l s λrs a=>wu b rs=true/\K (.norm a)):Wc T (.l6 b l) s K:=
 Ev.l6 h λrs a ⟨_,_,e,k⟩=>by cases e;exact⟨k.1,_,rfl,k.2⟩
theorem Wc.mR{b:List (Nat×Nat)}{l es:List ic}{s:St}{K:iY}(h:Wt T l s λrs a=>wu b rs=true/\Wo T es a λa=>K (.norm a)):Wc T (.mR b l es) s K:=
 Ev.mR h (λrs a ⟨_,_,q,k⟩=>by cases q;exact k.1) λrs a ⟨_,_,q,k⟩=>by cases q;exact Ev.mono k.2 λ_ ⟨o,e,a,c,kk⟩=>⟨o,e,by rw[c];exact kk⟩
theorem WN{live keys:List Nat}{env:Env}(h:(live.all λk=>keys.contains k)=true):forget live (forget keys env)=forget live env:=by
 have key:∀(l:List Nat) (k:Nat),k∈l->Env.get (l.map λj=>(j,env.get j)) k=env.get k:=by
  intro l
  induction l with
  | nil=>intro k a;cases a
  | cons j r b=>
   intro k a;simp only[List.map_cons,Env.wW];split
   .grind
   .grind
 unfold forget;refine aw λk a=>?_;have:=List.all_eq_true.1 h k a;rw[key keys k (by simpa using this)]
end
end Go.AL
namespace Go.AL
open Go
attribute [simp] uf forget Env.wW Al.last
@[irreducible] def f1(n:Int):List D:=[.i n]
@[irreducible] def fB(b:Bool):List D:=[.b b]
@[simp] theorem DB(n:Int):f1 n = [.i n]:=by unfold f1;rfl
@[simp] theorem Gt(b:Bool):fB b = [.b b]:=by unfold fB;rfl
def dI(l:List Int):D:=.sl 1 (l.map f1)
def dL{α:Type}(sz:Nat)(f:α->List D)(l:List α):D:=.sl sz (l.map f)
def dN{α:Type}(sz:Nat)(f:α->List D):List α->D
 | []=>.gg
 | l=>.sl sz (l.map f)
structure Pos where
 cs:List Int
 h0:List Int
 h1:List Int
 gL:Int
 side:Int
 deriving DecidableEq,Inhabited
def Pos.cells(p:Pos):List D:=[dI p.cs,dI p.h0,dI p.h1,.i p.gL,.i p.side]
def dP(p:Pos):D:=.agg p.cells
def gZ(l:List Pos):D:=.sl 5 (l.map Pos.cells)
abbrev fZ:=Int×Int
@[irreducible] def fS(x:fZ):List D:=[.i x.1,.i x.2]
@[simp] theorem Bi(x:fZ):fS x = [.i x.1,.i x.2]:=by unfold fS;rfl
def gY(l:List fZ):D:=.sl 2 (l.map fS)
@[irreducible] def fP(l:List fZ):List D:=[gY l]
@[simp] theorem ae1(l:List fZ):fP l = [gY l]:=by unfold fP;rfl
@[irreducible] def fI(l:List Int):List D:=[dI l]
@[simp] theorem ae0(l:List Int):fI l = [dI l]:=by unfold fI;rfl
structure Kind where
 name:ByteArray
 jt:List (List fZ)
 keep:Bool
 deriving Inhabited
def Kind.cells(k:Kind):List D:=[.val (.string k.name),dN 1 fP k.jt,.b k.keep]
structure Clause where
 cond:Int
 kind:Int
 n:Int
 out:Int
 deriving DecidableEq,Inhabited
def Clause.cells(c:Clause):List D:=[.i c.cond,.i c.kind,.i c.n,.i c.out]
structure gi where
 size:Int
 next:List (List Int)
 jy:List Int
 kinds:List Kind
 gL:Int
 oK:Bool
 clauses:List Clause
 blocked:Int
 vo:Int
 deriving Inhabited
def gi.cells(g:gi):List D:=[.i g.size,.sl 1 (g.next.map fI),dI g.jy,.sl 3 (g.kinds.map Kind.cells),.i g.gL,.b g.oK,dN 4 Clause.cells g.clauses,.i g.blocked,.i g.vo]
def dG(g:gi):D:=.agg g.cells
def gi.jJ(g:gi):D:=.agg [.i g.size,.sl 1 (g.next.map fI),dI g.jy]
theorem Dv{α:Type}{f:α->List D}(h:∀a,gF (f a)=true):∀l:List α,Du (l.map f)=true
 | []=>rfl
 | a::l=>by simp[Du,h a,Dv h l]
@[simp] theorem atg(n:Int):closed (.i n)=true:=by simp only[closed]
@[simp] theorem acG(b:Bool):closed (.b b)=true:=by simp only[closed]
@[simp] theorem as3(l:List Int):closed (dI l)=true:=by simp only[dI,closed];exact Dv (λn=>by simp[gF]) l
@[simp] theorem ata(l:List fZ):closed (gY l)=true:=by simp only[gY,closed];exact Dv (λn=>by simp[gF]) l
theorem A4{α:Type}{sz:Nat}{f:α->List D}(h:∀a,gF (f a)=true)(l:List α):closed (dN sz f l)=true:=by
 cases l with
 | nil=>rfl
 | cons a l=>exact Dv h (a::l)
@[simp] theorem acF(p:Pos):gF p.cells=true:=by simp[Pos.cells,gF,closed]
@[simp] theorem atb(l:List Pos):closed (gZ l)=true:=by simp only[gZ,closed];exact Dv (λp=>acF p) l
@[simp] theorem asX(k:Kind):gF k.cells=true:=by simp only[Kind.cells,gF,A4 (f:=fP) (sz:=1) (λa=>by simp[gF]),acG,Bool.and_true];rfl
@[simp] theorem asW(c:Clause):gF c.cells=true:=by simp only[Clause.cells,gF,closed,Bool.and_self]
@[simp] theorem as0(l:List Clause):closed (dN 4 Clause.cells l)=true:=A4 (λ_=>rfl) l
section
variable{α:Type}{sz:Nat}{f:α->List D}{H:U}
@[simp] theorem Za(sz:Nat)(es:List (List D))(H:U):mX .slice (.sl sz es) H=some (.i es.length):=rfl
@[simp] theorem avM(H:U):mX .slice .gg H=some (.i 0):=rfl
@[simp] theorem avO(v g sz off n:Nat)(H:U):mX .slice (.fY v g sz off n) H=some (.i n):=rfl
@[simp] theorem avP(s:ByteArray)(H:U):mX .string (.val (.string s)) H=some (.i s.size):=rfl
@[simp] theorem avF(l:List Int)(H:U):mX .slice (dI l) H=some (.i l.length):=by simp[dI]
@[simp] theorem avJ(l:List Pos)(H:U):mX .slice (gZ l) H=some (.i l.length):=by simp[gZ]
@[simp] theorem avI(l:List fZ)(H:U):mX .slice (gY l) H=some (.i l.length):=by simp[gY]
@[simp] theorem avG(l:List α)(H:U):mX .slice (dN sz f l) H=some (.i l.length):=by cases l<;>simp[dN]
end
section
variable(k:IntKind)(a b:Int)
@[simp] theorem arv:jU .eql k a b=some (.b (a == b)):=rfl
@[simp] theorem arB:jU .neq k a b=some (.b (a != b)):=rfl
@[simp] theorem arz:jU .lss k a b=some (.b (decide (a<b))):=rfl
@[simp] theorem ary:jU .leq k a b=some (.b (decide (a<=b))):=rfl
@[simp] theorem arx:jU .gtr k a b=some (.b (decide (a>b))):=rfl
@[simp] theorem arw:jU .geq k a b=some (.b (decide (a>=b))):=rfl
@[simp] theorem art:jU .and k a b=some (.val (.int k (bits .and k a b))):=rfl
@[simp] theorem aru:jU .andNot k a b=some (.val (.int k (bits .andNot k a b))):=rfl
