/- Part 8 of the proof of skewer.skewerlaw15.TableAgain. -/
import Derived.Test.YtnaefnajkaohgaaGreatDoorD06
set_option linter.all false
namespace Go.AL
open Go
abbrev gv:=Out→Prop
def PO(K:gv):ml→Prop:=fun r=>∃ o,r = .out o∧K o
def PV(K:D→U→Prop):ml→Prop:=fun r=>∃ d H,r = .val d H∧K d H
section
variable{T:gb}
def Wo(T:gb)(l:List fo)(s:St)(K:St→Prop):Prop:=Ev T (.ops l s) (PO fun o=>∃ s',o = .norm s'∧K s')
def Wc(T:gb)(c:IR)(s:St)(K:gv):Prop:=Ev T (.code c s) (PO K)
def Wf(T:gb)(f:FuncId)(args:List D)(H:U)(K:D→U→Prop):Prop:=Ev T (.call f args H) (PV K)
theorem Wc.mono{c:IR}{s:St}{K K':gv}(h:Wc T c s K)(hi:∀ o,K o→K' o):Wc T c s K':=Ev.mono h fun _ ⟨o,e,k⟩=>⟨o,e,hi o k⟩
theorem Wf.mono{f:FuncId}{args:List D}{H:U}{K K':D→U→Prop}(h:Wf T f args H K)(hi:∀ d H,K d H→K' d H):Wf T f args H K':=Ev.mono h fun _ ⟨d,H,e,k⟩=>⟨d,H,e,hi d H k⟩
theorem Wo.nil{s:St}{K:St→Prop}(h:K s):Wo T [] s K:=Ev.nil ⟨_,rfl,_,rfl,h⟩
theorem Wo.op{e:fo}{r:List fo}{s:St}{K:St→Prop}{d:D}{δ:Dl}(hg:guardOf s.env.get e.guard=some true)(h:ft s.env.get s.H s.H.length e.op=some (d,δ))
  (t:Wo T r { s with env:=put s.env e.dst d,H:=δ.app s.H (Al.last s.H) } K):Wo T (e::r) s K:=Ev.op hg h t
theorem Wo.v8{e:fo}{r:List fo}{s:St}{K:St→Prop}{d:D}{δ:Dl}(hg:guardOf s.env.get e.guard=some true)(h:kG s.env.get s.H s.H.length e.op=some (d,δ))
  (t:Wo T r { s with env:=put s.env e.dst d,H:=δ.app s.H (Al.last s.H) } K):Wo T (e::r) s K:=Ev.v8 hg h t
theorem Wo.off{e:fo}{r:List fo}{s:St}{K:St→Prop}(hg:guardOf s.env.get e.guard=some false)
  (t:Wo T r { s with env:=put s.env e.dst (.val undef) } K):Wo T (e::r) s K:=Ev.off hg t
theorem Wc.skip{s:St}{K:gv}(h:K (.norm s)):Wc T .skip s K:=Ev.skip ⟨_,rfl,h⟩
theorem Wc.ret{s:St}{K:gv}(h:K (.ret s)):Wc T .ret s K:=Ev.ret ⟨_,rfl,h⟩
theorem Wc.exit{id:Nat}{s:St}{K:gv}(h:K (.exit id s)):Wc T (.exit id) s K:=Ev.exit ⟨_,rfl,h⟩
theorem Wc.ops{l:List fo}{s:St}{K:gv}(h:Wo T l s fun s'=>K (.norm s')):Wc T (.ops l) s K:=Ev.y9 (Ev.mono h fun _ ⟨o,e,s',e',k⟩=>⟨o,e,by rw[e'];exact k⟩)
def FQ(T:gb)(b:IR)(K:gv):gv
 | .norm s=>Wc T b s K
 | o=>K o
theorem Wc.seq{a b:IR}{s:St}{K:gv}(h:Wc T a s (FQ T b K)):Wc T (.seq a b) s K:=by
 refine Ev.seq h (fun s' ⟨o,e,k⟩=>?_) fun o ⟨o',e,k⟩ hs=>?_
 ·cases e;exact k
 ·cases e
  cases o with
  | norm=>cases hs
  | exit=>exact⟨_,rfl,k⟩
  | ret=>exact⟨_,rfl,k⟩
theorem Wc.RS{c:X}{a b:IR}{s:St}{K:gv}(hc:ev s.env.get c = .b true)(h:Wc T a s K):Wc T (.cond c a b) s K:=Ev.cond (x:=true) hc h
theorem Wc.RR{c:X}{a b:IR}{s:St}{K:gv}(hc:ev s.env.get c = .b false)(h:Wc T b s K):Wc T (.cond c a b) s K:=Ev.cond (x:=false) hc h
theorem Wc.cond{c:X}{a b:IR}{s:St}{K:gv}(x:Bool)(hc:ev s.env.get c = .b x)(ht:x=true→Wc T a s K)(hf:x=false→Wc T b s K):Wc T (.cond c a b) s K:=by
 cases x
 ·exact Wc.RR hc (hf rfl)
 ·exact Wc.RS hc (ht rfl)
theorem Wc.block{id:Nat}{live:List Nat}{a:IR}{s:St}{K:gv}(h:Wc T a s fun o=>K (kJ id s.H.length live o)):Wc T (.block id live a) s K:=
 Ev.block h fun o ⟨o',e,k⟩=>by cases e;exact⟨_,rfl,k⟩
theorem Wc.loop{live:List Nat}{a:IR}{s:St}{K:gv}(I:Nat→St→Prop)(m:Nat)(h0:I m { s with env:=forget live s.env })
  (h:∀ m s',I m s'→Wc T a s' fun o=>match o with
   | .norm A5=>∃ m',m'<m∧I m' (cut s.H.length live A5)
   | o=>K o):Wc T (.loop live a) s K:=by
 have key:∀ m s',I m s'→Ev T (.loop s.H.length live a s') (PO K):=by
  intro m
  induction m using Nat.strongRecOn with
  | ind m ih=>
   intro s' hI
   refine Ev.tZ (h m s' hI) (fun A5 ⟨o,e,k⟩=>?_) fun o ⟨o',e,k⟩ hs=>?_
   ·cases e
    obtain⟨m',Ux,Tu⟩:=k
    exact ih m' Ux _ Tu
   ·cases e
    cases o with
    | norm=>cases hs
    | exit=>exact⟨_,rfl,k⟩
    | ret=>exact⟨_,rfl,k⟩
 exact Ev.loop (key m _ h0)
theorem DY{n:Nat}{live:List Nat}{s:St}(h:s.H.length≤n):cut n live s = { s with env:=forget live s.env }:=by
 unfold cut;rw[if_pos h]
theorem Wf.call{f:FuncId}{args:List D}{H:U}{fn:eQ}{K:D→U→Prop}(own:Nat)(hf:T.fn f=some fn)(hl:args.length≤fn.ntmps)
  (h:Wc T fn.body { env:=pj args,H:=H } fun o=>∃ d H',finish fn own H.length o=some (d,H')∧K d H'):Wf T f args H K:=
 Ev.call own hf hl h fun o ⟨o',e,d,H',h1,h2⟩=>by cases e;exact⟨d,H',h1,d,H',rfl,h2⟩
def Wt(T:gb)(l:List fo)(s:St)(K:List Rc→St→Prop):Prop:=Ev T (.trace l s) fun r=>∃ rs s',r = .tr rs s'∧K rs s'
theorem Wt.nil{s:St}{K:List Rc→St→Prop}(h:K [] s):Wt T [] s K:=Ev.Bi ⟨_,_,rfl,h⟩
theorem Wt.op{e:fo}{r:List fo}{s:St}{K:List Rc→St→Prop}{d:D}{δ:Dl}(hg:guardOf s.env.get e.guard=some true)(h:ft s.env.get s.H s.H.length e.op=some (d,δ))
  (t:Wt T r { s with env:=put s.env e.dst d,H:=δ.app s.H (Al.last s.H) } fun rs s'=>K (⟨fu s.env.get s.H e.op,im s.H.length δ⟩::rs) s'):Wt T (e::r) s K:=
 Ev.Bk hg h t fun rs s' ⟨_,_,e,k⟩=>by cases e;exact⟨_,_,rfl,k⟩
theorem Wt.off{e:fo}{r:List fo}{s:St}{K:List Rc→St→Prop}(hg:guardOf s.env.get e.guard=some false)
  (t:Wt T r { s with env:=put s.env e.dst (.val undef) } fun rs s'=>K (⟨[],[]⟩::rs) s'):Wt T (e::r) s K:=
 Ev.Bj hg t fun rs s' ⟨_,_,e,k⟩=>by cases e;exact⟨_,_,rfl,k⟩
theorem Wc.draw{ic:List (Nat×Nat)}{l:List fo}{s:St}{K:gv}(h:Wt T l s fun rs s'=>qz ic rs=true∧K (.norm s')):Wc T (.draw ic l) s K:=
 Ev.draw h fun rs s' ⟨_,_,e,k⟩=>by cases e;exact⟨k.1,_,rfl,k.2⟩
theorem Wc.kh{ic:List (Nat×Nat)}{l es:List fo}{s:St}{K:gv}(h:Wt T l s fun rs s'=>qz ic rs=true∧Wo T es s' fun s'=>K (.norm s')):Wc T (.kh ic l es) s K:=
 Ev.kh h (fun rs s' ⟨_,_,q,k⟩=>by cases q;exact k.1) fun rs s' ⟨_,_,q,k⟩=>by cases q;exact Ev.mono k.2 fun _ ⟨o,e,s',e2,kk⟩=>⟨o,e,by rw[e2];exact kk⟩
theorem S3{live keys:List Nat}{env:Env}(h:(live.all fun k=>keys.contains k)=true):forget live (forget keys env)=forget live env:=by
 have key:∀ (l:List Nat) (k:Nat),k∈l→Env.get (l.map fun j=>(j,env.get j)) k=env.get k:=by
  intro l
  induction l with
  | nil=>intro k hk;cases hk
  | cons j r ih=>
   intro k hk
   simp only[List.map_cons,Env.qX]
   split
   ·rename_i e;subst e;rfl
   ·rename_i e
    rcases au.1 hk with rfl|hk
    ·exact absurd rfl e
    ·exact ih k hk
 unfold forget
 refine aj fun k hk=>?_
 have:=ao.1 h k hk
 rw[key keys k (by simpa using this)]
end
end Go.AL
namespace Go.AL
open Go
attribute [simp] pj forget Env.qX Al.last
@[irreducible] def f1(n:Int):List D:=[.i n]
@[irreducible] def fB(b:Bool):List D:=[.b b]
@[simp] theorem qV(n:Int):f1 n = [.i n]:=by unfold f1;rfl
@[simp] theorem MI(b:Bool):fB b = [.b b]:=by unfold fB;rfl
def dI(l:List Int):D:=.sl 1 (l.map f1)
def dN{α:Type}(sz:Nat)(f:α→List D):List α→D
 | []=>.emp
 | l=>.sl sz (l.map f)
structure Pos where
 cs:List Int
 h0:List Int
 h1:List Int
 fg:Int
 side:Int
 deriving DecidableEq,Inhabited
def Pos.cells(p:Pos):List D:=[dI p.cs,dI p.h0,dI p.h1,.i p.fg,.i p.side]
def dP(p:Pos):D:=.agg p.cells
def fW(l:List Pos):D:=.sl 5 (l.map Pos.cells)
abbrev eT:=Int×Int
@[irreducible] def fS(x:eT):List D:=[.i x.1,.i x.2]
@[simp] theorem tw(x:eT):fS x = [.i x.1,.i x.2]:=by unfold fS;rfl
def gq(l:List eT):D:=.sl 2 (l.map fS)
@[irreducible] def fP(l:List eT):List D:=[gq l]
@[simp] theorem SL(l:List eT):fP l = [gq l]:=by unfold fP;rfl
@[irreducible] def fI(l:List Int):List D:=[dI l]
@[simp] theorem SK(l:List Int):fI l = [dI l]:=by unfold fI;rfl
structure Kind where
 name:ByteArray
 gu:List (List eT)
 mz:Bool
 deriving Inhabited
def Kind.cells(k:Kind):List D:=[.val (.string k.name),dN 1 fP k.gu,.b k.mz]
structure Clause where
 cond:Int
 kind:Int
 n:Int
 out:Int
 deriving DecidableEq,Inhabited
def Clause.cells(c:Clause):List D:=[.i c.cond,.i c.kind,.i c.n,.i c.out]
structure eO where
 size:Int
 next:List (List Int)
 gN:List Int
 kinds:List Kind
 fg:Int
 kS:Bool
 clauses:List Clause
 blocked:Int
 oK:Int
 deriving Inhabited
def eO.cells(g:eO):List D:=[.i g.size,.sl 1 (g.next.map fI),dI g.gN,.sl 3 (g.kinds.map Kind.cells),.i g.fg,.b g.kS,dN 4 Clause.cells g.clauses,.i g.blocked,.i g.oK]
def dG(g:eO):D:=.agg g.cells
def eO.gV(g:eO):D:=.agg [.i g.size,.sl 1 (g.next.map fI),dI g.gN]
theorem wM{α:Type}{f:α→List D}(h:∀ a,fm (f a)=true):∀ l:List α,wL (l.map f)=true
 | []=>rfl
 | a::l=>by simp[wL,h a,wM h l]
@[simp] theorem ag9(n:Int):closed (.i n)=true:=by simp only[closed]
@[simp] theorem RE(b:Bool):closed (.b b)=true:=by simp only[closed]
@[simp] theorem agW(l:List Int):closed (dI l)=true:=by
 simp only[dI,closed]
 exact wM (fun n=>by simp[fm]) l
@[simp] theorem ag3(l:List eT):closed (gq l)=true:=by
 simp only[gq,closed]
 exact wM (fun n=>by simp[fm]) l
theorem uQ{α:Type}{sz:Nat}{f:α→List D}(h:∀ a,fm (f a)=true)(l:List α):closed (dN sz f l)=true:=by
 cases l with
 | nil=>rfl
 | cons a l=>exact wM h (a::l)
@[simp] theorem RD(p:Pos):fm p.cells=true:=by simp[Pos.cells,fm,closed]
@[simp] theorem ag4(l:List Pos):closed (fW l)=true:=by
 simp only[fW,closed]
 exact wM (fun p=>RD p) l
@[simp] theorem agR(k:Kind):fm k.cells=true:=by
 simp only[Kind.cells,fm,uQ (f:=fP) (sz:=1) (fun a=>by simp[fm]),RE,Bool.and_true]
 rfl
@[simp] theorem agQ(c:Clause):fm c.cells=true:=by simp only[Clause.cells,fm,closed,Bool.and_self]
@[simp] theorem agV(l:List Clause):closed (dN 4 Clause.cells l)=true:=uQ (fun _=>rfl) l
section
variable{α:Type}{sz:Nat}{f:α→List D}{H:U}
@[simp] theorem Oz(sz:Nat)(es:List (List D))(H:U):nq .slice (.sl sz es) H=some (.i es.length):=rfl
@[simp] theorem ajf(H:U):nq .slice .emp H=some (.i 0):=rfl
@[simp] theorem ajh(v g sz off n:Nat)(H:U):nq .slice (.eN v g sz off n) H=some (.i n):=rfl
@[simp] theorem aji(s:ByteArray)(H:U):nq .string (.val (.string s)) H=some (.i s.size):=rfl
@[simp] theorem ai8(l:List Int)(H:U):nq .slice (dI l) H=some (.i l.length):=by simp[dI]
@[simp] theorem ajc(l:List Pos)(H:U):nq .slice (fW l) H=some (.i l.length):=by simp[fW]
@[simp] theorem ajb(l:List eT)(H:U):nq .slice (gq l) H=some (.i l.length):=by simp[gq]
@[simp] theorem ai9(l:List α)(H:U):nq .slice (dN sz f l) H=some (.i l.length):=by
 cases l<;>simp[dN]
end
section
variable(k:IntKind)(a b:Int)
@[simp] theorem afw:iD .eql k a b=some (.b (a == b)):=rfl
@[simp] theorem afB:iD .neq k a b=some (.b (a != b)):=rfl
@[simp] theorem afA:iD .lss k a b=some (.b (decide (a<b))):=rfl
@[simp] theorem afz:iD .leq k a b=some (.b (decide (a≤b))):=rfl
@[simp] theorem afy:iD .gtr k a b=some (.b (decide (a>b))):=rfl
@[simp] theorem afx:iD .geq k a b=some (.b (decide (a≥b))):=rfl
@[simp] theorem afu:iD .and k a b=some (.val (.int k (bits .and k a b))):=rfl
@[simp] theorem afv:iD .andNot k a b=some (.val (.int k (bits .andNot k a b))):=rfl
