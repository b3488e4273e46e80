/- Part 1 of the proof of skewer.skewerlaw15.TableSlices. -/
import Derived.RangeFuncIn
import Derived.TacticsIn
import Derived.OrdersIn
import Derived.Laws.CopyRow
import Derived.Laws.AppendOwn
import Derived.Laws.OwnMore
import Derived.Laws.Concat
import Derived.Laws.Strings
import Derived.Laws.Slices
import Derived.Laws.StructEq
import Derived.Laws.BytesString
set_option linter.all false
namespace Go.AL
open Go
inductive D where
 | any
 | val (v:Value)
 | agg (cs:List D)
 | tup (cs:List D)
 | sl (sz:Nat) (es:List (List D))
 | emp
 | osl (v g sz off len:Nat)
 | ptr (v g off:Nat)
 | fptr (cs:List D)
 | omap (v:Nat)
 | fn (fn:Fn) (first captured:List D)
 | yld (v:Nat)
 deriving Inhabited
abbrev D.i(n:Int):D:=.val (.int .i64 n)
abbrev D.b(x:Bool):D:=.val (.bool x)
abbrev Env:=List (Nat×D)
def Env.get:Env→Nat→D
 | [],_=>.any
 | (k,d)::r,j=>match Nat.beq k j with
  | true=>d
  | false=>Env.get r j
theorem Env.get_cons(k:Nat)(d:D)(r:Env)(j:Nat):Env.get ((k,d)::r) j=if k=j then d else Env.get r j:=by
 simp only[Env.get]
 by_cases h:k=j
 ·rw[if_pos h,h,Nat.beq_refl]
 ·have:Nat.beq k j=false:=by
   cases hb:Nat.beq k j with
   | false=>rfl
   | true=>exact absurd (Nat.eq_of_beq_eq_true hb) h
  rw[if_neg h,this]
structure Loc where
 b:Nat
 base:Nat
 top:Nat
 virt:Bool:=false
structure Ctx where
 ι:Nat→Nat→Option Loc
 F:Nat→Prop
 RT:Nat→Option (Nat×Array Tmp×Code×Code)
inductive Rep(c:Ctx)(w:World):Value→D→Prop
 | any (v:Value):Rep c w v .any
 | val (v:Value):Rep c w v (.val v)
 | agg (vs:List Value) (ds:List D) (hl:vs.length=ds.length) (h1:∀ v∈vs,v.oneCell'=true)
   (h:∀ (i:Nat) (v:Value) (d:D),vs[i]? = some v→ds[i]? = some d→Rep c w v d):Rep c w (.agg vs.toArray) (.agg ds)
 | tup (vs:List Value) (ds:List D) (hl:vs.length=ds.length)
   (h:∀ (i:Nat) (v:Value) (d:D),vs[i]? = some v→ds[i]? = some d→Rep c w v d):Rep c w (.tuple vs.toArray) (.tup ds)
 | sl (a:Option Addr) (len cap sz:Nat) (es:List (List D)) (g:Nat→Nat→Value)
   (hlen:es.length=len) (hcap:len≤cap) (hmax:cap≤maxLen) (hsz:∀ e∈es,e.length=sz)
   (hnil:a=none→cap=0)
   (hc:∀ (i:Nat) (e:List D) (j:Nat) (d:D),es[i]? = some e→e[j]? = some d→∃ b o,a=some ⟨b,o,none⟩∧c.F b∧w.cell? ⟨b,o+(i*sz+j),none⟩=some (g i j)∧(g i j).oneCell'=true)
   (hr:∀ (i:Nat) (e:List D) (j:Nat) (d:D),es[i]? = some e→e[j]? = some d→Rep c w (g i j) d):Rep c w (.slice a len cap) (.sl sz es)
 | emp:Rep c w (.slice none 0 0) .emp
 | osl (v k sz off len cap:Nat) (L:Loc) (hι:c.ι v k=some L) (hv:L.virt=false) (hcap:len≤cap) (hmax:cap≤maxLen)
   (htop:L.base+(off+cap)*sz=L.top):Rep c w (.slice (some ⟨L.b,L.base+off*sz,none⟩) len cap) (.osl v k sz off len)
 | oslz (v k sz off:Nat) (L:Loc) (hι:c.ι v k=some L) (a:Option Addr):Rep c w (.slice a 0 0) (.osl v k sz off 0)
 | ptr (v k off:Nat) (L:Loc) (hι:c.ι v k=some L) (hv:L.virt=false):Rep c w (.pointer (some ⟨L.b,L.base+off,none⟩)) (.ptr v k off)
 | fptr (b o:Nat) (cs:List D) (g:Nat→Value) (hF:c.F b)
   (hc:∀ (j:Nat) (d:D),cs[j]? = some d→w.cell? ⟨b,o+j,none⟩=some (g j)∧(g j).oneCell'=true)
   (hr:∀ (j:Nat) (d:D),cs[j]? = some d→Rep c w (g j) d):Rep c w (.pointer (some ⟨b,o,none⟩)) (.fptr cs)
 | omap (v:Nat) (L:Loc) (hι:c.ι v 0=some L) (hv:L.virt=false):Rep c w (.map (some L.b)) (.omap v)
 | fn (fn:Fn) (fs cs:List Value) (df dc:List D) (hl1:fs.length=df.length) (hl2:cs.length=dc.length)
   (h1:∀ (i:Nat) (v:Value) (d:D),fs[i]? = some v→df[i]? = some d→Rep c w v d)
   (h2:∀ (i:Nat) (v:Value) (d:D),cs[i]? = some v→dc[i]? = some d→Rep c w v d):Rep c w (.func fn fs.toArray cs.toArray) (.fn fn df dc)
 | yld (v:Nat) (L:Loc) (hι:c.ι v 0=some L) (hv:L.virt=false):Rep c w (.func (.yield L.b) #[] #[]) (.yld v)
inductive KK where
 | int (k:IntKind)
 | str
 | bool
 | ints (l:List IntKind)
 deriving Inhabited,DecidableEq
def intCells:List IntKind→List Value→Bool
 | [],[]=>true
 | k::ks,.int k' _::vs=>k == k'&&intCells ks vs
 | _,_=>false
def KK.has:KK→Value→Bool
 | .int k,.int k' _=>k == k'
 | .str,.string _=>true
 | .bool,.bool _=>true
 | .ints l,.agg cs=>intCells l cs.toList
 | _,_=>false
inductive RSt where
 | ready|busy|doneRet|doneExit (id:Nat)
 deriving Inhabited,DecidableEq
inductive Ob where
 | row (t:TypeId) (g:Nat) (cs:List D)
 | map (kk:KK) (es:List (Value×D))
 | rcd (rf:Nat) (env:Env) (st:RSt)
 | siter (s:ByteArray) (pos:Nat)
 | miter (m:D) (since:Nat) (seen:List Nat)
 | dfr
 | dead
 | hole
 deriving Inhabited
def Ob.alive:Ob→Bool
 | .dead | .hole=>false
 | _=>true
def Ob.gen:Ob→Nat
 | .row _ g _=>g
 | _=>0
abbrev Heap:=List Ob
def Lies(c:Ctx)(H:Heap)(v:Nat)(L:Loc):Prop:=∃ o,H[v]? = some o∧o.alive=true∧c.ι v o.gen=some L
def Owned(c:Ctx)(H:Heap)(b:Nat):Prop:=∃ v L,Lies c H v L∧L.virt=false∧L.b=b
def MapIs(c:Ctx)(w:World)(arr:Array MapEntry)(clock:Nat)(es:List (Value×D)):Prop:=
 arr.size=es.length∧(∀ (i:Nat) (e:MapEntry) (x:Value×D),arr[i]? = some e→es[i]? = some x→e.key=x.1∧Rep c w e.val x.2∧e.born=i)∧clock=es.length
def RSt.is:RSt→Loop→Prop
 | .ready,r=>r.state = .ready∧r.pending=none
 | .busy,r=>r.state = .busy
 | .doneRet,r=>r.state = .done∧r.pending=some .ret
 | .doneExit id,r=>r.state = .done∧r.pending=some (.exit id)
def ObOK(c:Ctx)(w:World):Option Loc→Ob→Prop
 | _,.dead=>True
 | L,.hole=>L=none
 | none,_=>False
 | some L,.row t _ cs=>if L.virt then cs = []else
   ∃ arr:Array Value,w.heap[L.b]? = some (.cells arr t (0,0))∧L.top=arr.size∧L.base+cs.length≤L.top ∧
    ∀ (i:Nat) (d:D),cs[i]? = some d→∃ v,arr[L.base+i]? = some v∧v.oneCell'=true∧Rep c w v d
 | some L,.map kk es=>L.virt=false∧(∀ x∈es,kk.has x.1=true)∧∃ arr clock,w.heap[L.b]? = some (.map arr clock)∧MapIs c w arr clock es
 | some L,.rcd rf env st=>L.virt=false∧∃ r:Loop,w.heap[L.b]? = some (.loop r)∧(∀ k,Rep c w (r.tmps.getD k undef) (env.get k)) ∧
   (∃ N,c.RT rf=some (N,r.params,r.assign,r.body)∧N≤r.tmps.size)∧st.is r
 | some L,.siter s p=>L.virt=false∧L.base=0∧w.heap[L.b]? = some (.stringIter s p)
 | some L,.miter m since seen=>L.virt=false∧L.base=0∧∃ bm:Nat,Rep c w (.map (some bm)) m∧w.heap[L.b]? = some (.mapIter (some bm) since seen.toArray since)
 | some L,.dfr=>L.virt=true∨w.heap[L.b]? = some (.deferred (some []))
structure HeapOK(c:Ctx)(H:Heap)(w:World):Prop where
 inj:∀ v v' L L',Lies c H v L→Lies c H v' L'→L.virt=false→L'.virt=false→L.b=L'.b→v=v'
 lt:∀ b,Owned c H b→b<w.heap.size
 nF:∀ b,Owned c H b→¬ c.F b
 Flt:∀ b,c.F b→b<w.heap.size
 out:∀ v k,H.length≤v→c.ι v k=none
 fut:∀ v o k,H[v]? = some o→(o = .hole∨(o.alive=true∧o.gen<k))→c.ι v k=none
 ob:∀ (v:Nat) (o:Ob),H[v]? = some o→ObOK c w (c.ι v o.gen) o
structure Step(n:Nat)(c:Ctx)(H:Heap)(w:World)(c':Ctx)(H':Heap)(w':World):Prop where
 os:w'.os=w.os∧w.drawn≤w'.drawn
 tape:w'.tape=w.tape
 output:w'.output=w.output
 size:w.heap.size≤w'.heap.size
 RT:c'.RT=c.RT
 Fm:∀ b,c.F b→c'.F b
 Fn:∀ b,c'.F b→c.F b∨w.heap.size≤b∨Owned c H b
 kept:∀ b,b<w.heap.size→¬ Owned c H b→w'.heap[b]? = w.heap[b]?
 old:∀ v k L,v<n→c.ι v k=some L→c'.ι v k=some L
 own:∀ b,Owned c' H' b→w.heap.size≤b∨Owned c H b
theorem Step.refl(n:Nat)(c:Ctx)(H:Heap)(w:World):Step n c H w c H w:=
 ⟨⟨rfl,Nat.le_refl _⟩,rfl,rfl,Nat.le_refl _,rfl,fun _ h=>h,fun _ h=>.inl h,fun _ _ _=>rfl,fun _ _ _ _ h=>h,fun _ h=>.inr h⟩
theorem Step.trans{n m:Nat}{c c1 c2:Ctx}{H H1 H2:Heap}{w w1 w2:World}(h1:Step n c H w c1 H1 w1)(h2:Step m c1 H1 w1 c2 H2 w2)(hm:n≤m) :
  Step n c H w c2 H2 w2 where
 os:=⟨h2.os.1.trans h1.os.1,Nat.le_trans h1.os.2 h2.os.2⟩
 tape:=h2.tape.trans h1.tape
 output:=h2.output.trans h1.output
 size:=Nat.le_trans h1.size h2.size
 RT:=h2.RT.trans h1.RT
 Fm b h:=h2.Fm b (h1.Fm b h)
 Fn b h:=by
  rcases h2.Fn b h with h|h|h
  ·exact h1.Fn b h
  ·exact .inr (.inl (Nat.le_trans h1.size h))
  ·rcases h1.own b h with h|h
   ·exact .inr (.inl h)
   ·exact .inr (.inr h)
 kept b hb hn:=by
  rw[h2.kept b (Nat.lt_of_lt_of_le hb h1.size) (fun ho=>?_),h1.kept b hb hn]
  rcases h1.own b ho with h|h
  ·omega
  ·exact hn h
 old v k L hv h:=h2.old v k L (by omega) (h1.old v k L hv h)
 own b h:=by
  rcases h2.own b h with h|h
  ·exact .inl (Nat.le_trans h1.size h)
  ·exact h1.own b h
theorem Step.weaken{n m:Nat}{c c':Ctx}{H H':Heap}{w w':World}(h:Step n c H w c' H' w')(hm:m≤n):Step m c H w c' H' w':=
 { h with old:=fun v k L hv=>h.old v k L (by omega) }
theorem cell?_of_heap{w w':World}{a:Addr}(h:w'.heap[a.block]? = w.heap[a.block]?):w'.cell? a=w.cell? a:=by simp[World.cell?,h]
theorem Rep.carry{c c':Ctx}{w w':World}(hι:∀ v k L,c.ι v k=some L→c'.ι v k=some L)(hF:∀ b,c.F b→c'.F b)
  (hcell:∀ b o,c.F b→w'.cell? ⟨b,o,none⟩=w.cell? ⟨b,o,none⟩) {v:Value} {d:D} (h:Rep c w v d):Rep c' w' v d:=by
 induction h with
 | any v=>exact .any _
 | val v=>exact .val _
 | agg vs ds hl h1 h ih=>exact .agg vs _ hl h1 ih
 | tup vs ds hl h ih=>exact .tup vs _ hl ih
 | sl a len cap sz es g hlen hcap hmax hsz hnil hc hr ih=>
  refine .sl a len cap sz _ g hlen hcap hmax hsz hnil ?_ ih
  intro i e j d he hd
  obtain⟨b,o,ha,hFb,hce,h1⟩:=hc i e j d he hd
  exact⟨b,o,ha,hF b hFb,by rw[hcell b _ hFb];exact hce,h1⟩
 | emp=>exact .emp
 | osl v k sz off len cap L h hv hcap hmax htop=>exact .osl v k sz off len cap L (hι _ _ _ h) hv hcap hmax htop
 | oslz v k sz off L h a=>exact .oslz v k sz off L (hι _ _ _ h) a
 | ptr v k off L h hv=>exact .ptr v k off L (hι _ _ _ h) hv
 | fptr b o cs g hFb hc hr ih=>
  refine .fptr b o _ g (hF b hFb) ?_ ih
  intro j d hd
  rw[hcell b _ hFb]
  exact hc j d hd
 | omap v L h hv=>exact .omap v L (hι _ _ _ h) hv
 | fn f fs cs df dc hl1 hl2 h1 h2 ih1 ih2=>exact .fn f fs cs _ _ hl1 hl2 ih1 ih2
 | yld v L h hv=>exact .yld v L (hι _ _ _ h) hv
theorem Rep.step{n:Nat}{c c':Ctx}{H H':Heap}{w w':World}(hH:HeapOK c H w)(hs:Step n c H w c' H' w')(hn:H.length≤n){v:Value}{d:D}(h:Rep c w v d) :
  Rep c' w' v d:=by
 refine h.carry (fun v k L hL=>hs.old v k L ?_ hL) hs.Fm (fun b o hF=>cell?_of_heap (hs.kept b (hH.Flt b hF) (fun ho=>hH.nF b ho hF)))
 rcases Nat.lt_or_ge v H.length with h|h
 ·omega
 ·rw[hH.out v k h]at hL;cases hL
theorem Rep.step0{c c':Ctx}{H H':Heap}{w w':World}(hH:HeapOK c H w)(hs:Step H.length c H w c' H' w'){v:Value}{d:D}(h:Rep c w v d):Rep c' w' v d:=
 h.step hH hs (Nat.le_refl _)
inductive X where
 | t (k:Nat)
 | c (d:D)
 deriving Inhabited
abbrev EnvF:=Nat→D
def ev(env:EnvF):X→D
 | .t k=>env k
 | .c d=>d
def cellsOf:D→Option (List D)
 | .agg cs=>some cs
 | .any | .tup _=>none
 | .val v=>if v.oneCell' then some [.val v]else none
 | d=>some [d]
def one:D→Bool
 | .any | .tup _ | .agg _=>false
 | .val v=>v.oneCell'
 | _=>true
mutual
def closed:D→Bool
 | .any | .val _ | .emp=>true
 | .agg cs | .tup cs | .fptr cs=>closedL cs
 | .sl _ es=>closedLL es
 | .osl .. | .ptr .. | .omap _ | .yld _=>false
 | .fn _ a b=>closedL a&&closedL b
def closedL:List D→Bool
 | []=>true
 | d::ds=>closed d&&closedL ds
def closedLL:List (List D)→Bool
 | []=>true
 | e::es=>closedL e&&closedLL es
end
def keyEq:Value→Value→Bool
 | .int k a,.int k' b=>k == k'&&a == b
 | .string a,.string b=>a == b
 | .bool a,.bool b=>a == b
 | .agg a,.agg b=>a.size == b.size&&(a.toList.zip b.toList).all fun(x,y)=>match x,y with
  | .int k a,.int k' b=>k == k'&&a == b
  | _,_=>false
 | _,_=>false
def keyCells:List D→Option (List Value)
 | []=>some []
 | .val (.int k n)::r=>(keyCells r).map (.int k n :: ·)
 | _::_=>none
def keyOf:D→Option Value
 | .val (.int k n)=>some (.int k n)
 | .val (.string s)=>some (.string s)
 | .val (.bool b)=>some (.bool b)
 | .agg cs=>(keyCells cs).map fun l=>.agg l.toArray
 | _=>none
def mapGet:List (Value×D)→Value→Option D
 | [],_=>none
 | (k,d)::r,j=>if keyEq j k then some d else mapGet r j
def mapSet:List (Value×D)→Value→D→List (Value×D)
 | [],j,x=>[(j,x)]
 | (k,d)::r,j,x=>if keyEq j k then(j,x)::r else(k,d)::mapSet r j x
inductive Leaf where
 | int|bool|str
 deriving Inhabited,DecidableEq
inductive LenOf where
 | slice|string|map
 deriving Inhabited,DecidableEq
inductive IOp where
 | mv (x:X)
 | pick (c a b:X)
 | box (t:TypeId) (x:X)
 | alloc (t:TypeId) (z:List D)
 | build (z:List D) (ps:List (Nat×Nat×X))
 | buildSl (t sz:Nat) (z:List D) (n:Nat) (ps:List (Nat×X))
 | ld1 (x:X)
 | ldN (n:Nat) (x:X)
 | st1 (a x:X)
 | stN (n:Nat) (a x:X)
 | nilck (x:X)
 | arith (op:BinOp) (x y:X)
 | eqS (isagg:Bool) (ls:List Leaf) (neg:Bool) (x y:X)
 | un (op:UnOp) (x:X)
 | conv (k:IntKind) (x:X)
 | b2s (x:X)
 | mkfn (fn:Fn) (first captured:List X)
 | mkmap (kk:KK)
 | mksl (t sz bytes:Nat) (z:List D) (l c:X)
 | slc (sz:Nat) (x:X) (lo hi:Option X)
 | slcS (x:X) (lo hi:Option X)
 | fieldA (off:Nat) (x:X)
 | field (off n:Nat) (isagg:Bool) (x:X)
 | idxA (sz:Nat) (x i:X)
 | idxArr (sz n:Nat) (x i:X)
 | idx (sz n:Nat) (isagg:Bool) (x i:X)
 | idxStr (x i:X)
 | lookup (kk:KK) (z:D) (ok:Bool) (m k:X)
 | mapUpd (kk:KK) (m k v:X)
 | ext (x:X) (i:Nat)
 | call (f:FuncId) (args:List X)
 | callN (f:FuncId) (args:List X)
 | callv (f:X) (args:List X)
 | app (t sz bytes:Nat) (x y:X)
 | copy (sz:Nat) (x y:X)
 | len (k:LenOf) (x:X)
 | minmax (isMax:Bool) (xs:List X)
 | nilS (neg:Bool) (x:X)
 | capE (x:X)
 | appZ (t sz bytes:Nat) (z:List D) (x n:X)
 | clr (sz:Nat) (z:List D) (x:X)
 | rangeS (x:X)
 | nextS (x:X)
 | rangeM (x:X)
 | nextM (x:X)
 | entry (x:X)
 deriving Inhabited
structure IEnt where
 dst:Option Nat
 op:IOp
 guard:Option (Nat×Bool):=none
 deriving Inhabited
structure GT where
 g:Nat→Option (List D)
 rt:Nat→Option (Nat×Array Tmp×Code×Code)
 nw:FuncId→Bool:=fun _=>false
instance:CoeFun GT (fun _=>Nat→Option (List D)):=⟨GT.g⟩
inductive RepL(c:Ctx)(w:World):List Value→List D→Prop
 | nil:RepL c w [] []
 | cons {v d vs ds} (h:Rep c w v d) (t:RepL c w vs ds):RepL c w (v::vs) (d::ds)
structure HOK(G:GT)(c:Ctx)(H:Heap)(w:World):Prop extends HeapOK c H w where
 gl:∀ (g:Nat) (cs:List D),G g=some cs→closedL cs=true∧Rep c w (.pointer (some ⟨g,0,none⟩)) (.fptr cs)
 rt:c.RT=G.rt
abbrev Kont:=D→Heap→Prop
abbrev Al:=Nat×(Ob→Heap)
def Al.last(H:Heap):Al:=(H.length,fun ob=>H ++ [ob])
def Al.hole(H:Heap)(v:Nat):Al:=(v,fun ob=>H.set v ob)
def inI64(n:Int):Prop := -9223372036854775808≤n∧n≤9223372036854775807
def arithK(op:BinOp)(k:IntKind)(a b:Int)(H:Heap)(K:Kont):Prop:=
 match op with
 | .add=>if k = .i64 then inI64 (a+b)∧K (.val (.int .i64 (a+b))) H else K (.val (.int k (k.wrap (a+b)))) H
 | .sub=>if k = .i64 then inI64 (a-b)∧K (.val (.int .i64 (a-b))) H else K (.val (.int k (k.wrap (a-b)))) H
 | .mul=>if k = .i64 then inI64 (a*b)∧K (.val (.int .i64 (a*b))) H else K (.val (.int k (k.wrap (a*b)))) H
 | .quo=>b≠0∧K (.val (.int k (k.wrap (a.tdiv b)))) H
 | .rem=>b≠0∧K (.val (.int k (a.tmod b))) H
 | .and | .or | .xor | .andNot=>K (.val (.int k (bits op k a b))) H
 | .eql=>K (.val (.bool (a == b))) H
 | .neq=>K (.val (.bool (a != b))) H
 | .lss=>K (.val (.bool (decide (a<b)))) H
 | .leq=>K (.val (.bool (decide (a≤b)))) H
 | .gtr=>K (.val (.bool (decide (a>b)))) H
 | .geq=>K (.val (.bool (decide (a≥b)))) H
 | _=>False
def shiftK(op:BinOp)(k:IntKind)(a b:Int)(H:Heap)(K:Kont):Prop:=
 match op with
 | .shl=>0≤b∧K (.val (.int k (k.wrap (a*2 ^ (min b.toNat k.bits))))) H
 | .shr=>0≤b∧K (.val (.int k (a.fdiv (2 ^ (min b.toNat k.bits))))) H
 | _=>False
def isShift:BinOp→Bool
 | .shl | .shr=>true
 | _=>false
def strK(op:BinOp)(a b:ByteArray)(H:Heap)(K:Kont):Prop:=
 match op with
 | .eql=>K (.val (.bool (a.data.toList == b.data.toList))) H
 | .neq=>K (.val (.bool (!(a.data.toList == b.data.toList)))) H
 | .add=>((a.size+b.size:Nat):Int)≤9223372036854775807∧K (.val (.string (a++b))) H
 | _=>False
def binK(op:BinOp)(x y:D)(H:Heap)(K:Kont):Prop:=
 match x,y with
 | .val (.int k a),.val (.int k' b)=>if isShift op then shiftK op k a b H K else k=k'∧arithK op k a b H K
 | .val (.string a),.val (.string b)=>strK op a b H K
 | _,_=>False
def unK(op:UnOp)(x:D)(H:Heap)(K:Kont):Prop:=
 match op,x with
 | .not,.val (.bool b)=>K (.val (.bool (!b))) H
 | .neg,.val (.int .i64 n)=>inI64 (-n)∧K (.val (.int .i64 (-n))) H
 | .xor,.val (.int k n)=>K (.val (.int k (bits .xor k (if k.signed then -1 else k.max) n))) H
 | _,_=>False
def cellEq:Leaf→D→D→Option Bool
 | .int,.val (.int k a),.val (.int k' b)=>if k=k' then some (a == b)else none
 | .bool,.val (.bool a),.val (.bool b)=>some (a == b)
 | .str,.val (.string a),.val (.string b)=>some (a.data.toList == b.data.toList)
 | _,_,_=>none
def cellsEq:List Leaf→List D→List D→Option Bool
 | [],[],[]=>some true
 | l::ls,x::xs,y::ys=>match cellEq l x y,cellsEq ls xs ys with
  | some a,some b=>some (a&&b)
  | _,_=>none
 | _,_,_=>none
def eqK(isagg:Bool)(ls:List Leaf)(neg:Bool)(x y:D)(H:Heap)(K:Kont):Prop:=
 match isagg,x,y with
 | true,.agg a,.agg b=>match cellsEq ls a b with
  | some r=>K (.val (.bool (if neg then !r else r))) H
  | none=>False
 | false,x,y=>match cellsEq ls [x] [y]with
  | some r=>K (.val (.bool (if neg then !r else r))) H
  | none=>False
 | _,_,_=>False
def pickK(c a b:D)(H:Heap)(K:Kont):Prop:=
 match c with
 | .val (.bool x)=>K (if x then a else b) H
 | _=>False
def rowAt(H:Heap)(v k:Nat):Option (TypeId×List D):=match H[v]? with
 | some (.row t g cs)=>if g=k then some (t,cs)else none
 | _=>none
def ld1K(x:D)(H:Heap)(K:Kont):Prop:=
 match x with
 | .ptr v g o=>match rowAt H v g with
  | some (_,cs)=>match cs[o]? with
   | some d=>K d H
   | none=>False
  | none=>False
 | .fptr cs=>match cs[0]? with
  | some d=>K d H
  | none=>False
 | _=>False
def ldNK(n:Nat)(x:D)(H:Heap)(K:Kont):Prop:=
 match x with
 | .ptr v g o=>match rowAt H v g with
  | some (_,cs)=>o+n≤cs.length∧K (.agg ((cs.drop o).take n)) H
  | none=>False
 | .fptr cs=>n≤cs.length∧K (.agg (cs.take n)) H
 | _=>False
def st1K(a x:D)(H:Heap)(K:Kont):Prop:=
 match a with
 | .ptr v g o=>match rowAt H v g with
  | some (t,cs)=>o<cs.length∧one x=true∧K .any (H.set v (.row t g (cs.set o x)))
  | none=>False
 | _=>False
def stNK(n:Nat)(a x:D)(H:Heap)(K:Kont):Prop:=
 match a,cellsOf x with
 | .ptr v g o,some xs=>match rowAt H v g with
  | some (t,cs)=>xs.length=n∧o+n≤cs.length∧K .any (H.set v (.row t g (cs.take o++xs++cs.drop (o+n))))
  | none=>False
 | _,_=>False
def boxK(t:TypeId)(x:D)(al:Al)(K:Kont):Prop:=
 match cellsOf x with
 | some cs=>K (.ptr al.1 0 0) (al.2 (.row t 0 cs))
 | none=>False
def lay:List (Nat×Nat×List D)→List D→Option (List D)
 | [],cs=>some cs
 | (o,n,xs)::r,cs=>if xs.length=n∧o+n≤cs.length then lay r (cs.take o++xs++cs.drop (o+n))else none
def partsOf(env:EnvF):List (Nat×Nat×X)→Option (List (Nat×Nat×List D))
 | []=>some []
 | (o,n,x)::r=>match cellsOf (ev env x),partsOf env r with
  | some cs,some l=>some ((o,n,cs)::l)
  | _,_=>none
def buildK(env:EnvF)(z:List D)(ps:List (Nat×Nat×X))(H:Heap)(K:Kont):Prop:=
 match partsOf env ps with
 | some l=>match lay l z with
  | some cs=>K (.agg cs) H
  | none=>False
 | none=>False
def buildSlK(env:EnvF)(t sz:Nat)(z:List D)(n:Nat)(ps:List (Nat×X))(al:Al)(K:Kont):Prop:=
 match partsOf env (ps.map fun p=>(p.1*sz,sz,p.2))with
 | some l=>match lay l (List.replicate n z).flatten with
  | some cs=>K (.osl al.1 0 sz 0 n) (al.2 (.row t 0 cs))
  | none=>False
 | none=>False
def fieldAK(off:Nat)(x:D)(H:Heap)(K:Kont):Prop:=
 match x with
 | .ptr v g o=>K (.ptr v g (o+off)) H
 | .fptr cs=>K (.fptr (cs.drop off)) H
 | _=>False
def fieldK(off n:Nat)(isagg:Bool)(x:D)(H:Heap)(K:Kont):Prop:=
 match x with
 | .agg cs=>if isagg then off+n≤cs.length∧K (.agg ((cs.drop off).take n)) H else match cs[off]? with
  | some d=>K d H
  | none=>False
 | _=>False
def idxAK(sz:Nat)(x i:D)(H:Heap)(K:Kont):Prop:=
 match x,i with
 | .sl sz' es,.val (.int _ n)=>sz'=sz∧(0≤n∧n<es.length)∧K (.fptr (es.getD n.toNat [])) H
 | .osl v g sz' off len,.val (.int _ n)=>sz'=sz∧(0≤n∧n<len)∧K (.ptr v g ((off+n.toNat)*sz)) H
 | _,_=>False
def idxArrK(sz n:Nat)(x i:D)(H:Heap)(K:Kont):Prop:=
 match x,i with
 | .ptr v g o,.val (.int _ k)=>(0≤k∧k<n)∧K (.ptr v g (o+k.toNat*sz)) H
 | .fptr cs,.val (.int _ k)=>(0≤k∧k<n)∧K (.fptr (cs.drop (k.toNat*sz))) H
 | _,_=>False
def idxK(sz n:Nat)(isagg:Bool)(x i:D)(H:Heap)(K:Kont):Prop:=
 match x,i with
 | .agg cs,.val (.int _ k)=>(0≤k∧k<n)∧fieldK (k.toNat*sz) sz isagg (.agg cs) H K
 | _,_=>False
def idxStrK(x i:D)(H:Heap)(K:Kont):Prop:=
 match x,i with
 | .val (.string s),.val (.int _ k)=>(0≤k∧k<s.size)∧K (.val (.int .u8 ((s.data.toList.getD k.toNat 0).toNat))) H
 | _,_=>False
def mapAt(H:Heap)(v:Nat):Option (KK×List (Value×D)):=match H[v]? with
 | some (.map kk es)=>some (kk,es)
 | _=>none
def lookupK(kk':KK)(z:D)(ok:Bool)(m k:D)(H:Heap)(K:Kont):Prop:=
 match m,keyOf k with
 | .omap v,some kv=>match mapAt H v with
  | some (kk,es)=>kk=kk'∧kk.has kv=true∧(match mapGet es kv with
    | some d=>K (if ok then .tup [d,.val (.bool true)]else d) H
    | none=>K (if ok then .tup [z,.val (.bool false)]else z) H)
  | none=>False
 | _,_=>False
def mapUpdK(kk':KK)(m k x:D)(H:Heap)(K:Kont):Prop:=
 match m,keyOf k with
 | .omap v,some kv=>match mapAt H v with
  | some (kk,es)=>kk=kk'∧kk.has kv=true∧K .any (H.set v (.map kk (mapSet es kv x)))
  | none=>False
 | _,_=>False
def extK(x:D)(i:Nat)(H:Heap)(K:Kont):Prop:=
 match x with
 | .tup ds=>match ds[i]? with
  | some d=>K d H
  | none=>False
 | _=>False
def mkslK(t sz bytes:Nat)(z:List D)(l c:D)(al:Al)(K:Kont):Prop:=
 match l,c with
 | .val (.int _ n),.val (.int _ m)=>(0≤n∧n≤m∧m≤9223372036854775807∧(bytes:Int)*m≤281474976710656)∧K (.osl al.1 0 sz 0 n.toNat) (al.2 (.row t 0 (List.replicate m.toNat z).flatten))
 | _,_=>False
def boundOf(env:EnvF):Option X→Int→Option Int
 | none,n=>some n
 | some x,_=>match ev env x with
  | .val (.int _ n)=>some n
  | _=>none
def slcK(env:EnvF)(sz:Nat)(x:D)(lo hi:Option X)(H:Heap)(K:Kont):Prop:=
 match x with
 | .sl sz' es=>match boundOf env lo 0,boundOf env hi es.length with
  | some l,some h=>sz'=sz∧(0≤l∧l≤h∧h≤es.length)∧K (.sl sz ((es.drop l.toNat).take (h.toNat-l.toNat))) H
  | _,_=>False
 | .osl v g sz' off len=>match boundOf env lo 0,boundOf env hi len with
  | some l,some h=>sz'=sz∧(0≤l∧l≤h∧h≤len)∧K (.osl v g sz (off+l.toNat) (h.toNat-l.toNat)) H
  | _,_=>False
 | .emp=>match boundOf env lo 0,boundOf env hi 0 with
  | some l,some h=>(l=0∧h=0)∧K .emp H
  | _,_=>False
 | _=>False
def slcSK(env:EnvF)(x:D)(lo hi:Option X)(H:Heap)(K:Kont):Prop:=
 match x with
 | .val (.string s)=>match boundOf env lo 0,boundOf env hi s.size with
  | some l,some h=>(0≤l∧l≤h∧h≤s.size)∧K (.val (.string (s.extract l.toNat h.toNat))) H
  | _,_=>False
 | _=>False
def sliceCells(sz:Nat)(H:Heap):D→Option (List D×Nat)
 | .sl sz' es=>if sz'=sz then some (es.flatten,es.length)else none
 | .emp=>some ([],0)
 | .osl v g sz' off len=>match rowAt H v g with
  | some (_,cs)=>if sz'=sz∧(off+len)*sz≤cs.length then some ((cs.drop (off*sz)).take (len*sz),len)else none
  | none=>none
 | _=>none
def appK(t sz bytes:Nat)(x y:D)(H:Heap)(al:Al)(K:Kont):Prop:=
 match sliceCells sz H y with
 | some (ys,n)=>match x with
  | .osl v g sz' 0 len=>match rowAt H v g with
   | some (t',cs)=>(sz'=sz∧t'=t∧len*sz≤cs.length∧(len+n)*bytes≤140737488355328∧len+n≤9223372036854775807) ∧
     K (.osl v (g+1) sz 0 (len+n)) (H.set v (.row t (g+1) (cs.take (len*sz)++ys)))
   | none=>False
  | .emp=>if n=0 then K .emp H else(n*bytes≤140737488355328∧n≤9223372036854775807)∧K (.osl al.1 0 sz 0 n) (al.2 (.row t 0 ys))
  | _=>False
 | none=>False
def copyK(sz:Nat)(x y:D)(H:Heap)(K:Kont):Prop:=
 match x,sliceCells sz H y with
 | .osl v g sz' off len,some (ys,n)=>match rowAt H v g with
  | some (t,cs)=>(sz'=sz∧(off+len)*sz≤cs.length) ∧
    K (.val (.int .i64 (min n len:Nat))) (H.set v (.row t g (cs.take (off*sz)++ys.take (min n len*sz)++cs.drop (off*sz+min n len*sz))))
  | none=>False
 | .emp,some _=>K (.val (.int .i64 0)) H
 | _,_=>False
def lenK(k:LenOf)(x:D)(H:Heap)(K:Kont):Prop:=
 match k,x with
 | .slice,.sl _ es=>K (.val (.int .i64 es.length)) H
 | .slice,.emp=>K (.val (.int .i64 0)) H
 | .slice,.osl _ _ _ _ len=>K (.val (.int .i64 len)) H
 | .string,.val (.string s)=>K (.val (.int .i64 s.size)) H
 | .map,.omap v=>match mapAt H v with
  | some (_,es)=>K (.val (.int .i64 es.length)) H
  | none=>False
 | _,_=>False
def intsOf(env:EnvF):List X→Option (List Int)
 | []=>some []
 | x::r=>match ev env x,intsOf env r with
  | .val (.int .i64 n),some l=>some (n::l)
  | _,_=>none
def minmaxK(env:EnvF)(isMax:Bool)(xs:List X)(H:Heap)(K:Kont):Prop:=
 match intsOf env xs with
 | some [a,b]=>K (.val (.int .i64 (if isMax then max a b else min a b))) H
 | some [a,b,c]=>K (.val (.int .i64 (if isMax then max (max a b) c else min (min a b) c))) H
 | _=>False
def nilckK(x:D)(H:Heap)(K:Kont):Prop:=
 match x with
 | .ptr v g o=>K (.ptr v g o) H
 | .fptr cs=>K (.fptr cs) H
 | .fn (.func f) a b=>K (.fn (.func f) a b) H
 | .yld v=>K (.yld v) H
 | _=>False
def convK(k:IntKind)(x:D)(H:Heap)(K:Kont):Prop:=
 match x with
 | .val (.int _ n)=>K (.val (.int k (k.wrap n))) H
 | _=>False
def bytesOf:List D→Option (List Int)
 | []=>some []
 | .val (.int .u8 n)::r=>match bytesOf r with
  | some l=>some (n::l)
  | none=>none
 | _=>none
def b2sK(x:D)(H:Heap)(K:Kont):Prop:=
 match sliceCells 1 H x with
 | some (ys,_)=>match bytesOf ys with
  | some ns=>K (.val (.string (ns.foldl (fun r n=>r.push (UInt8.ofNat n.toNat)) ByteArray.empty))) H
  | none=>False
 | none=>False
def aop(env:EnvF)(H:Heap)(al:Al)(K:Kont):IOp→Prop
 | .mv x=>K (ev env x) H
 | .pick c a b=>pickK (ev env c) (ev env a) (ev env b) H K
 | .box t x=>boxK t (ev env x) al K
 | .alloc t z=>K (.ptr al.1 0 0) (al.2 (.row t 0 z))
 | .build z ps=>buildK env z ps H K
 | .buildSl t sz z n ps=>buildSlK env t sz z n ps al K
 | .ld1 x=>ld1K (ev env x) H K
 | .ldN n x=>ldNK n (ev env x) H K
 | .st1 a x=>st1K (ev env a) (ev env x) H K
 | .stN n a x=>stNK n (ev env a) (ev env x) H K
 | .nilck x=>nilckK (ev env x) H K
 | .arith op x y=>binK op (ev env x) (ev env y) H K
 | .eqS isagg ls neg x y=>eqK isagg ls neg (ev env x) (ev env y) H K
 | .un op x=>unK op (ev env x) H K
 | .conv k x=>convK k (ev env x) H K
 | .b2s x=>b2sK (ev env x) H K
 | .mkfn f first cap=>K (.fn f (first.map (ev env)) (cap.map (ev env))) H
 | .mkmap kk=>K (.omap al.1) (al.2 (.map kk []))
 | .mksl t sz bytes z l c=>mkslK t sz bytes z (ev env l) (ev env c) al K
 | .slc sz x lo hi=>slcK env sz (ev env x) lo hi H K
 | .slcS x lo hi=>slcSK env (ev env x) lo hi H K
 | .fieldA off x=>fieldAK off (ev env x) H K
 | .field off n isagg x=>fieldK off n isagg (ev env x) H K
 | .idxA sz x i=>idxAK sz (ev env x) (ev env i) H K
 | .idxArr sz n x i=>idxArrK sz n (ev env x) (ev env i) H K
 | .idx sz n isagg x i=>idxK sz n isagg (ev env x) (ev env i) H K
 | .idxStr x i=>idxStrK (ev env x) (ev env i) H K
 | .lookup kk z ok m k=>lookupK kk z ok (ev env m) (ev env k) H K
 | .mapUpd kk m k x=>mapUpdK kk (ev env m) (ev env k) (ev env x) H K
 | .ext x i=>extK (ev env x) i H K
 | .call _ _ | .callN _ _ | .callv _ _=>False
 | .app t sz bytes x y=>appK t sz bytes (ev env x) (ev env y) H al K
 | .copy sz x y=>copyK sz (ev env x) (ev env y) H K
 | .len k x=>lenK k (ev env x) H K
 | .minmax isMax xs=>minmaxK env isMax xs H K
 | .nilS .. | .capE .. | .appZ .. | .clr .. | .rangeS .. | .nextS .. | .rangeM .. | .nextM .. | .entry .. => False
def put(env:Env)(dst:Option Nat)(d:D):Env:=match dst with
 | some k=>(k,d)::env
 | none=>env
def Ctx.set(c:Ctx)(v k:Nat)(L:Loc):Ctx:={ c with ι:=fun u l=>if u=v∧l=k then some L else c.ι u l }
theorem Ctx.set_same(c:Ctx)(v k:Nat)(L:Loc):(c.set v k L).ι v k=some L:=by simp[Ctx.set]
theorem Ctx.set_ne(c:Ctx){v k u l:Nat}(L:Loc)(h:¬ (u=v∧l=k)):(c.set v k L).ι u l=c.ι u l:=by simp only[Ctx.set];rw[if_neg h]
structure New(H:Heap)(v:Nat)(ob:Ob)(H':Heap):Prop where
 get:∀ u,H'[u]? = if u=v then some ob else H[u]?
 free:H.length≤v∨H[v]? = some .hole
 len:H.length≤H'.length
theorem New.last(H:Heap)(ob:Ob):New H H.length ob (H ++ [ob]) where
 get u:=by
  split
  ·rename_i h;subst h;simp
  ·rename_i h
   rcases Nat.lt_or_ge u H.length with h1|h1
   ·rw[List.getElem?_append_left h1]
   ·rw[List.getElem?_eq_none (by simp;omega),List.getElem?_eq_none h1]
 free:=.inl (Nat.le_refl _)
 len:=by simp
theorem New.hole{H:Heap}{v:Nat}(h:H[v]? = some .hole)(ob:Ob):New H v ob (H.set v ob) where
 get u:=by
  have:=(List.getElem?_eq_some_iff.1 h).1
  rw[List.getElem?_set]
  split
  ·rename_i e;subst e;simp[this]
  ·rename_i e;rw[if_neg (Ne.symm e)]
 free:=.inr h
 len:=by simp
def AlOK(H:Heap)(al:Al):Prop:=∀ ob,New H al.1 ob (al.2 ob)
theorem AlOK.last(H:Heap):AlOK H (Al.last H):=fun ob=>New.last H ob
theorem AlOK.hole{H:Heap}{v:Nat}(h:H[v]? = some .hole):AlOK H (Al.hole H v):=fun ob=>New.hole h ob
structure Grew(w w':World):Prop where
 os:w'.os=w.os∧w.drawn≤w'.drawn
 tape:w'.tape=w.tape
 output:w'.output=w.output
 size:w.heap.size≤w'.heap.size
 kept:∀ b,b<w.heap.size→w'.heap[b]? = w.heap[b]?
theorem Grew.refl(w:World):Grew w w:=⟨⟨rfl,Nat.le_refl _⟩,rfl,rfl,Nat.le_refl _,fun _ _=>rfl⟩
theorem Grew.alloc(w:World)(o:Obj):Grew w (w.alloc o):=
 ⟨⟨rfl,Nat.le_refl _⟩,rfl,rfl,by simp,fun b h=>by simp only[World.alloc,Array.getElem?_push];rw[if_neg (by omega)]⟩
theorem Grew.trans{a b c:World}(h:Grew a b)(k:Grew b c):Grew a c:=
 ⟨⟨k.os.1.trans h.os.1,Nat.le_trans h.os.2 k.os.2⟩,k.tape.trans h.tape,k.output.trans h.output,Nat.le_trans h.size k.size,fun i hi=>(k.kept i (Nat.lt_of_lt_of_le hi h.size)).trans (h.kept i hi)⟩
theorem Grew.drew(w:World):Grew w w.drew:=⟨⟨rfl,Nat.le_succ _⟩,rfl,rfl,Nat.le_refl _,fun _ _=>rfl⟩
theorem step_grew(n:Nat){c:Ctx}{H:Heap}{w w':World}(hg:Grew w w'):Step n c H w c H w':=
 ⟨hg.os,hg.tape,hg.output,hg.size,rfl,fun _ h=>h,fun _ h=>.inl h,fun b hb _=>hg.kept b hb,fun _ _ _ _ h=>h,fun _ h=>.inr h⟩
theorem MapIs.mono{c c':Ctx}{w w':World}(hr:∀ v d,Rep c w v d→Rep c' w' v d){arr:Array MapEntry}{clock:Nat}{es:List (Value×D)}(h:MapIs c w arr clock es):MapIs c' w' arr clock es:=
 ⟨h.1,fun i e x he hx=>let ⟨a,b,d⟩:=h.2.1 i e x he hx;⟨a,hr _ _ b,d⟩,h.2.2⟩
theorem ObOK.keep{c c':Ctx}{w w':World}(hRT:c'.RT=c.RT)(hr:∀ v d,Rep c w v d→Rep c' w' v d){L:Option Loc}{o:Ob}
  (hb:∀ l,L=some l→l.virt=false→o.alive=true→w'.heap[l.b]? = w.heap[l.b]?) (h:ObOK c w L o):ObOK c' w' L o:=by
 cases o with
 | dead=>simp[ObOK]
 | hole=>simpa[ObOK]using h
 | row t g cs=>
  cases L with
  | none=>simp[ObOK]at h
  | some l=>
   simp only[ObOK]at h ⊢
   split
   ·rename_i hv;simpa[hv]using h
   ·rename_i hv
    simp only[hv]at h
    obtain⟨arr,h1,h2,h3,h4⟩:=h
    refine⟨arr,by rw[hb l rfl (by simpa using hv) rfl];exact h1,h2,h3,fun i d hd=>?_⟩
    obtain⟨v,hv1,hv2,hv3⟩:=h4 i d hd
    exact⟨v,hv1,hv2,hr _ _ hv3⟩
 | map kk es=>
  cases L with
  | none=>simp[ObOK]at h
  | some l=>
   simp only[ObOK]at h ⊢
   obtain⟨hv,hk,arr,clock,h1,h2⟩:=h
   exact⟨hv,hk,arr,clock,by rw[hb l rfl hv rfl];exact h1,h2.mono hr⟩
 | rcd rf env st=>
  cases L with
  | none=>simp[ObOK]at h
  | some l=>
   simp only[ObOK]at h ⊢
   obtain⟨hv,r,h1,h2,h3,h4⟩:=h
   exact⟨hv,r,by rw[hb l rfl hv rfl];exact h1,fun k=>hr _ _ (h2 k),by rw[hRT];exact h3,h4⟩
 | siter s p=>
  cases L with
  | none=>simp[ObOK]at h
  | some l=>
   simp only[ObOK]at h ⊢
   exact⟨h.1,h.2.1,by rw[hb l rfl h.1 rfl];exact h.2.2⟩
 | miter m since seen=>
  cases L with
  | none=>simp[ObOK]at h
  | some l=>
   simp only[ObOK]at h ⊢
   obtain⟨h1,h2,bm,h3,h4⟩:=h
   exact⟨h1,h2,bm,hr _ _ h3,by rw[hb l rfl h1 rfl];exact h4⟩
 | dfr=>
  cases L with
  | none=>simp[ObOK]at h
  | some l=>
   simp only[ObOK]at h ⊢
   by_cases hv:l.virt=true
   ·exact .inl hv
   ·exact .inr (by rw[hb l rfl (by simpa using hv) rfl];exact h.resolve_left hv)
theorem HOK.grew{G:GT}{c:Ctx}{H:Heap}{w w':World}(h:HOK G c H w)(hg:Grew w w'):HOK G c H w':=by
 have hs:=step_grew H.length (c:=c) (H:=H) hg
 have hr:∀ v d,Rep c w v d→Rep c w' v d:=fun v d hd=>hd.step0 h.toHeapOK hs
 exact{
  inj:=h.inj
  lt:=fun b hb=>Nat.lt_of_lt_of_le (h.lt b hb) hg.size
  nF:=h.nF
  Flt:=fun b hb=>Nat.lt_of_lt_of_le (h.Flt b hb) hg.size
  out:=h.out
  fut:=h.fut
  ob:=fun v o ho=>(h.ob v o ho).keep rfl hr fun l hl hv hd=>hg.kept _ (h.lt _ ⟨v,l,⟨o,ho,hd,hl⟩,hv,rfl⟩)
  gl:=fun g cs hg'=>let ⟨a,b⟩:=h.gl g cs hg';⟨a,hr _ _ b⟩
  rt:=h.rt }
structure Takes(H:Heap)(v:Nat)(ob:Ob)(H':Heap):Prop where
 get:∀ u,H'[u]? = if u=v then some ob else H[u]?
 free:H.length≤v∨H[v]? = some .hole∨∃ o,H[v]? = some o∧o.alive=true∧o.gen<ob.gen
 len:H.length≤H'.length
theorem New.takes{H:Heap}{v:Nat}{ob:Ob}{H':Heap}(h:New H v ob H'):Takes H v ob H':=⟨h.get,h.free.imp id .inl,h.len⟩
theorem takes_lies{c:Ctx}{H H':Heap}{v:Nat}{ob:Ob}{L:Loc}(ht:Takes H v ob H'){u:Nat}{l:Loc}(h:Lies (c.set v ob.gen L) H' u l) :
  (u=v∧l=L)∨(u≠v∧Lies c H u l):=by
 obtain⟨o,ho,ha,hι⟩:=h
 rw[ht.get]at ho
 split at ho
 ·rename_i e;cases ho;subst e;rw[Ctx.set_same]at hι;cases hι;exact .inl ⟨rfl,rfl⟩
 ·rename_i e
  rw[Ctx.set_ne _ _ (fun h=>e h.1)]at hι
  exact .inr ⟨e,o,ho,ha,hι⟩
theorem takes_free{G:GT}{c:Ctx}{H H':Heap}{w:World}{v:Nat}{ob:Ob}(h:HOK G c H w)(ht:Takes H v ob H')(k:Nat)(hk:ob.gen≤k):c.ι v k=none:=by
 rcases ht.free with hf|hf|⟨o,ho,ha,hg⟩
 ·exact h.out v k hf
 ·exact h.fut v _ k hf (.inl rfl)
 ·exact h.fut v o k ho (.inr ⟨ha,by omega⟩)
theorem takes_ι{G:GT}{c:Ctx}{H H':Heap}{w:World}{v:Nat}{ob:Ob}{L:Loc}(h:HOK G c H w)(ht:Takes H v ob H')(u k:Nat)(l:Loc)(hι:c.ι u k=some l):(c.set v ob.gen L).ι u k=some l:=by
 rw[Ctx.set_ne]
 ·exact hι
 ·rintro⟨rfl,rfl⟩
  rw[takes_free h ht _ (Nat.le_refl _)]at hι
  cases hι
theorem takes_step{G:GT}{c:Ctx}{H H':Heap}{w w':World}{v:Nat}{ob:Ob}(h:HOK G c H w)(ht:Takes H v ob H')(hg:Grew w w')(L:Loc)
  (hL:L.virt=false→w.heap.size≤L.b∧L.b<w'.heap.size):Step H.length c H w (c.set v ob.gen L) H' w' where
 os:=hg.os
 tape:=hg.tape
 output:=hg.output
 size:=hg.size
 RT:=rfl
 Fm _ h:=h
 Fn _ h:=.inl h
 kept b hb _:=hg.kept b hb
 old u k l _ hι:=takes_ι h ht u k l hι
 own b hb:=by
  obtain⟨u,l,hl,hv,e⟩:=hb
  rcases takes_lies ht hl with⟨_,rfl⟩|⟨_,hl⟩
  ·exact .inl (e▸(hL hv).1)
  ·exact .inr ⟨u,l,hl,hv,e⟩
theorem takes_ok{G:GT}{c:Ctx}{H H':Heap}{w w':World}{v:Nat}{ob:Ob}(h:HOK G c H w)(ht:Takes H v ob H')(hg:Grew w w')(L:Loc)
  (hL:L.virt=false→w.heap.size≤L.b∧L.b<w'.heap.size) (hal:ob.alive=true) (hob:ObOK (c.set v ob.gen L) w' (some L) ob):HOK G (c.set v ob.gen L) H' w':=by
 have hs:=takes_step h ht hg L hL
 have hr:∀ u d,Rep c w u d→Rep (c.set v ob.gen L) w' u d:=fun u d hd=>hd.step0 h.toHeapOK hs
 have hlt:∀ u l,Lies c H u l→l.virt=false→l.b<w.heap.size:=fun u l hl hv=>h.lt _ ⟨u,l,hl,hv,rfl⟩
 have hvlt:v<H'.length:=by
  have:=ht.get v
  rw[if_pos rfl]at this
  exact(List.getElem?_eq_some_iff.1 this).1
 exact{
  inj:=by
   intro u u' l l' h1 h2 h5 h6 he
   rcases takes_lies ht h1 with⟨rfl,rfl⟩|⟨_,b⟩<;>rcases takes_lies ht h2 with⟨rfl,rfl⟩|⟨_,b'⟩
   ·rfl
   ·have:=(hL h5).1;have:=hlt _ _ b' h6;omega
   ·have:=(hL h6).1;have:=hlt _ _ b h5;omega
   ·exact h.inj u u' l l' b b' h5 h6 he
  lt:=fun b hb=>by
   obtain⟨u,l,hl,hv,e⟩:=hb
   rcases takes_lies ht hl with⟨_,rfl⟩|⟨_,hl⟩
   ·exact e▸(hL hv).2
   ·exact e▸Nat.lt_of_lt_of_le (hlt u l hl hv) hg.size
  nF:=fun b hb hF=>by
   obtain⟨u,l,hl,hv,e⟩:=hb
   rcases takes_lies ht hl with⟨_,rfl⟩|⟨_,hl⟩
   ·have:=h.Flt b hF;have:=(hL hv).1;omega
   ·exact h.nF b ⟨u,l,hl,hv,e⟩ hF
  Flt:=fun b hb=>Nat.lt_of_lt_of_le (h.Flt b hb) hg.size
  out:=fun u k hu=>by
   rw[Ctx.set_ne _ _ (by rintro⟨rfl,_⟩;omega)]
   exact h.out u k (Nat.le_trans ht.len hu)
  fut:=fun u o k ho hk=>by
   rw[ht.get]at ho
   split at ho
   ·rename_i e
    cases ho;subst e
    rcases hk with rfl|⟨_,hk⟩
    ·cases hal
    ·rw[Ctx.set_ne _ _ (by rintro⟨_,rfl⟩;omega)];exact takes_free h ht k (by omega)
   ·rename_i e
    rw[Ctx.set_ne _ _ (fun h=>e h.1)]
    exact h.fut u o k ho hk
  ob:=fun u o ho=>by
   rw[ht.get]at ho
   split at ho
   ·rename_i e
    cases ho;subst e
    rw[Ctx.set_same];exact hob
   ·rename_i e
    rw[Ctx.set_ne _ _ (fun h=>e h.1)]
    exact ObOK.keep (c:=c) (c':=c.set v ob.gen L) rfl hr (fun l hl hv hd=>hg.kept _ (hlt u l ⟨o,ho,hd,hl⟩ hv)) (h.ob u o ho)
  gl:=fun g cs hg'=>let ⟨a,b⟩:=h.gl g cs hg';⟨a,hr _ _ b⟩
  rt:=h.rt }
structure Cells(c:Ctx)(w:World)(vs:List Value)(cs:List D):Prop where
 len:vs.length=cs.length
 one:∀ v∈vs,v.oneCell'=true
 rep:∀ (i:Nat) (v:Value) (d:D),vs[i]? = some v→cs[i]? = some d→Rep c w v d
theorem new_row{G:GT}{c:Ctx}{H H':Heap}{v gen:Nat}{w:World}(h:HOK G c H w)(w0:World)(hg:Grew w w0)(t:TypeId)(vs:List Value)(cs:List D)(n:Nat)(arr:Array Value)
  (ht:Takes H v (.row t gen cs) H') (hc:Cells c w vs cs) (ha:arr.toList.take n=vs) (hn:n≤arr.size) :
  ∃ L:Loc,L.virt=false∧L.b=w0.heap.size∧L.base=0∧L.top=arr.size ∧
   HOK G (c.set v gen L) H' (w0.alloc (.cells arr t))∧Step H.length c H w (c.set v gen L) H' (w0.alloc (.cells arr t)):=by
 have hgr:=hg.trans (Grew.alloc w0 (.cells arr t))
 refine⟨⟨w0.heap.size,0,arr.size,false⟩,rfl,rfl,rfl,rfl,?_⟩
 have hL:(⟨w0.heap.size,0,arr.size,false⟩:Loc).virt=false→w.heap.size≤(⟨w0.heap.size,0,arr.size,false⟩:Loc).b∧(⟨w0.heap.size,0,arr.size,false⟩:Loc).b<(w0.alloc (.cells arr t)).heap.size:=fun _=>⟨hg.size,by simp⟩
 have hs:=takes_step h ht hgr ⟨w0.heap.size,0,arr.size,false⟩ hL
 refine⟨takes_ok h ht hgr _ hL rfl ?_,hs⟩
 have hr:∀ u d,Rep c w u d→Rep (c.set v gen ⟨w0.heap.size,0,arr.size,false⟩) (w0.alloc (.cells arr t)) u d:=fun u d hd=>hd.step0 h.toHeapOK hs
 have hlen:cs.length=n:=by rw[← hc.len,← ha];simp;omega
 simp only[ObOK,Ob.gen]
 refine⟨arr,heap_alloc_new _ _,rfl,by simp;omega,fun i d hd=>?_⟩
 have hi:i<cs.length:=(List.getElem?_eq_some_iff.1 hd).1
 have hia:i<arr.size:=by omega
 refine⟨arr[i],by simp[hia],?_,?_⟩
 ·exact hc.one _ (by rw[← ha];exact List.mem_of_getElem? (i:=i) (by rw[List.getElem?_take];simp[hlen▸hi,hia]))
 ·exact hr _ _ (hc.rep i _ d (by rw[← ha,List.getElem?_take];simp[hlen▸hi,hia]) hd)
theorem set_get{H:Heap}{v:Nat}{ob:Ob}(hv:v<H.length)(u:Nat):(H.set v ob)[u]? = if u=v then some ob else H[u]? := by
 rw[List.getElem?_set]
 split
 ·rename_i e;subst e;simp[hv]
 ·rename_i e;rw[if_neg (Ne.symm e)]
theorem set_lies{c:Ctx}{H:Heap}{v:Nat}{ob ob':Ob}(hv:H[v]? = some ob)(ha:ob.alive=true)(hg:ob'.gen=ob.gen){u:Nat}{l:Loc}(h:Lies c (H.set v ob') u l):Lies c H u l:=by
 obtain⟨o,ho,hal,hι⟩:=h
 rw[set_get (List.getElem?_eq_some_iff.1 hv).1]at ho
 split at ho
 ·rename_i e;cases ho;subst e;exact⟨ob,hv,ha,by rw[← hg];exact hι⟩
 ·exact⟨o,ho,hal,hι⟩
theorem write_obj{G:GT}{c:Ctx}{H:Heap}{w:World}(h:HOK G c H w){v:Nat}{ob ob':Ob}(hv:H[v]? = some ob)(ha:ob.alive=true)(ha':ob'.alive=true)(hgen:ob'.gen=ob.gen){L:Loc}(hι:c.ι v ob.gen=some L)(hvirt:L.virt=false)
  {w':World} (hos:w'.os=w.os∧w.drawn≤w'.drawn) (htape:w'.tape=w.tape) (hout:w'.output=w.output) (hsize:w'.heap.size=w.heap.size)
  (hkeep:∀ b,b≠L.b→w'.heap[b]? = w.heap[b]?) (hob:(∀ u d,Rep c w u d→Rep c w' u d)→ObOK c w' (some L) ob') :
  HOK G c (H.set v ob') w'∧Step H.length c H w c (H.set v ob') w':=by
 have hlies:Lies c H v L:=⟨ob,hv,ha,hι⟩
 have hown:Owned c H L.b:=⟨v,L,hlies,hvirt,rfl⟩
 have hL:∀ u l,Lies c (H.set v ob') u l→Lies c H u l:=fun u l hl=>set_lies hv ha hgen hl
 have hOw:∀ b,Owned c (H.set v ob') b→Owned c H b:=fun b ⟨u,l,hl,r⟩=>⟨u,l,hL u l hl,r⟩
 have hs:Step H.length c H w c (H.set v ob') w':=
  ⟨hos,htape,hout,by omega,rfl,fun _ h=>h,fun _ h=>.inl h,fun b _ hn=>hkeep b (fun e=>hn (e▸hown)),fun _ _ _ _ h=>h,fun b hb=>.inr (hOw b hb)⟩
 have hr:∀ u d,Rep c w u d→Rep c w' u d:=fun u d hd=>hd.step0 h.toHeapOK hs
 refine⟨{
  inj:=fun u u' l l' h1 h2=>h.inj u u' l l' (hL _ _ h1) (hL _ _ h2)
  lt:=fun b hb=>by rw[hsize];exact h.lt b (hOw b hb)
  nF:=fun b hb=>h.nF b (hOw b hb)
  Flt:=fun b hb=>by rw[hsize];exact h.Flt b hb
  out:=fun u k hu=>h.out u k (by simpa using hu)
  fut:=fun u o k ho hk=>by
   rw[set_get (List.getElem?_eq_some_iff.1 hv).1]at ho
   split at ho
   ·rename_i e;cases ho;subst e
    rcases hk with rfl|⟨_,hk⟩
    ·cases ha'
    ·exact h.fut u ob k hv (.inr ⟨ha,by omega⟩)
   ·exact h.fut u o k ho hk
  ob:=fun u o ho=>by
   rw[set_get (List.getElem?_eq_some_iff.1 hv).1]at ho
   split at ho
   ·rename_i e
    cases ho;subst e
    rw[hgen,hι]
    exact hob hr
   ·rename_i hne
    exact(h.ob u o ho).keep rfl hr fun l hl hv' hd=>hkeep _ fun e=>hne (h.inj u v l L ⟨o,ho,hd,hl⟩ hlies hv' hvirt e)
  gl:=fun g cs hg'=>let ⟨a,b⟩:=h.gl g cs hg';⟨a,hr _ _ b⟩
  rt:=h.rt },hs⟩
theorem write_row{G:GT}{c:Ctx}{H:Heap}{w:World}(h:HOK G c H w){v g:Nat}{t:TypeId}{cs:List D}(hv:H[v]? = some (.row t g cs)){L:Loc}(hι:c.ι v g=some L)(hvirt:L.virt=false)
  {arr:Array Value} (harr:w.heap[L.b]? = some (.cells arr t (0,0))) (arr':Array Value) (hsz:arr'.size=arr.size) (htop:L.top=arr.size) (cs':List D) (hlen:L.base+cs'.length≤L.top)
  (hc:∀ (i:Nat) (d:D),cs'[i]? = some d→∃ u,arr'[L.base+i]? = some u∧u.oneCell'=true∧Rep c w u d) :
  HOK G c (H.set v (.row t g cs')) (w.setRow L.b arr')∧Step H.length c H w c (H.set v (.row t g cs')) (w.setRow L.b arr'):=by
 refine write_obj (w':=w.setRow L.b arr') (ob':=.row t g cs') h hv rfl rfl rfl hι hvirt ⟨rfl,Nat.le_refl _⟩ rfl rfl (by simp[World.setRow]) (fun b hb=>by simp only[World.setRow,Array.getElem?_modify];rw[if_neg (Ne.symm hb)]) fun hr=>?_
 simp only[ObOK,hvirt]
 refine⟨arr',setRow_heap w L.b arr _ t _ harr,by rw[htop,hsz],hlen,fun i d hd=>?_⟩
 obtain⟨x,hx1,hx2,hx3⟩:=hc i d hd
 exact⟨x,hx1,hx2,hr _ _ hx3⟩
def cell1:Value→D
 | .slice none 0 0=>.emp
 | v=>.val v
def constD:Value→Option D
 | .slice none 0 0=>some .emp
 | .agg cs=>if cs.all (·.oneCell')then some (.agg (cs.toList.map cell1))else none
 | .tuple _=>none
 | v=>some (.val v)
def cX(G:GT):Operand→Option X
 | .tmp t=>some (.t t)
 | .const v=>(constD v).map .c
 | .global g=>(G g).map fun cs=>.c (.fptr cs)
 | .func f=>some (.c (.fn (.func f) [] []))
def cXs(G:GT):List Operand→Option (List X)
 | []=>some []
 | x::r=>match cX G x,cXs G r with
  | some a,some l=>some (a::l)
  | _,_=>none
def cParts(G:GT):List (Nat×Operand)→Option (List (Nat×X))
 | []=>some []
 | (i,x)::r=>match cX G x,cParts G r with
  | some a,some l=>some ((i,a)::l)
  | _,_=>none
def cXo(G:GT):Option Operand→Option (Option X)
 | none=>some none
 | some x=>(cX G x).map some
def sizeT(P:Program)(t:TypeId):Option Nat:=(P.info? t).map (·.size)
def zeroT(P:Program)(t:TypeId):Option (List D):=match (P.info? t).bind (·.zero)with
 | some z=>if z.cells.all (·.oneCell')then some (z.cells.toList.map cell1)else none
 | none=>none
def aggT(P:Program)(t:TypeId):Option Bool:=match P.underlying t with
 | some (.struct _)|some (.array _ _)=>some true
 | some _=>some false
 | none=>none
def intT(P:Program)(t:TypeId):Bool:=match P.underlying t with
 | some (.int _)|some .string|some .bool=>true
 | _=>false
def boolT(P:Program)(t:TypeId):Bool:=match P.underlying t with
 | some .bool=>true
 | _=>false
def leafOf(P:Program)(t:TypeId):Option Leaf:=match P.underlying t with
 | some (.int _)=>some .int
 | some .string=>some .str
 | some .bool=>some .bool
 | _=>none
def eqFs(P:Program):Nat→List Field→Option (List Leaf)
 | _,[]=>some []
 | i,f::r=>match leafOf P f.type,eqFs P (i+1) r with
  | some l,some ls=>if f.offset=i∧f.name≠ "_" then some (l::ls)else none
  | _,_=>none
def eqTy(P:Program)(t:TypeId):Option (List Leaf):=match P.underlying t with
 | some (.struct fs)=>if P.stoodInHeld t=false∧P.eqGuardType P.depth t=false then eqFs P 0 fs.toList else none
 | _=>none
def placeParts(P:Program)(fs:Array Field):List (Nat×X)→Option (List (Nat×Nat×X))
 | []=>some []
 | (i,x)::r=>match fs[i]?,placeParts P fs r with
  | some f,some l=>(sizeT P f.type).map fun n=>(f.offset,n,x)::l
  | _,_=>none
def fieldsOK(P:Program)(fs:Array Field):Bool:=fs.all fun f=>(sizeT P f.type).isSome
def entersB(P:Program)(f:FuncId):Bool:=match P.funcs[f]? with
 | some fn=>fn.name != "runtime.NumGoroutine" && fn.body.isSome
 | none=>false
def kkOf(P:Program)(t:TypeId):Option KK:=match P.underlying t with
 | some (.int k)=>some (.int k)
 | some .string=>some .str
 | some .bool=>some .bool
 | _=>none
def zeroD(P:Program)(t:TypeId):Option D:=(P.info? t).bind fun i=>i.zero.bind constD
def compileOp(P:Program)(G:GT)(o:Oper):Option IOp:=
 match o.op with
 | .move x=>do let a ← cX G x;pure (.mv a)
 | .assign x=>do let a ← cX G x;pure (.mv a)
 | .pick c a b=>do pure (.pick (← cX G c) (← cX G a) (← cX G b))
 | .box e x=>do pure (.box e (← cX G x))
 | .alloc e=>do pure (.alloc e (← zeroT P e))
 | .build t ps=>do
  let z ← zeroT P t
  let l ← cParts G ps.toList
  match P.underlying t with
  | some (.struct fs)=>if fieldsOK P fs then do pure (.build z (← placeParts P fs l))else none
  | some (.array _ e)=>do
   let sz ← sizeT P e
   pure (.build z (l.map fun p=>(p.1*sz,sz,p.2)))
  | _=>none
 | .buildSlice t n ps=>do
  let .slice e ← P.underlying t|none
  let z ← zeroT P e
  let sz ← sizeT P e
  let l ← cParts G ps.toList
  if z.length=sz∧0<sz∧n*sz≤16777216 then pure (.buildSl e sz z n l)else none
 | .load t a=>do
  let x ← cX G a
  let n ← sizeT P t
  if ← aggT P t then pure (.ldN n x)else pure (.ld1 x)
 | .store t a v=>do
  let x ← cX G a
  let y ← cX G v
  let n ← sizeT P t
  if ← aggT P t then pure (.stN n x y)else if n=1 then pure (.st1 x y)else none
 | .nilCheck x=>do pure (.nilck (← cX G x))
 | .binOp op t x y _=>do
  let a ← cX G x
  let b ← cX G y
  match op with
  | .eql=>if boolT P t then pure (.eqS false [.bool] false a b)else if intT P t then pure (.arith .eql a b)else do pure (.eqS true (← eqTy P t) false a b)
  | .neq=>if boolT P t then pure (.eqS false [.bool] true a b)else if intT P t then pure (.arith .neq a b)else do pure (.eqS true (← eqTy P t) true a b)
  | op=>pure (.arith op a b)
 | .unOp op _ x=>do pure (.un op (← cX G x))
 | .convert s d x=>do
  let a ← cX G x
  let _ ← P.underlying s
  match P.underlying d with
  | some (.int k)=>pure (.conv k a)
  | some .string=>do
   let .slice e ← P.underlying s|none
   let .int .u8 ← P.underlying e|none
   pure (.b2s a)
  | _=>none
 | .makeFunc f first cap=>do pure (.mkfn f (← cXs G first.toList) (← cXs G cap.toList))
 | .makeMap t none=>do
  let .map k _ ← P.underlying t|none
  pure (.mkmap (← kkOf P k))
 | .lookup t x i ok=>do
  let .map k e ← P.underlying t|none
  let z ← zeroD P e
  pure (.lookup (← kkOf P k) z ok (← cX G x) (← cX G i))
 | .mapUpdate t m k v=>do
  let .map kt _ ← P.underlying t|none
  pure (.mapUpd (← kkOf P kt) (← cX G m) (← cX G k) (← cX G v))
 | .insert t m k v=>do
  let .map kt _ ← P.underlying t|none
  pure (.mapUpd (← kkOf P kt) (← cX G m) (← cX G k) (← cX G v))
 | .makeSlice t l c=>do
  let .slice e ← P.underlying t|none
  let z ← zeroT P e
  let i ← P.info? e
  if z.length=i.size∧0<i.size then pure (.mksl e i.size i.bytes z (← cX G l) (← cX G c))else none
 | .slice t x lo hi none=>do
  let a ← cX G x
  let l ← cXo G lo
  let h ← cXo G hi
  match P.underlying t with
  | some (.slice e)=>do pure (.slc (← sizeT P e) a l h)
  | some .string=>pure (.slcS a l h)
  | _=>none
 | .fieldAddr t x f=>do
  let a ← cX G x
  let .struct fs ← P.underlying t|none
  let fd ← fs[f]?
  let n ← sizeT P fd.type
  if 0<n then pure (.fieldA fd.offset a)else none
 | .field t x f=>do
  let a ← cX G x
  let .struct fs ← P.underlying t|none
  let fd ← fs[f]?
  let n ← sizeT P fd.type
  pure (.field fd.offset n (← aggT P fd.type) a)
 | .indexAddr t x i=>do
  let a ← cX G x
  let j ← cX G i
  match P.underlying t with
  | some (.slice e)=>do
   let n ← sizeT P e
   if 0<n then pure (.idxA n a j)else none
  | some (.array n e)=>do pure (.idxArr (← sizeT P e) n a j)
  | _=>none
 | .index t x i=>do
  let a ← cX G x
  let j ← cX G i
  match P.underlying t with
  | some (.array n e)=>do pure (.idx (← sizeT P e) n (← aggT P e) a j)
  | some .string=>pure (.idxStr a j)
  | _=>none
 | .extract x i=>do pure (.ext (← cX G x) i)
 | .call c=>do
  let args ← cXs G c.args.toList
  match c.callee with
  | .value (.func f)=>if entersB P f then pure (if G.nw f then .callN f args else .call f args)else none
  | .value f=>do pure (.callv (← cX G f) args)
  | .builtin .append=>match c.argTypes.toList,args with
   | [t,u],[x,y]=>do
    let .slice e ← P.underlying t|none
    let i ← P.info? e
    let z ← zeroT P e
    let .slice _ ← P.underlying u|none
    if z.length=i.size∧0<i.size then pure (.app e i.size i.bytes x y)else none
   | _,_=>none
  | .builtin .copy=>match c.argTypes.toList,args with
   | [t,u],[x,y]=>do
    let .slice e ← P.underlying t|none
    let .slice _ ← P.underlying u|none
    let n ← sizeT P e
    if 0<n then pure (.copy n x y)else none
   | _,_=>none
  | .builtin .len=>match c.argTypes.toList,args with
   | [t],[x]=>match P.underlying t with
    | some (.slice _)=>pure (.len .slice x)
    | some .string=>pure (.len .string x)
    | some (.map _ _)=>pure (.len .map x)
    | _=>none
   | _,_=>none
  | .builtin .max=>pure (.minmax true args)
  | .builtin .min=>pure (.minmax false args)
  | _=>none
 | _=>none
end Go.AL
namespace Go.AL
open Go
def RepEnv(c:Ctx)(w:World)(env:EnvF)(a:Act):Prop:=∀ k,Rep c w (a.tmps.getD k undef) (env k)
def Post(G:GT)(c:Ctx)(H:Heap)(w:World)(K:Kont)(v:Value)(w':World):Prop:=
 ∃ d H' c',K d H'∧HOK G c' H' w'∧Rep c' w' v d∧Step H.length c H w c' H' w'
section
variable{P:Program}{G:GT}{c:Ctx}{H:Heap}{w:World}{K:Kont}{env:EnvF}{a:Act}
theorem Post.plain(h:HOK G c H w){v:Value}{d:D}(hK:K d H)(hr:Rep c w v d):Post G c H w K v w:=
 ⟨d,H,c,hK,h,hr,Step.refl _ _ _ _⟩
theorem rep_cell1(v:Value):Rep c w v (cell1 v):=by
 unfold cell1
 split
 ·exact .emp
 ·exact .val _
theorem rep_constD{v:Value}{d:D}(h:constD v=some d):Rep c w v d:=by
 unfold constD at h
 split at h
 ·cases h;exact .emp
 ·rename_i cs
  split at h
  ·rename_i hall
   cases h
   have:=Rep.agg (c:=c) (w:=w) cs.toList (cs.toList.map cell1) (by simp) (fun v hv=>by
    have:=Array.all_eq_true_iff_forall_mem.1 hall v (by simpa using hv)
    exact this) (fun i v d hv hd=>by
    simp only[List.getElem?_map,hv,Option.map_some,Option.some.injEq]at hd
    subst hd
    exact rep_cell1 v)
   simpa using this
  ·cases h
 ·cases h
 ·cases h;exact .val _
theorem cX_ok(h:HOK G c H w)(he:RepEnv c w env a){x:Operand}{X:X}(hx:cX G x=some X):Rep c w (a.eval x) (ev env X):=by
 cases x with
 | tmp t=>cases hx;exact he t
 | const v=>
  simp only[cX,Option.map_eq_some_iff]at hx
  obtain⟨d,hd,rfl⟩:=hx
  exact rep_constD hd
 | global g=>
  simp only[cX,Option.map_eq_some_iff]at hx
  obtain⟨cs,hcs,rfl⟩:=hx
  exact(h.gl g cs hcs).2
 | func f=>cases hx;exact .fn (.func f) [] [] [] [] rfl rfl (by simp) (by simp)
theorem cXs_ok(h:HOK G c H w)(he:RepEnv c w env a):∀ (l:List Operand) {xs:List X},cXs G l=some xs→RepL c w (l.map a.eval) (xs.map (ev env))
 | [],xs,hx=>by cases hx;exact .nil
 | x::r,xs,hx=>by
  simp only[cXs]at hx
  split at hx
  ·rename_i X l hX hl
   cases hx
   exact .cons (cX_ok h he hX) (cXs_ok h he r hl)
  ·cases hx
theorem RepL.length{vs:List Value}{ds:List D}(h:RepL c w vs ds):vs.length=ds.length:=by
 induction h with
 | nil=>rfl
 | cons _ _ ih=>simp[ih]
theorem RepL.get{vs:List Value}{ds:List D}(h:RepL c w vs ds):∀ (i:Nat) (v:Value) (d:D),vs[i]? = some v→ds[i]? = some d→Rep c w v d:=by
 induction h with
 | nil=>intro i v d hv;simp at hv
 | cons h _ ih=>
  intro i v d hv hd
  cases i with
  | zero=>simp at hv hd;subst hv;subst hd;exact h
  | succ i=>simp at hv hd;exact ih i v d hv hd
theorem RepL.append{vs us:List Value}{ds es:List D}(h:RepL c w vs ds)(k:RepL c w us es):RepL c w (vs++us) (ds++es):=by
 induction h with
 | nil=>exact k
 | cons h _ ih=>exact .cons h ih
theorem RepL.of_get:∀ {vs:List Value} {ds:List D},vs.length=ds.length→(∀ (i:Nat) (v:Value) (d:D),vs[i]? = some v→ds[i]? = some d→Rep c w v d)→RepL c w vs ds
 | [],[],_,_=>.nil
 | v::vs,d::ds,hl,h=>.cons (h 0 v d rfl rfl) (RepL.of_get (by simpa using hl) fun i v d hv hd=>h (i+1) v d (by simpa using hv) (by simpa using hd))
theorem Cells.agg{vs:List Value}{cs:List D}(h:Cells c w vs cs):Rep c w (.agg vs.toArray) (.agg cs):=.agg vs cs h.len h.one h.rep
theorem Cells.drop{vs:List Value}{cs:List D}(h:Cells c w vs cs)(n:Nat):Cells c w (vs.drop n) (cs.drop n):=
 ⟨by simp[h.len],fun v hv=>h.one v (List.mem_of_mem_drop hv),fun i v d hv hd=>h.rep (n+i) v d (by simpa using hv) (by simpa using hd)⟩
theorem Cells.take{vs:List Value}{cs:List D}(h:Cells c w vs cs)(n:Nat):Cells c w (vs.take n) (cs.take n):=
 ⟨by simp[h.len],fun v hv=>h.one v (List.mem_of_mem_take hv),fun i v d hv hd=>by
  rw[List.getElem?_take]at hv hd
  split at hv
  ·rename_i hi;rw[if_pos hi]at hd;exact h.rep i v d hv hd
  ·cases hv⟩
theorem Cells.append{vs us:List Value}{cs ds:List D}(h:Cells c w vs cs)(k:Cells c w us ds):Cells c w (vs++us) (cs++ds):=
 ⟨by simp[h.len,k.len],fun v hv=>by
  rcases List.mem_append.1 hv with hv|hv
  ·exact h.one v hv
  ·exact k.one v hv,fun i v d hv hd=>by
  rw[List.getElem?_append]at hv hd
  split at hv
  ·rename_i hi;rw[if_pos (by rw[← h.len];exact hi)]at hd;exact h.rep i v d hv hd
  ·rename_i hi;rw[if_neg (by rw[← h.len];exact hi)]at hd;rw[← h.len]at hd;exact k.rep _ v d hv hd⟩
theorem Cells.nil:Cells c w [] []:=⟨rfl,by simp,by simp⟩
theorem Cells.get{vs:List Value}{cs:List D}(h:Cells c w vs cs){i:Nat}{d:D}(hd:cs[i]? = some d):∃ v,vs[i]? = some v∧v.oneCell'=true∧Rep c w v d:=by
 have hi:i<vs.length:=by rw[h.len];exact(List.getElem?_eq_some_iff.1 hd).1
 exact⟨vs[i],by simp[hi],h.one _ (List.getElem_mem hi),h.rep i _ d (by simp[hi]) hd⟩
def CellsAt(c:Ctx)(w:World)(b o:Nat)(cs:List D):Prop:=∃ vs,Cells c w vs cs∧∀ (j:Nat) (v:Value),vs[j]? = some v→w.cell? ⟨b,o+j,none⟩=some v
theorem CellsAt.drop{b o:Nat}{cs:List D}(h:CellsAt c w b o cs)(n:Nat):CellsAt c w b (o+n) (cs.drop n):=by
 obtain⟨vs,hc,hv⟩:=h
 exact⟨vs.drop n,hc.drop n,fun j v hj=>by rw[List.getElem?_drop]at hj;have:=hv _ _ hj;rwa [Nat.add_assoc]⟩
theorem CellsAt.take{b o:Nat}{cs:List D}(h:CellsAt c w b o cs)(n:Nat):CellsAt c w b o (cs.take n):=by
 obtain⟨vs,hc,hv⟩:=h
 refine⟨vs.take n,hc.take n,fun j v hj=>?_⟩
 rw[List.getElem?_take]at hj
 split at hj
 ·exact hv _ _ hj
 ·cases hj
theorem row_at(h:HOK G c H w){v g:Nat}{t:TypeId}{cs:List D}(hv:H[v]? = some (.row t g cs)){L:Loc}(hι:c.ι v g=some L)(hvirt:L.virt=false) :
  ∃ arr:Array Value,w.heap[L.b]? = some (.cells arr t (0,0))∧L.top=arr.size∧L.base+cs.length≤L.top∧Cells c w ((arr.toList.drop L.base).take cs.length) cs:=by
 have h0:=h.ob v _ hv
 simp only[Ob.gen]at h0
 rw[hι]at h0
 simp only[ObOK,hvirt]at h0
 obtain⟨arr,h1,h2,h3,h4⟩:=h0
 refine⟨arr,h1,h2,h3,⟨by simp;omega,fun u hu=>?_,fun i u d hu hd=>?_⟩⟩
 ·obtain⟨i,hi⟩:=List.mem_iff_getElem?.1 hu
  rw[List.getElem?_take]at hi
  split at hi
  ·rename_i hlt
   rw[List.getElem?_drop]at hi
   obtain⟨x,hx,h5,_⟩:=h4 i cs[i] (by simp[hlt])
   have:arr[L.base+i]? = some u:=by simpa using hi
   rw[hx]at this
   cases this
   exact h5
  ·cases hi
 ·rw[List.getElem?_take]at hu
  split at hu
  ·rw[List.getElem?_drop]at hu
   obtain⟨x,hx,_,h6⟩:=h4 i d hd
   have:arr[L.base+i]? = some u:=by simpa using hu
   rw[hx]at this
   cases this
   exact h6
  ·cases hu
theorem cellsAt_ptr(h:HOK G c H w){v g o:Nat}{t:TypeId}{cs:List D}(hv:H[v]? = some (.row t g cs)){u:Value}(hr:Rep c w u (.ptr v g o)) :
  ∃ b p,u = .pointer (some ⟨b,p,none⟩)∧CellsAt c w b p (cs.drop o):=by
 cases hr with
 | ptr _ _ _ L hι hvirt=>
  obtain⟨arr,h1,h2,h3,h4⟩:=row_at h hv hι hvirt
  refine⟨L.b,L.base+o,rfl,?_⟩
  refine CellsAt.drop ⟨_,h4,fun j x hx=>?_⟩ o
  rw[List.getElem?_take]at hx
  split at hx
  ·rw[List.getElem?_drop]at hx
   simp[World.cell?,h1]
   simpa using hx
  ·cases hx
theorem cellsAt_fptr{u:Value}{cs:List D}(hr:Rep c w u (.fptr cs)):∃ b p,u = .pointer (some ⟨b,p,none⟩)∧c.F b∧CellsAt c w b p cs:=by
 cases hr with
 | fptr b o _ g hF hc hr=>
  refine⟨b,o,rfl,hF,(List.range cs.length).map g,⟨by simp,fun v hv=>?_,fun i v d hv hd=>?_⟩,fun j v hv=>?_⟩
  ·simp only[List.mem_map,List.mem_range]at hv
   obtain⟨j,hj,rfl⟩:=hv
   exact(hc j cs[j] (by simp[hj])).2
  ·simp only[List.getElem?_map,Option.map_eq_some_iff,List.getElem?_range (List.getElem?_eq_some_iff.1 hd).1]at hv
   obtain⟨_,e,rfl⟩:=hv
   cases e
   exact hr i d hd
  ·have hj:j<cs.length:=by have:=(List.getElem?_eq_some_iff.1 hv).1;simpa using this
   simp only[List.getElem?_map,List.getElem?_range hj,Option.map_some,Option.some.injEq]at hv
   subst hv
   exact(hc j cs[j] (by simp[hj])).1
theorem fptr_of_cells{b o:Nat}{cs:List D}(hF:c.F b)(h:CellsAt c w b o cs):Rep c w (.pointer (some ⟨b,o,none⟩)) (.fptr cs):=by
 obtain⟨vs,hc,hv⟩:=h
 refine .fptr b o cs (fun j=>vs.getD j undef) hF (fun j d hd=>?_) (fun j d hd=>?_)
 ·obtain⟨u,hu,h1,_⟩:=hc.get hd
  simp only[List.getD,hu,Option.getD_some]
  exact⟨hv j u hu,h1⟩
 ·obtain⟨u,hu,_,h1⟩:=hc.get hd
  simp only[List.getD,hu,Option.getD_some]
  exact h1
theorem run_isAgg{t:TypeId}{b:Bool}(h:aggT P t=some b)(w:World):(isAgg t).run P w = .ok b w:=by
 unfold aggT at h
 unfold isAgg
 cases hu:P.underlying t with
 | none=>simp[hu]at h
 | some d=>cases d<;>simp[hu]at h<;>subst h<;>simp[run_underlying hu]
theorem run_sizeOf'{t:TypeId}{n:Nat}(h:sizeT P t=some n)(w:World):(sizeOf t).run P w = .ok n w:=by
 simp only[sizeT,Option.map_eq_some_iff]at h
 obtain⟨i,hi,rfl⟩:=h
 simp[sizeOf,typeInfo,hi]
theorem run_typeInfo{t:TypeId}{i:TypeInfo}(h:P.info? t=some i)(w:World):(typeInfo t).run P w = .ok i w:=by simp[typeInfo,h]
theorem run_zeroValue{t:TypeId}{z:List D}(h:zeroT P t=some z)(w:World):∃ v:Value,(zeroValue t).run P w = .ok v w∧(P.info? t).bind (·.zero)=some v ∧
  ∀ c w,Cells c w v.cells.toList z:=by
 unfold zeroT at h
 cases hi:P.info? t with
 | none=>simp[hi]at h
 | some i=>
  simp only[hi,Option.bind_some]at h
  cases hz:i.zero with
  | none=>simp[hz]at h
  | some v=>
   simp only[hz]at h
   split at h
   ·rename_i hall
    cases h
    refine⟨v,by simp[zeroValue,run_typeInfo hi,hz],by simp[hz],fun c w=>⟨by simp,fun u hu=>?_,fun i u d hu hd=>?_⟩⟩
    ·exact Array.all_eq_true_iff_forall_mem.1 hall u (by simpa using hu)
    ·simp only[List.getElem?_map,hu,Option.map_some,Option.some.injEq]at hd
     subst hd
     exact rep_cell1 u
   ·cases h
theorem run_loadAt1{t:TypeId}(ha:aggT P t=some false){b o:Nat}{cs:List D}(hc:CellsAt c w b o cs){d:D}(hd:cs[0]? = some d) :
  ∃ u,(Instr.loadAt t (.pointer (some ⟨b,o,none⟩))).run P w = .ok u w∧u.oneCell'=true∧Rep c w u d:=by
 obtain⟨vs,hcs,hv⟩:=hc
 obtain⟨u,hu,h1,h2⟩:=hcs.get hd
 have:=hv 0 u hu
 exact⟨u,by simp[Instr.loadAt,Instr.sureAddr,loadVar,run_isAgg ha];simp at this;simp[this],h1,h2⟩
theorem run_loadAtN{t:TypeId}{n:Nat}(ha:aggT P t=some true)(hs:sizeT P t=some n){b o:Nat}{cs:List D}(hc:CellsAt c w b o cs)(hn:n≤cs.length) :
  ∃ u,(Instr.loadAt t (.pointer (some ⟨b,o,none⟩))).run P w = .ok u w∧Rep c w u (.agg (cs.take n)):=by
 obtain⟨vs,hcs,hv⟩:=hc.take n
 have hl:vs.length=n:=by rw[hcs.len];simp;omega
 have:=run_loadCells_list (P:=P) w ⟨b,o,none⟩ vs (fun j v hj=>by rw[Addr.add_lit];exact hv j v hj)
 rw[hl]at this
 exact⟨.agg vs.toArray,by simp[Instr.loadAt,Instr.sureAddr,loadVar,run_isAgg ha,run_sizeOf' hs,this],hcs.agg⟩
theorem rowAt_some{v g:Nat}{x:TypeId×List D}(h:rowAt H v g=some x):H[v]? = some (.row x.1 g x.2):=by
 unfold rowAt at h
 split at h
 ·split at h
  ·rename_i e;subst e;cases h;assumption
  ·cases h
 ·cases h
theorem ok_ld1(h:HOK G c H w){t:TypeId}(ha:aggT P t=some false){x:D}{u:Value}(hr:Rep c w u x)(hk:ld1K x H K) :
  ∃ v,(Instr.loadAt t u).run P w = .ok v w∧Post G c H w K v w:=by
 unfold ld1K at hk
 split at hk
 ·rename_i v g o
  split at hk
  ·rename_i t' cs hrow
   have hv:=rowAt_some hrow
   split at hk
   ·rename_i d hd
    obtain⟨b,p,rfl,hc⟩:=cellsAt_ptr h hv hr
    obtain⟨u,hu,_,h2⟩:=run_loadAt1 ha hc (d:=d) (by simpa using hd)
    exact⟨u,hu,.plain h hk h2⟩
   ·exact hk.elim
  ·exact hk.elim
 ·rename_i cs
  split at hk
  ·rename_i d hd
   obtain⟨b,p,rfl,_,hc⟩:=cellsAt_fptr hr
   obtain⟨u,hu,_,h2⟩:=run_loadAt1 ha hc hd
   exact⟨u,hu,.plain h hk h2⟩
  ·exact hk.elim
 ·exact hk.elim
theorem ok_ldN(h:HOK G c H w){t:TypeId}{n:Nat}(ha:aggT P t=some true)(hs:sizeT P t=some n){x:D}{u:Value}(hr:Rep c w u x)(hk:ldNK n x H K) :
  ∃ v,(Instr.loadAt t u).run P w = .ok v w∧Post G c H w K v w:=by
 unfold ldNK at hk
 split at hk
 ·rename_i v g o
  split at hk
  ·rename_i t' cs hrow
   have hv:=rowAt_some hrow
   obtain⟨b,p,rfl,hc⟩:=cellsAt_ptr h hv hr
   obtain⟨u,hu,h2⟩:=run_loadAtN (n:=n) ha hs hc (by simp;omega)
   exact⟨u,hu,.plain h hk.2 h2⟩
  ·exact hk.elim
 ·rename_i cs
  obtain⟨b,p,rfl,_,hc⟩:=cellsAt_fptr hr
  obtain⟨u,hu,h2⟩:=run_loadAtN (n:=n) ha hs hc hk.1
  exact⟨u,hu,.plain h hk.2 h2⟩
 ·exact hk.elim
theorem ok_pick(h:HOK G c H w){x y z:D}{u v t:Value}(h1:Rep c w u x)(h2:Rep c w v y)(h3:Rep c w t z)(hk:pickK x y z H K) :
  ∃ b,u = .bool b∧Post G c H w K (if b then v else t) w:=by
 unfold pickK at hk
 split at hk
 ·rename_i b
  cases h1
  refine⟨b,rfl,.plain h hk ?_⟩
  cases b
  ·exact h3
  ·exact h2
 ·exact hk.elim
end
end Go.AL
namespace Go.AL
open Go
section
variable{P:Program}{G:GT}{c:Ctx}{H:Heap}{w:World}{K:Kont}{env:EnvF}{a:Act}
theorem wrap_i64{n:Int}(h:inI64 n):IntKind.i64.wrap n=n:=by
 unfold inI64 at h
 simp only[IntKind.wrap,IntKind.signed,IntKind.bits]
 simp
 omega
theorem Post.val(h:HOK G c H w){v:Value}(hK:K (.val v) H):Post G c H w K v w:=.plain h hK (.val _)
theorem ok_arith(h:HOK G c H w){op:BinOp}{k:IntKind}{x y:Int}(hk:arithK op k x y H K)(hs:op≠.shl∧op≠.shr)(t:TypeId)(xo yo:Operand) :
  ∃ v,(do eqGuard op t xo yo (.int k x) (.int k y);binOp op t (.int k x) (.int k y)).run P w = .ok v w∧Post G c H w K v w:=by
 have hg:(eqGuard op t xo yo (.int k x) (.int k y)).run P w = .ok () w:=by
  cases op<;>simp[eqGuard]
 simp only[Sem.run_bind,hg,Result.andThen_ok]
 cases op<;>simp only[arithK]at hk
 case add=>
  by_cases e:k = .i64
  ·subst e
   simp only[if_true]at hk
   exact⟨_,by simp[binOp,Op.intArith,wrap_i64 hk.1]<;>rfl,.val h hk.2⟩
  ·rw[if_neg e]at hk
   exact⟨_,by simp[binOp,Op.intArith]<;>rfl,.val h hk⟩
 case sub=>
  by_cases e:k = .i64
  ·subst e
   simp only[if_true]at hk
   exact⟨_,by simp[binOp,Op.intArith,wrap_i64 hk.1]<;>rfl,.val h hk.2⟩
  ·rw[if_neg e]at hk
   exact⟨_,by simp[binOp,Op.intArith]<;>rfl,.val h hk⟩
 case mul=>
  by_cases e:k = .i64
  ·subst e
   simp only[if_true]at hk
   exact⟨_,by simp[binOp,Op.intArith,wrap_i64 hk.1]<;>rfl,.val h hk.2⟩
  ·rw[if_neg e]at hk
   exact⟨_,by simp[binOp,Op.intArith]<;>rfl,.val h hk⟩
 case quo=>exact⟨_,by simp[binOp,Op.intDiv,hk.1]<;>rfl,.val h hk.2⟩
 case rem=>exact⟨_,by simp[binOp,Op.intDiv,hk.1]<;>rfl,.val h hk.2⟩
 case and=>exact⟨_,by simp[binOp,Op.intBits]<;>rfl,.val h (by simpa[bits]using hk)⟩
 case or=>exact⟨_,by simp[binOp,Op.intBits]<;>rfl,.val h (by simpa[bits]using hk)⟩
 case xor=>exact⟨_,by simp[binOp,Op.intBits]<;>rfl,.val h (by simpa[bits]using hk)⟩
 case andNot=>exact⟨_,by simp[binOp,Op.intBits]<;>rfl,.val h (by simpa[bits]using hk)⟩
 case eql=>exact⟨_,by simp[binOp,Op.intCmp]<;>rfl,.val h hk⟩
 case neq=>exact⟨_,by simp[binOp,Op.intCmp]<;>rfl,.val h hk⟩
 case lss=>exact⟨_,by simp[binOp,Op.intCmp]<;>rfl,.val h hk⟩
 case leq=>exact⟨_,by simp[binOp,Op.intCmp]<;>rfl,.val h hk⟩
 case gtr=>exact⟨_,by simp[binOp,Op.intCmp]<;>rfl,.val h hk⟩
 case geq=>exact⟨_,by simp[binOp,Op.intCmp]<;>rfl,.val h hk⟩
 all_goals exact absurd rfl (by first|exact hs.1|exact hs.2)
theorem ok_bin(h:HOK G c H w){op:BinOp}{x y:D}{u v:Value}(h1:Rep c w u x)(h2:Rep c w v y)(hk:binK op x y H K)(t:TypeId)(xo yo:Operand) :
  ∃ r,(do eqGuard op t xo yo u v;binOp op t u v).run P w = .ok r w∧Post G c H w K r w:=by
 unfold binK at hk
 split at hk
 ·cases h1;cases h2
  split at hk
  ·have key:∀ op,isShift op=true→op = .shl∨op = .shr:=fun op ho=>by cases op<;>simp[isShift]at ho<;>simp
   rename_i hs
   rcases key op hs with rfl|rfl
   ·simp only[shiftK]at hk
    have hn:=hk.1
    exact⟨_,by simp[eqGuard,binOp,Op.shift,Int.not_lt.2 hn]<;>rfl,.val h hk.2⟩
   ·simp only[shiftK]at hk
    have hn:=hk.1
    exact⟨_,by simp[eqGuard,binOp,Op.shift,Int.not_lt.2 hn]<;>rfl,.val h hk.2⟩
  ·rename_i hs
   obtain⟨rfl,hk⟩:=hk
   exact ok_arith h hk ⟨fun e=>by subst e;exact hs rfl,fun e=>by subst e;exact hs rfl⟩ t xo yo
 ·cases h1;cases h2
  rename_i p q
  cases op<;>simp only[strK]at hk
  case add=>exact⟨.string (p++q),by simp[eqGuard,binOp,run_string_add_sum w p q (by have:=hk.1;omega)],.val h hk.2⟩
  case eql=>exact⟨_,by simp[eqGuard,binOp,Op.stringOp,ByteArray.toList_eq]<;>rfl,.val h (by simpa using hk)⟩
  case neq=>exact⟨_,by simp[eqGuard,binOp,Op.stringOp,ByteArray.toList_eq]<;>rfl,.val h (by simpa using hk)⟩
 ·exact hk.elim
theorem ok_un(h:HOK G c H w){op:UnOp}{x:D}{u:Value}(h1:Rep c w u x)(hk:unK op x H K) :
  ∃ r,(Op.unary op u).run P w = .ok r w∧Post G c H w K r w:=by
 unfold unK at hk
 split at hk
 ·cases h1;exact⟨_,by simp[Op.unary]<;>rfl,.val h hk⟩
 ·cases h1
  rename_i n
  have:(0-n) = -n:=by omega
  exact⟨_,by simp[Op.unary,Op.intArith,wrap_i64 hk.1]<;>rfl,.val h hk.2⟩
 ·cases h1;exact⟨_,by simp[Op.unary,Op.intBits]<;>rfl,.val h (by simpa[bits]using hk)⟩
 ·exact hk.elim
theorem cellsOf_ok{d:D}{v:Value}{cs:List D}(hr:Rep c w v d)(hc:cellsOf d=some cs):Cells c w v.cells.toList cs:=by
 have key:∀ {v:Value} {d:D},Rep c w v d→v.oneCell'=true→v.cells = #[v]→Cells c w v.cells.toList [d]:=fun{v d} hr h1 hv=>by
  rw[hv]
  exact⟨rfl,by simpa using h1,fun i u e hu he=>by
   cases i with
   | zero=>simp at hu he;subst hu;subst he;exact hr
   | succ i=>simp at hu⟩
 cases hr with
 | any v=>simp[cellsOf]at hc
 | val v=>
  simp only[cellsOf]at hc
  split at hc
  ·rename_i h1
   cases hc
   refine key (.val v) h1 ?_
   cases v<;>first|rfl|(simp[Value.oneCell']at h1)
  ·cases hc
 | agg vs ds hl h1 h=>
  simp only[cellsOf,Option.some.injEq]at hc
  subst hc
  exact⟨by simpa[Value.cells]using hl,by simpa[Value.cells]using h1,fun i v d hv hd=>h i v d (by simpa[Value.cells]using hv) hd⟩
 | tup=>simp[cellsOf]at hc
 | sl a len cap sz es g h1 h2 h3 h4 h5 h6 h7=>simp only[cellsOf,Option.some.injEq]at hc;subst hc;exact key (.sl a len cap sz es g h1 h2 h3 h4 h5 h6 h7) rfl rfl
 | emp=>simp only[cellsOf,Option.some.injEq]at hc;subst hc;exact key .emp rfl rfl
 | osl v k sz off len cap L h1 h2 h3 h4 h5=>simp only[cellsOf,Option.some.injEq]at hc;subst hc;exact key (.osl v k sz off len cap L h1 h2 h3 h4 h5) rfl rfl
 | oslz v k sz off L h1 a=>simp only[cellsOf,Option.some.injEq]at hc;subst hc;exact key (.oslz v k sz off L h1 a) rfl rfl
 | ptr v k off L h1 h2=>simp only[cellsOf,Option.some.injEq]at hc;subst hc;exact key (.ptr v k off L h1 h2) rfl rfl
 | fptr b o cs g h1 h2 h3=>simp only[cellsOf,Option.some.injEq]at hc;subst hc;exact key (.fptr b o cs g h1 h2 h3) rfl rfl
 | omap v L h1 h2=>simp only[cellsOf,Option.some.injEq]at hc;subst hc;exact key (.omap v L h1 h2) rfl rfl
 | fn f fs cs df dc h1 h2 h3 h4=>simp only[cellsOf,Option.some.injEq]at hc;subst hc;exact key (.fn f fs cs df dc h1 h2 h3 h4) rfl rfl
 | yld v L h1 h2=>simp only[cellsOf,Option.some.injEq]at hc;subst hc;exact key (.yld v L h1 h2) rfl rfl
theorem one_cellsOf{d:D}(h:one d=true):cellsOf d=some [d]:=by
 cases d<;>first|rfl|(simp[one]at h;done)|skip
 rename_i v
 simp only[one]at h
 simp[cellsOf,h]
theorem ptr_new{L:Loc}(hv:L.virt=false)(h0:L.base=0)(v g:Nat):Rep (c.set v g L) w (.pointer (some ⟨L.b,0,none⟩)) (.ptr v g 0):=by
 have:=Rep.ptr (c:=c.set v g L) (w:=w) v g 0 L (Ctx.set_same _ _ _ _) hv
 simpa[h0]using this
theorem ok_newVar(h:HOK G c H w){al:Al}(hal:AlOK H al)(t:TypeId){v:Value}{cs:List D}(hc:Cells c w v.cells.toList cs)(hk:K (.ptr al.1 0 0) (al.2 (.row t 0 cs))) :
  ∃ w',(newVar t v).run P w = .ok ⟨w.heap.size,0,none⟩ w'∧Post G c H w K (.pointer (some ⟨w.heap.size,0,none⟩)) w':=by
 obtain⟨L,h1,h2,h3,h4,h5,h6⟩:=new_row h w (Grew.refl w) t v.cells.toList cs v.cells.size v.cells (hal _).takes hc (by rw[← Array.length_toList,List.take_length]) (Nat.le_refl _)
 refine⟨w.alloc (.cells v.cells t),by simp[newVar,newRow],?_⟩
 have hp:=ptr_new (c:=c) (w:=w.alloc (.cells v.cells t)) h1 h3 al.1 0
 rw[h2]at hp
 exact⟨_,_,_,hk,h5,hp,h6⟩
theorem ok_box(h:HOK G c H w){al:Al}(hal:AlOK H al)(t:TypeId){x:D}{u:Value}(h1:Rep c w u x)(hk:boxK t x al K) :
  ∃ r w',(Instr.box t u).run P w = .ok r w'∧Post G c H w K r w':=by
 unfold boxK at hk
 split at hk
 ·rename_i cs hcs
  obtain⟨w',hr,hp⟩:=ok_newVar (P:=P) h hal t (cellsOf_ok h1 hcs) hk
  exact⟨_,w',by simp[Instr.box,hr],hp⟩
 ·exact hk.elim
theorem ok_alloc(h:HOK G c H w){al:Al}(hal:AlOK H al){t:TypeId}{z:List D}(hz:zeroT P t=some z)(hk:K (.ptr al.1 0 0) (al.2 (.row t 0 z))) :
  ∃ r w',(Instr.alloc t true (.tuple #[])).run P w = .ok r w'∧Post G c H w K r w':=by
 obtain⟨v,hv,_,hc⟩:=run_zeroValue hz w
 obtain⟨w',hr,hp⟩:=ok_newVar (P:=P) h hal t (hc c w) hk
 exact⟨_,w',by simp[Instr.alloc,hv,hr],hp⟩
theorem Cells.splice{vs us:List Value}{cs ds:List D}(h:Cells c w vs cs)(k:Cells c w us ds)(o:Nat):Cells c w (vs.take o++us++vs.drop (o+us.length)) (cs.take o++ds++cs.drop (o+ds.length)):=by
 rw[k.len]
 exact((h.take o).append k).append (h.drop _)
theorem foldl_set(l:List Value):∀ (off:Nat) (cs:Array Value),off+l.length≤cs.size →
  ((l.zipIdx off).foldl (fun(cs:Array Value) (x:Value×Nat)=>cs.setIfInBounds x.2 x.1) cs).toList=cs.toList.take off++l++cs.toList.drop (off+l.length):=by
 induction l with
 | nil=>intro off cs _;simp
 | cons v r ih=>
  intro off cs h
  simp only[List.length_cons]at h
  simp only[List.zipIdx_cons,List.foldl_cons]
  rw[ih (off+1) _ (by simp;omega)]
  simp only[Array.toList_setIfInBounds]
  have:=list_seg_step cs.toList off v r (by simp;omega)
  simpa[Nat.add_assoc,Nat.add_comm 1]using this
theorem fill_step(cs:Array Value)(l:Array Value)(off:Nat)(h:off+l.size≤cs.size) :
  (l.zipIdx.foldl (fun(cs:Array Value) (x:Value×Nat)=>match x with|(c,j)=>cs.setIfInBounds (off+j) c) cs).toList=cs.toList.take off++l.toList++cs.toList.drop (off+l.size):=by
 have:=foldl_set l.toList off cs (by simpa using h)
 rw[← Array.foldl_toList,Array.toList_zipIdx]
 have e:(l.toList.zipIdx off)=(l.toList.zipIdx 0).map fun x=>(x.1,off+x.2):=by
  rw[List.zipIdx_eq_map_add]
  first|done|(simp only[Nat.add_comm])
 rw[e,List.foldl_map]at this
 exact this
theorem fill_ok(place:Nat→Option (Nat×Nat)):∀ (vs:List (Nat×Value)) (ps:List (Nat×Nat×List D)) (arr:Array Value) (cs rs:List D),
  Cells c w arr.toList cs→vs.length=ps.length →
  (∀ (i:Nat) (v:Nat×Value) (p:Nat×Nat×List D),vs[i]? = some v→ps[i]? = some p→place v.1=some (p.1,p.2.1)∧Cells c w v.2.cells.toList p.2.2) →
  lay ps cs=some rs→∃ arr',Instr.fill place arr vs=some arr'∧Cells c w arr'.toList rs
 | [],[],arr,cs,rs,hc,_,_,hl=>by simp[lay]at hl;subst hl;exact⟨arr,rfl,hc⟩
 | (i,v)::vs,(o,n,xs)::ps,arr,cs,rs,hc,hlen,h,hl=>by
  obtain⟨hp,hx⟩:=h 0 (i,v) (o,n,xs) rfl rfl
  simp only[lay]at hl
  split at hl
  ·rename_i hcond
   have hsz:v.cells.size=n:=by rw[← hcond.1,← hx.len];simp
   have hfit:o+v.cells.size≤arr.size:=by rw[hsz];have:=hc.len;simp at this;omega
   simp only[Instr.fill,hp]
   rw[if_neg (by simp;omega)]
   have hstep:=fill_step arr v.cells o hfit
   refine fill_ok place vs ps _ _ rs ?_ (by simpa using hlen) (fun i v p hv hp=>h (i+1) v p (by simpa using hv) (by simpa using hp)) hl
   rw[hstep]
   have:=hc.splice hx o
   rw[hcond.1]at this
   simpa[hsz]using this
  ·cases hl
theorem cParts_ok(h:HOK G c H w)(he:RepEnv c w env a):∀ (l:List (Nat×Operand)) {ps:List (Nat×X)},cParts G l=some ps →
  ps.length=l.length∧∀ (i:Nat) (x:Nat×Operand) (p:Nat×X),l[i]? = some x→ps[i]? = some p→p.1=x.1∧Rep c w (a.eval x.2) (ev env p.2)
 | [],ps,hx=>by cases hx;simp
 | (i,x)::r,ps,hx=>by
  simp only[cParts]at hx
  split at hx
  ·rename_i X l hX hl
   cases hx
   obtain⟨ih1,ih2⟩:=cParts_ok h he r hl
   refine⟨by simp[ih1],fun j y p hy hp=>?_⟩
   cases j with
   | zero=>simp at hy hp;subst hy;subst hp;exact⟨rfl,cX_ok h he hX⟩
   | succ j=>simp at hy hp;exact ih2 j y p hy hp
  ·cases hx
theorem placeParts_ok{fs:Array Field}:∀ {ps:List (Nat×X)} {qs:List (Nat×Nat×X)},placeParts P fs ps=some qs →
  qs.length=ps.length∧∀ (i:Nat) (p:Nat×X) (q:Nat×Nat×X),ps[i]? = some p→qs[i]? = some q→q.2.2=p.2∧∃ f,fs[p.1]? = some f∧q.1=f.offset∧sizeT P f.type=some q.2.1
 | [],qs,h=>by cases h;simp
 | (i,x)::r,qs,h=>by
  simp only[placeParts]at h
  split at h
  ·rename_i f l hf hl
   simp only[Option.map_eq_some_iff]at h
   obtain⟨n,hn,rfl⟩:=h
   obtain⟨ih1,ih2⟩:=placeParts_ok hl
   refine⟨by simp[ih1],fun j p q hp hq=>?_⟩
   cases j with
   | zero=>simp at hp hq;subst hp;subst hq;exact⟨rfl,f,hf,rfl,hn⟩
   | succ j=>simp at hp hq;exact ih2 j p q hp hq
  ·cases h
theorem partsOf_ok{l:List (Nat×Nat×X)}{r:List (Nat×Nat×List D)}(h:partsOf env l=some r) :
  r.length=l.length∧∀ (i:Nat) (p:Nat×Nat×X) (q:Nat×Nat×List D),l[i]? = some p→r[i]? = some q→q.1=p.1∧q.2.1=p.2.1∧cellsOf (ev env p.2.2)=some q.2.2:=by
 induction l generalizing r with
 | nil=>simp[partsOf]at h;subst h;simp
 | cons p l ih=>
  obtain⟨o,n,x⟩:=p
  simp only[partsOf]at h
  split at h
  ·rename_i cs l' hcs hl
   cases h
   obtain⟨ih1,ih2⟩:=ih hl
   refine⟨by simp[ih1],fun j p q hp hq=>?_⟩
   cases j with
   | zero=>simp at hp hq;subst hp;subst hq;exact⟨rfl,rfl,hcs⟩
   | succ j=>simp at hp hq;exact ih2 j p q hp hq
  ·cases h
theorem get_of_len{α:Type}{l:List α}{n i:Nat}(hl:l.length=n)(hi:i<n):∃ x,l[i]? = some x:=⟨l[i],by simp[hl▸hi]⟩
theorem ok_build(h:HOK G c H w)(he:RepEnv c w env a){t:TypeId}{z:List D}{ops:Array (Nat×Operand)}{ps:List (Nat×X)}{qs:List (Nat×Nat×X)}{fs:Array Field}
  (hz:zeroT P t=some z) (hp:cParts G ops.toList=some ps) (hu:P.underlying t=some (.struct fs)) (hf:fieldsOK P fs=true) (hq:placeParts P fs ps=some qs)
  (hk:buildK env z qs H K):∃ r,(Instr.build t (ops.map fun(i,x)=>(i,a.eval x))).run P w = .ok r w∧Post G c H w K r w:=by
 unfold buildK at hk
 split at hk
 ·rename_i l hl
  split at hk
  ·rename_i cs hcs
   obtain⟨v,hv,_,hc⟩:=run_zeroValue hz w
   obtain⟨p1,p2⟩:=cParts_ok h he ops.toList hp
   obtain⟨q1,q2⟩:=placeParts_ok hq
   obtain⟨r1,r2⟩:=partsOf_ok hl
   have hplaces:∃ places:Array (Nat×Nat),(fs.mapM fun f=>do pure (f.offset,← sizeOf f.type):Sem (Array (Nat×Nat))).run P w = .ok places w∧∀ (i:Nat) (f:Field) (n:Nat),fs[i]? = some f→sizeT P f.type=some n→places[i]? = some (f.offset,n):=by
    have key:∀ (l:List Field),(∀ f∈l,(sizeT P f.type).isSome=true)→∃ pl:List (Nat×Nat),(l.mapM fun f=>do pure (f.offset,← sizeOf f.type):Sem (List (Nat×Nat))).run P w = .ok pl w∧∀ (i:Nat) (f:Field) (n:Nat),l[i]? = some f→sizeT P f.type=some n→pl[i]? = some (f.offset,n):=by
     intro l
     induction l with
     | nil=>intro _;exact⟨[],by simp,by simp⟩
     | cons f l ih=>
      intro hall
      obtain⟨pl,hpl,hget⟩:=ih (fun g hg=>hall g (by simp[hg]))
      obtain⟨n,hn⟩:=Option.isSome_iff_exists.1 (hall f (by simp))
      refine⟨(f.offset,n)::pl,?_,fun i g m hg hm=>?_⟩
      ·simp only[List.mapM_cons,Sem.run_bind,run_sizeOf' hn,Result.andThen_ok,Sem.run_pure,hpl]
      ·cases i with
       | zero=>simp at hg;subst hg;rw[hn]at hm;cases hm;rfl
       | succ i=>simp at hg ⊢;exact hget i g m hg hm
    obtain⟨pl,hpl,hget⟩:=key fs.toList (fun f hf'=>Array.all_eq_true_iff_forall_mem.1 hf f (by simpa using hf'))
    refine⟨pl.toArray,?_,fun i f n hi hn=>by simpa using hget i f n (by simpa using hi) hn⟩
    rw[Array.mapM_eq_mapM_toList,Sem.run_map,hpl]
    rfl
   obtain⟨places,hpl,hget⟩:=hplaces
   obtain⟨arr',hfill,hcells⟩:=fill_ok (c:=c) (w:=w) (places[·]?) (ops.toList.map fun x=>(x.1,a.eval x.2)) l v.cells z cs (hc c w) (by simp[r1,q1,p1]) (fun i x q hx hqi=>by
    simp only[List.getElem?_map,Option.map_eq_some_iff]at hx
    obtain⟨y,hy,rfl⟩:=hx
    have hi:i<ops.toList.length:=(List.getElem?_eq_some_iff.1 hy).1
    obtain⟨p,hpi⟩:=get_of_len p1 hi
    obtain⟨s,hsi⟩:=get_of_len (q1.trans p1) hi
    obtain⟨e1,e2⟩:=p2 i y p hy hpi
    obtain⟨e3,f,hf1,hf2,hf3⟩:=q2 i p s hpi hsi
    obtain⟨e4,e5,e6⟩:=r2 i s q hsi hqi
    refine⟨?_,?_⟩
    ·rw[e1]at hf1
     have:=hget _ f _ hf1 hf3
     simp[this,e4,e5,hf2]
    ·rw[e3]at e6
     exact cellsOf_ok e2 e6) hcs
   refine⟨.agg arr',?_,?_⟩
   ·simp only[Instr.build,Sem.run_bind,hv,Result.andThen_ok,run_underlying hu,hpl]
    have:(Array.map (fun x=>(x.fst,a.eval x.snd)) ops).toList=ops.toList.map fun x=>(x.1,a.eval x.2):=by simp
    simp only[this,hfill]
    rfl
   ·have:=hcells.agg
    exact .plain h hk (by simpa using this)
  ·exact hk.elim
 ·exact hk.elim
theorem ok_buildArr(h:HOK G c H w)(he:RepEnv c w env a){t e:TypeId}{n sz:Nat}{z:List D}{ops:Array (Nat×Operand)}{ps:List (Nat×X)}
  (hz:zeroT P t=some z) (hp:cParts G ops.toList=some ps) (hu:P.underlying t=some (.array n e)) (hs:sizeT P e=some sz)
  (hk:buildK env z (ps.map fun p=>(p.1*sz,sz,p.2)) H K):∃ r,(Instr.build t (ops.map fun(i,x)=>(i,a.eval x))).run P w = .ok r w∧Post G c H w K r w:=by
 unfold buildK at hk
 split at hk
 ·rename_i l hl
  split at hk
  ·rename_i cs hcs
   obtain⟨v,hv,_,hc⟩:=run_zeroValue hz w
   obtain⟨p1,p2⟩:=cParts_ok h he ops.toList hp
   obtain⟨r1,r2⟩:=partsOf_ok hl
   obtain⟨arr',hfill,hcells⟩:=fill_ok (c:=c) (w:=w) (fun i=>some (i*sz,sz)) (ops.toList.map fun x=>(x.1,a.eval x.2)) l v.cells z cs (hc c w) (by simp[r1,p1]) (fun i x q hx hqi=>by
    simp only[List.getElem?_map,Option.map_eq_some_iff]at hx
    obtain⟨y,hy,rfl⟩:=hx
    have hi:i<ops.toList.length:=(List.getElem?_eq_some_iff.1 hy).1
    obtain⟨p,hpi⟩:=get_of_len p1 hi
    obtain⟨e1,e2⟩:=p2 i y p hy hpi
    obtain⟨e4,e5,e6⟩:=r2 i (p.1*sz,sz,p.2) q (by simp[hpi]) hqi
    exact⟨by simp[e4,e5,e1],cellsOf_ok e2 e6⟩) hcs
   refine⟨.agg arr',?_,?_⟩
   ·simp only[Instr.build,Sem.run_bind,hv,Result.andThen_ok,run_underlying hu,run_sizeOf' hs]
    have:(Array.map (fun x=>(x.fst,a.eval x.snd)) ops).toList=ops.toList.map fun x=>(x.1,a.eval x.2):=by simp
    simp only[this,hfill]
    rfl
   ·have:=hcells.agg
    exact .plain h hk (by simpa using this)
  ·exact hk.elim
 ·exact hk.elim
end
end Go.AL
namespace Go.AL
open Go
section
variable{P:Program}{G:GT}{c:Ctx}{H:Heap}{w:World}{K:Kont}{env:EnvF}{a:Act}
theorem osl_new{L:Loc}(hv:L.virt=false)(h0:L.base=0)(v k sz len cap:Nat)(ht:L.top=cap*sz)(hc:len≤cap)(hm:cap≤maxLen) :
  Rep (c.set v k L) w (.slice (some ⟨L.b,0,none⟩) len cap) (.osl v k sz 0 len):=by
 have:=Rep.osl (c:=c.set v k L) (w:=w) v k sz 0 len cap L (Ctx.set_same _ _ _ _) hv hc hm (by simp[h0,ht])
 simpa[h0]using this
theorem flatten_replicate_cells(zs:List Value)(z:List D)(hz:∀ c w,Cells c w zs z)(n:Nat):Cells c w (List.replicate n zs).flatten (List.replicate n z).flatten:=by
 induction n with
 | zero=>exact Cells.nil
 | succ n ih=>rw[List.replicate_succ,List.replicate_succ,List.flatten_cons,List.flatten_cons];exact(hz c w).append ih
theorem range_mod(zs:Array Value)(n:Nat)(h0:0<zs.size):((Array.range (n*zs.size)).map (fun i=>zs[i % zs.size]!)).toList=(List.replicate n zs.toList).flatten:=by
 apply List.ext_getElem?
 intro i
 simp only[Array.toList_map,Array.toList_range,List.getElem?_map]
 by_cases hi:i<n*zs.size
 ·rw[List.getElem?_range hi]
  have key:∀ (n i:Nat),i<n*zs.size→(List.replicate n zs.toList).flatten[i]? = some (zs[i % zs.size]!):=by
   intro n
   induction n with
   | zero=>intro i hi;simp at hi
   | succ n ih=>
    intro i hi
    rw[List.replicate_succ,List.flatten_cons]
    by_cases hl:i<zs.size
    ·rw[List.getElem?_append_left (by simpa using hl),Nat.mod_eq_of_lt hl]
     simp[hl]
    ·rw[List.getElem?_append_right (by simpa using hl)]
     have:i-zs.size<n*zs.size:=by rw[Nat.add_mul]at hi;omega
     rw[show i-zs.toList.length=i-zs.size by simp,ih _ this,← Nat.mod_eq_sub_mod (by omega)]
  rw[key n i hi]
  rfl
 ·rw[List.getElem?_eq_none (by simp;omega)]
  rw[List.getElem?_eq_none (by simp;omega)]
  rfl
theorem ok_buildSlice(h:HOK G c H w){al:Al}(hal:AlOK H al)(he:RepEnv c w env a){t e:TypeId}{sz n:Nat}{z:List D}{ops:Array (Nat×Operand)}{ps:List (Nat×X)}
  (hu:P.underlying t=some (.slice e)) (hz:zeroT P e=some z) (hs:sizeT P e=some sz) (hp:cParts G ops.toList=some ps) (hzl:z.length=sz) (hpos:0<sz) (hfit:n*sz≤16777216)
  (hk:buildSlK env e sz z n ps al K):∃ r w',(Instr.buildSlice t n (ops.map fun(i,x)=>(i,a.eval x))).run P w = .ok r w'∧Post G c H w K r w':=by
 unfold buildSlK at hk
 split at hk
 ·rename_i l hl
  split at hk
  ·rename_i cs hcs
   obtain⟨zv,hzv,_,hzc⟩:=run_zeroValue hz w
   obtain⟨p1,p2⟩:=cParts_ok h he ops.toList hp
   obtain⟨r1,r2⟩:=partsOf_ok hl
   have hzsz:zv.cells.size=sz:=by have:=(hzc c w).len;simp at this;omega
   have hstart:Cells c w ((Array.range (n*sz)).map (fun i=>zv.cells[i % zv.cells.size]!)).toList (List.replicate n z).flatten:=by
    rw[← hzsz,range_mod zv.cells n (by omega)]
    exact flatten_replicate_cells _ _ hzc n
   obtain⟨arr',hfill,hcells⟩:=fill_ok (c:=c) (w:=w) (fun i=>some (i*sz,sz)) (ops.toList.map fun x=>(x.1,a.eval x.2)) l _ _ cs hstart (by simp[r1,p1]) (fun i x q hx hqi=>by
    simp only[List.getElem?_map,Option.map_eq_some_iff]at hx
    obtain⟨y,hy,rfl⟩:=hx
    have hi:i<ops.toList.length:=(List.getElem?_eq_some_iff.1 hy).1
    obtain⟨p,hpi⟩:=get_of_len p1 hi
    obtain⟨e1,e2⟩:=p2 i y p hy hpi
    obtain⟨e4,e5,e6⟩:=r2 i (p.1*sz,sz,p.2) q (by simp[hpi]) hqi
    exact⟨by simp[e4,e5,e1],cellsOf_ok e2 e6⟩) hcs
   have hlen:arr'.size=n*sz:=by
    have h1:=hcells.len
    have h2:cs.length=(List.replicate n z).flatten.length:=by
     clear hk hcells hfill h1 hstart
     have key:∀ (ps:List (Nat×Nat×List D)) (cs rs:List D),lay ps cs=some rs→rs.length=cs.length:=by
      intro ps
      induction ps with
      | nil=>intro cs rs h;simp[lay]at h;subst h;rfl
      | cons p ps ih=>
       intro cs rs h
       obtain⟨o,m,xs⟩:=p
       simp only[lay]at h
       split at h
       ·rw[ih _ _ h];simp;omega
       ·cases h
     exact key _ _ _ hcs
    rw[h2]at h1
    simp[hzl]at h1
    exact h1
   obtain⟨L,h1,h2,h3,h4,h5,h6⟩:=new_row h w (Grew.refl w) e arr'.toList cs arr'.size arr' (hal _).takes hcells (by rw[← Array.length_toList,List.take_length]) (Nat.le_refl _)
   refine⟨.slice (some ⟨w.heap.size,0,none⟩) n n,w.alloc (.cells arr' e),?_,?_⟩
   ·have hsz2:¬ n*sz>2 ^ 24:=by omega
    simp only[Instr.buildSlice,Sem.run_bind,run_underlying hu,Result.andThen_ok,run_sizeOf' hs,Sem.run_ite]
    rw[if_neg hsz2]
    have hlist:(Array.map (fun x=>(x.fst,a.eval x.snd)) ops).toList=ops.toList.map fun x=>(x.1,a.eval x.2):=by simp
    by_cases h0:n*sz=0
    ·have hn:n=0:=by
      rcases Nat.mul_eq_zero.1 h0 with h|h<;>omega
     subst hn
     simp only[Nat.zero_mul]at hfill
     simp only[Nat.zero_mul,if_true,Sem.run_pure,Result.andThen_ok,hlist]
     have e0:(Array.map (fun x=>(#[]:Array Value)[x % (#[]:Array Value).size]!) (Array.range 0))=Array.map (fun i=>zv.cells[i % zv.cells.size]!) (Array.range 0):=by simp
     rw[e0,hfill]
     simp[newRow]
    ·rw[if_neg h0]
     simp only[Sem.run_bind,hzv,Result.andThen_ok,Sem.run_pure,hlist,hfill]
     simp[newRow]
   ·have hp:=osl_new (c:=c) (w:=w.alloc (.cells arr' e)) h1 h3 al.1 0 sz n n (by rw[h4,hlen]) (Nat.le_refl _) (by
     have:n≤n*sz:=Nat.le_mul_of_pos_right n hpos
     unfold maxLen;omega)
    rw[h2]at hp
    exact⟨_,_,_,hk,h5,hp,h6⟩
  ·exact hk.elim
 ·exact hk.elim
theorem run_storeAt{t:TypeId}{n:Nat}(hs:sizeT P t=some n){v:Value}(hv:v.cells.size=n)(b o:Nat) :
  (Instr.storeAt t (.pointer (some ⟨b,o,none⟩)) v).run P w=(storeCells ⟨b,o,none⟩ v.cells.toList).run P w:=by
 simp[Instr.storeAt,Instr.sureAddr,storeVar,run_sizeOf' hs,hv]
theorem ok_stores(h:HOK G c H w){v g o:Nat}{t t':TypeId}{cs xs:List D}(hv:H[v]? = some (.row t' g cs)){u x:Value}(hu:Rep c w u (.ptr v g o)){n:Nat}(hs:sizeT P t=some n)
  (hx:Cells c w x.cells.toList xs) (hn:xs.length=n) (hfit:o+n≤cs.length) (hk:K .any (H.set v (.row t' g (cs.take o++xs++cs.drop (o+n))))) :
  ∃ w',(Instr.storeAt t u x).run P w = .ok () w'∧Post G c H w K undef w':=by
 cases hu with
 | ptr _ _ _ L hι hvirt=>
  obtain⟨arr,h1,h2,h3,h4⟩:=row_at h hv hι hvirt
  have hxl:x.cells.size=n:=by have:=hx.len;simp at this;omega
  have hst:=run_storeCells_at P L.b (L.base+o) t' x.cells.toList 0 arr w h1 (by simp;omega) hx.one
  simp only[Nat.add_zero]at hst
  have hw:=write_row h hv hι hvirt h1 (arr.toList.take (L.base+o)++x.cells.toList++arr.toList.drop (L.base+o+x.cells.toList.length)).toArray
   (by simp;omega) h2 (cs.take o++xs++cs.drop (o+n)) (by simp;omega) (fun i d hd=>by
    have hsp:=h4.splice hx o
    rw[hn]at hsp
    obtain⟨y,hy,h5,h6⟩:=hsp.get hd
    refine⟨y,?_,h5,h6⟩
    rw[← hy]
    simp only[List.getElem?_toArray]
    have hxl':x.cells.toList.length=n:=by simpa using hxl
    have hl1:(List.take (L.base+o) arr.toList).length=L.base+o:=by simp;omega
    have hl2:(List.take o (List.take cs.length (List.drop L.base arr.toList))).length=o:=by simp;omega
    by_cases c1:i<o
    ·rw[List.getElem?_append_left (by simp;omega),List.getElem?_append_left (by rw[hl1];omega),List.getElem?_append_left (by simp;omega),List.getElem?_append_left (by rw[hl2];omega)]
     simp only[List.getElem?_take,List.getElem?_drop]
     rw[if_pos (by omega),if_pos c1,if_pos (by omega)]
    ·by_cases c2:i<o+n
     ·rw[List.getElem?_append_left (by simp;omega),List.getElem?_append_right (by rw[hl1];omega),List.getElem?_append_left (by simp;omega),List.getElem?_append_right (by rw[hl2];omega),hl1,hl2]
      congr 1
      omega
     ·have hd':i<cs.length:=by have:=(List.getElem?_eq_some_iff.1 hd).1;simp at this;omega
      rw[List.getElem?_append_right (by simp;omega),List.getElem?_append_right (by simp;omega)]
      simp only[List.getElem?_drop,List.getElem?_take,List.length_append,hl1,hl2,hxl']
      rw[if_pos (by omega)]
      congr 1
      omega)
  exact⟨_,by rw[run_storeAt hs hxl];exact hst,.any,_,c,hk,hw.1,.any _,hw.2⟩
theorem ok_st1(h:HOK G c H w){t:TypeId}(hs:sizeT P t=some 1){p x:D}{u v:Value}(h1:Rep c w u p)(h2:Rep c w v x)(hk:st1K p x H K) :
  ∃ w',(Instr.storeAt t u v).run P w = .ok () w'∧Post G c H w K undef w':=by
 unfold st1K at hk
 split at hk
 ·rename_i v0 g0 o
  split at hk
  ·rename_i t' cs hrow
   obtain⟨hlt,hone,hk⟩:=hk
   have hv:=rowAt_some hrow
   dsimp only at hv
   refine ok_stores h hv h1 hs (cellsOf_ok h2 (one_cellsOf hone)) rfl (by omega) ?_
   have e:cs.take o ++ [x]++cs.drop (o+1)=cs.set o x:=by
    rw[List.set_eq_take_append_cons_drop,if_pos hlt]
    simp
   rw[e]
   exact hk
  ·exact hk.elim
 ·exact hk.elim
theorem ok_stN(h:HOK G c H w){t:TypeId}{n:Nat}(hs:sizeT P t=some n){p x:D}{u v:Value}(h1:Rep c w u p)(h2:Rep c w v x)(hk:stNK n p x H K) :
  ∃ w',(Instr.storeAt t u v).run P w = .ok () w'∧Post G c H w K undef w':=by
 unfold stNK at hk
 split at hk
 ·rename_i v' g' o xs hxs
  split at hk
  ·rename_i t' cs hrow
   obtain⟨hn,hfit,hk⟩:=hk
   exact ok_stores h (rowAt_some hrow) h1 hs (cellsOf_ok h2 hxs) hn hfit hk
  ·exact hk.elim
 ·exact hk.elim
theorem ok_fieldAddr(h:HOK G c H w){t:TypeId}{f n:Nat}{fs:Array Field}{fd:Field}(hu:P.underlying t=some (.struct fs))(hf:fs[f]? = some fd)(hs:sizeT P fd.type=some n)(hn:0<n)
  {x:D} {u:Value} (h1:Rep c w u x) (hk:fieldAK fd.offset x H K):∃ r,(Instr.fieldAt t u f).run P w = .ok r w∧Post G c H w K r w:=by
 have hrun:∀ b o,(Instr.fieldAt t (.pointer (some ⟨b,o,none⟩)) f).run P w = .ok (.pointer (some ⟨b,o+fd.offset,none⟩)) w:=fun b o=>by
  simp only[Instr.fieldAt,Sem.run_bind,run_underlying hu,Result.andThen_ok,hf]
  simp only[Instr.sureAddr,Sem.run_pure,Result.andThen_ok,fieldPlace,Sem.run_bind,run_sizeOf' hs,Sem.run_ite]
  rw[if_neg (by omega)]
  simp[Addr.add_lit]
 unfold fieldAK at hk
 split at hk
 ·rename_i v g o
  cases h1 with
  | ptr _ _ _ L hι hv=>
   refine⟨_,hrun _ _,.plain h hk ?_⟩
   have:=Rep.ptr (c:=c) (w:=w) v g (o+fd.offset) L hι hv
   rwa [← Nat.add_assoc]at this
 ·obtain⟨b,p,rfl,hF,hc⟩:=cellsAt_fptr h1
  exact⟨_,hrun _ _,.plain h hk (fptr_of_cells hF (hc.drop _))⟩
 ·exact hk.elim
theorem ok_part(h:HOK G c H w){t:TypeId}{n:Nat}{b:Bool}(ha:aggT P t=some b)(hs:sizeT P t=some n){vs:List Value}{cs:List D}(hc:Cells c w vs cs){off:Nat}
  (hk:fieldK off n b (.agg cs) H K):∃ r,(part t vs.toArray off).run P w = .ok r w∧Post G c H w K r w:=by
 simp only[fieldK]at hk
 cases b with
 | true=>
  simp only[if_true]at hk
  refine⟨.agg ((vs.drop off).take n).toArray,?_,.plain h hk.2 ((hc.drop off).take n).agg⟩
  simp[part,run_isAgg ha,run_sizeOf' hs,List.extract_toArray,List.take_drop]
 | false=>
  simp only[Bool.false_eq_true,if_false]at hk
  split at hk
  ·rename_i d hd
   obtain⟨v,hv,_,hr⟩:=hc.get hd
   refine⟨v,?_,.plain h hk hr⟩
   simp[part,run_isAgg ha,hv]
  ·exact hk.elim
theorem ok_field(h:HOK G c H w){t:TypeId}{f n:Nat}{b:Bool}{fs:Array Field}{fd:Field}(hu:P.underlying t=some (.struct fs))(hf:fs[f]? = some fd)(ha:aggT P fd.type=some b)(hs:sizeT P fd.type=some n)
  {x:D} {u:Value} (h1:Rep c w u x) (hk:fieldK fd.offset n b x H K):∃ r,(Instr.field t u f).run P w = .ok r w∧Post G c H w K r w:=by
 have hx:∃ cs,x = .agg cs:=by cases x<;>first|exact⟨_,rfl⟩|exact(show False from hk).elim
 obtain⟨cs,rfl⟩:=hx
 cases h1 with
 | agg vs _ hl h1 h2=>
  obtain⟨r,hr,hp⟩:=ok_part h ha hs ⟨hl,h1,h2⟩ hk
  exact⟨r,by simp[Instr.field,run_underlying hu,hf,asAgg,hr],hp⟩
theorem ok_idxA(h:HOK G c H w){t e:TypeId}{sz:Nat}(hu:P.underlying t=some (.slice e))(hs:sizeT P e=some sz)(hpos:0<sz){x i:D}{u v:Value}(h1:Rep c w u x)(h2:Rep c w v i)(hk:idxAK sz x i H K) :
  ∃ r,(Instr.indexAt t u v).run P w = .ok r w∧Post G c H w K r w:=by
 have hrun:∀ (ad:Addr) (len cap:Nat) (k:IntKind) (n:Int),0≤n∧n<len→(Instr.indexAt t (.slice (some ad) len cap) (.int k n)).run P w = .ok (.pointer (some (ad.add (n.toNat*sz)))) w:=fun ad len cap k n hn=>by
  simp only[Instr.indexAt,Sem.run_bind,asIntOf,Sem.run_pure,Result.andThen_ok,run_underlying hu,run_sizeOf' hs,Sem.run_ite]
  rw[if_pos hn]
 unfold idxAK at hk
 split at hk
 ·rename_i sz' es k n
  obtain⟨rfl,hn,hk⟩:=hk
  cases h2
  cases h1 with
  | sl ad len cap _ _ g hlen hcap hmax hsz hnil hc hr=>
   have hi:n.toNat<es.length:=by omega
   cases ad with
   | none=>have:=hnil rfl;omega
   | some ad=>
    refine⟨_,hrun ad len cap k n ⟨hn.1,by omega⟩,.plain h hk ?_⟩
    have hget:es[n.toNat]? = some es[n.toNat]:=by simp[hi]
    have hgd:es.getD n.toNat []=es[n.toNat]:=by simp[hi]
    rw[hgd]
    have hl:es[n.toNat].length=sz':=hsz _ (List.getElem_mem hi)
    obtain⟨d0,hd0⟩:∃ d0,es[n.toNat][0]? = some d0:=⟨es[n.toNat][0]'(by omega),by simp⟩
    obtain⟨b,o,e,hF,_,_⟩:=hc n.toNat _ 0 d0 hget hd0
    cases e
    rw[Addr.add_lit]
    refine .fptr b (o+n.toNat*sz') _ (g n.toNat) hF (fun j d hd=>?_) (fun j d hd=>hr _ _ j d hget hd)
    obtain⟨b',o',e,_,h3,h4⟩:=hc n.toNat _ j d hget hd
    cases e
    exact⟨by rw[Nat.add_assoc];exact h3,h4⟩
 ·rename_i v0 g0 sz' off len k n
  obtain⟨rfl,hn,hk⟩:=hk
  cases h2
  cases h1 with
  | osl _ _ _ _ _ cap L hι hv hcap hmax htop=>
   refine⟨_,hrun _ len cap k n hn,.plain h hk ?_⟩
   rw[Addr.add_lit,Nat.add_assoc,← Nat.add_mul]
   exact .ptr _ _ _ L hι hv
  | oslz=>omega
 ·exact hk.elim
end
end Go.AL
