/- Part 1 of DisputeLocal. -/
import Derived.RangeFuncIn
import Derived.TacticsIn
import Derived.OrdersIn
import Derived.Laws.CopyRow
import Derived.Laws.AppendOwn
import Derived.Laws.OwnMore
import Derived.Laws.Concat
import Derived.Laws.Strings
import Derived.Laws.Slices
import Derived.Laws.StructEq
import Derived.Laws.BytesString
set_option linter.all false
namespace Go.AL
open Go
def ae:=@Option.bind_eq_some_iff
def af:=@List.getElem?_eq_some_iff
def ag:=@List.getElem?_append_left
def ah:=@Bool.and_eq_true
def ai:=@List.take_of_length_le
def aj:=@Option.map_eq_some_iff
def ak:=@Option.some.injEq
def ao:=@List.getElem?_append_right
def aq:=@List.getElem?_map
def ar:=@List.all_eq_true
def au:=@List.map_congr_left
def av:=@List.mem_cons
def aw:=@List.mem_map
def ax:=@Option.bind_eq_bind
def ay:=@List.length_pos_iff
def az:=@List.length_append
def aA:=@List.append_nil
def aB:=@List.length_eq_zero_iff
def aC:=@List.getElem?_take
def aD:=@List.getElem?_drop
def aF:=@Option.pure_def
def aG:=@List.mem_iff_getElem?
def aH:=@Option.map_some
def aI:=@List.length_take
def aJ:=@Nat.lt_of_lt_of_le
def aK:=@Array.getElem?_eq_some_iff
def aL:=@Option.getD_some
def aM:=@List.mem_of_getElem?
def aN:=@List.mem_of_mem_take
def aO:=@List.length_cons
def aP:=@List.mem_filter
def aQ:=@List.getElem?_eq_none
def aR:=@Nat.zero_add
def aS:=@List.mem_cons_of_mem
def aT:=@Nat.add_mul
def aU:=@List.flatten_cons
def aV:=@List.mem_flatten
def aW:=@List.eq_nil_of_length_eq_zero
def aX:=@List.length_drop
def aY:=@List.map_id
def aZ:=@List.append_assoc
def a7:=@Nat.add_assoc
def a8:=@Nat.lt_or_ge
def bf:=@Nat.mul_le_mul_right
def bg:=@List.mem_append_left
def bh:=@List.drop_of_length_le
def bj:=@List.pairwise_cons
def bk:=@Array.getElem?_modify
def bn:=@Array.getElem?_toList
def bp:=@List.mem_of_mem_drop
def bq:=@List.pairwise_iff_getElem
def br:=@Bool.false_eq_true
def bt:=@List.mem_flatMap
def bw:=@List.replicate_succ
def bx:=@List.flatMap_append
def bz:=@List.mem_append_right
def bA:=@List.getElem?_set
def bB:=@Array.getElem?_setIfInBounds_ne
def bC:=@List.mem_range
def bE:=@Array.toArray_toList
def bF:=@List.getElem_mem
def bG:=@List.drop_eq_getElem_cons
def bH:=@List.take_append_of_le_length
def bI:=@List.take_append_drop
def bJ:=@Array.getD_eq_getD_getElem?
def bK:=@List.pairwise_append
def bL:=@List.drop_eq_nil_of_le
def bM:=@List.ext_getElem?
def bN:=@Int.toNat_of_nonneg
def bO:=@List.nil_append
def bP:=@Bool.or_eq_true
def bQ:=@Nat.add_zero
def bR:=@Nat.succ_mul
def bS:=@Int.emod_lt_of_pos
def bT:=@List.drop_drop
def bU:=@Array.size_append
def bV:=@List.foldl_cons
def bW:=@Int.emod_nonneg
def bX:=@List.getElem?_range
def bY:=@Array.getElem?_append_left
def bZ:=@Array.all_eq_true_iff_forall_mem
def b6:=@List.mem_filterMap
def b7:=@Array.getElem?_eq_getElem
def b8:=@List.length_set
def b9:=@Nat.pow_le_pow_right
def cd:=@List.range'_succ
def cj:=@List.countP_cons
def ct:=@List.ext_getElem
def cu:=@Nat.zero_mul
def cv:=@List.map_map
def cy:=@List.countP_append
def cz:=@Nat.eq_of_beq_eq_true
def cA:=@Option.some.inj
def cD:=@Bool.decide_and
def cE:=@Nat.le_of_ble_eq_true
def cF:=@Classical.choose_spec
def cG:=@List.size_toArray
def cH:=@List.set_eq_take_append_cons_drop
def cI:=@Nat.mul_one
def cJ:=@Option.isSome_iff_exists
def cK:=@List.isEmpty_iff
def cL:=@List.cons_append
def cM:=@Array.length_toList
def cN:=@Array.toList_append
def cO:=@List.length_nil
def cP:=@List.eq_nil_iff_forall_not_mem
def cQ:=@List.cons.injEq
def cS:=@Prod.ext
def cT:=@List.nodup_append
def cU:=@List.getElem?_toArray
def cV:=@List.contains_iff_mem
def cW:=@List.countP_le_length
def cY:=@List.range_eq_range'
def cZ:=@List.not_mem_nil
def c8:=@Prod.mk.injEq
def c9:=@List.mem_take_iff_getElem
def da:=@List.Sublist.append_left
def db:=@Nat.mul_comm
def de:=@Int.add_sub_cancel
def dg:=@List.length_filterMap_le
def dh:=@Option.toList_some
def di:=@List.take_take
def dj:=@List.drop_zero
def dm:=@List.take_add_one
def dp:=@Int.le_refl
def dq:=@List.findIdx?_eq_some_iff_getElem
def dt:=@Array.getElem?_eq_none
def du:=@List.sublist_cons_self
def dv:=@List.filter_eq_nil_iff
def dw:=@List.append_eq_nil_iff
def dy:=@List.take_length
def dz:=@Array.mem_filter
def dA:=@List.flatten_nil
def dB:=@Ne.symm
def dC:=@Iff.rfl
def dD:=@Nat.add_comm
def dE:=@Nat.pow_succ
def dF:=@List.drop_append_of_le_length
def dH:=@Array.getElem?_push
def dJ:=@Nat.mul_le_mul_left
def dK:=@List.flatten_append
def dM:=@List.mapM_cons
def dO:=@List.take_zero
def dQ:=@Int.toNat_zero
def dR:=@List.mem_cons_self
def dS:=@Nat.eq_zero_or_pos
def dT:=@List.map_replicate
def dV:=@Int.add_assoc
def dW:=@List.exists_cons_of_ne_nil
def dX:=@Function.comp_def
def dY:=@Int.toNat_natCast
def dZ:=@Array.mapM_eq_mapM_toList
def ea:=@Array.ext'
def ec:=@List.findIdx?_eq_none_iff
def ef:=@List.mem_or_eq_of_mem_set
def ei:=@Nat.mod_eq_of_lt
def ej:=@Nat.sub_zero
def eo:=@List.nodup_range
def et:=@Nat.mul_le_mul_right_iff
def eu:=@List.length_erase_of_mem
def ew:=@Array.toList_inj
def ey:=@List.getElem?_cons_succ
def eA:=@List.getElem?_replicate
def eC:=@List.append_inj
def eD:=@List.length_pos_of_mem
def eE:=@Array.getElem?_mapIdx
def eF:=@List.singleton_append
def eG:=@Bool.decide_or
def eH:=@List.Pairwise.sublist
def eI:=@List.perm_append_comm
def eJ:=@List.length_replicate
def eM:=@Int.not_lt
def eN:=@Nat.not_lt
def eO:=@List.map_drop
def eP:=@Nat.mul_assoc
def eQ:=@Nat.min_zero
def eR:=@Nat.sub_self
def eS:=@Int.le_trans
def eT:=@Prod.ext_iff
def ot{A P:Prop}(k:P)(a:A:=by first|omega|(dsimp only;omega)):A∧P:=⟨a,k⟩
def ql{A B P:Prop}(k:P)(a:A:=by first|omega|(dsimp only;omega))(b:B:=by first|omega|(dsimp only;omega)):A∧B∧P:=⟨a,b,k⟩
def fQ{A B C P:Prop}(k:P)(a:A:=by first|omega|(dsimp only;omega))(b:B:=by first|omega|(dsimp only;omega))(c:C:=by first|omega|(dsimp only;omega)):A∧B∧C∧P:=⟨a,b,c,k⟩
def wm{A B C D P:Prop}(k:P)(a:A:=by first|omega|(dsimp only;omega))(b:B:=by first|omega|(dsimp only;omega))(c:C:=by first|omega|(dsimp only;omega))(d:D:=by first|omega|(dsimp only;omega)):A∧B∧C∧D∧P:=⟨a,b,c,d,k⟩
def jG{A B:Prop}(a:A:=by first|omega|(dsimp only;omega))(b:B:=by first|omega|(dsimp only;omega)):A∧B:=⟨a,b⟩
def mW{A B C:Prop}(a:A:=by first|omega|(dsimp only;omega))(b:B:=by first|omega|(dsimp only;omega))(c:C:=by first|omega|(dsimp only;omega)):A∧B∧C:=⟨a,b,c⟩
inductive D where
 | any
 | val (v:Value)
 | agg (cs:List D)
 | tup (cs:List D)
 | sl (sz:Nat) (es:List (List D))
 | eU
 | lA (vs:List Value)
 | eX (v g sz off len:Nat)
 | ptr (v g off:Nat)
 | fj (cs:List D)
 | gF (v:Nat)
 | fn (fn:Fn) (first captured:List D)
 | iA (v:Nat)
 deriving Inhabited
abbrev D.i(n:Int):D:=.val (.int .i64 n)
abbrev D.b(x:Bool):D:=.val (.bool x)
abbrev Env:=List (Nat×D)
def Env.get:Env→Nat→D
 | [],_=>.any
 | (k,d)::r,j=>match Nat.beq k j with
  | true=>d
  | false=>Env.get r j
def Env.sZ(k:Nat)(d:D)(r:Env)(j:Nat):Env.get ((k,d)::r) j=if k=j then d else Env.get r j:=by
 simp only[Env.get]
 by_cases h:k=j
 ·rw[if_pos h,h,Nat.beq_refl]
 ·have:Nat.beq k j=false:=by
   cases hb:Nat.beq k j with
   | false=>rfl
   | true=>exact absurd (cz hb) h
  rw[if_neg h,this]
structure Loc where
 b:Nat
 base:Nat
 top:Nat
 jc:Bool:=false
structure Ctx where
 ι:Nat→Nat→Option Loc
 F:Nat→Prop
 RT:Nat→Option (Nat×Array Tmp×Code×Code)
inductive eW(c:Ctx)(w:World):Value→D→Prop
 | any (v:Value):eW c w v .any
 | val (v:Value):eW c w v (.val v)
 | agg (vs:List Value) (ds:List D) (hl:vs.length=ds.length) (h1:∀ v∈vs,v.oneCell'=true)
   (h:∀ (i:Nat) (v:Value) (d:D),vs[i]? = some v→ds[i]? = some d→eW c w v d):eW c w (.agg vs.toArray) (.agg ds)
 | tup (vs:List Value) (ds:List D) (hl:vs.length=ds.length)
   (h:∀ (i:Nat) (v:Value) (d:D),vs[i]? = some v→ds[i]? = some d→eW c w v d):eW c w (.tuple vs.toArray) (.tup ds)
 | sl (a:Option Addr) (len cap sz:Nat) (es:List (List D)) (g:Nat→Nat→Value)
   (hlen:es.length=len) (ju:len≤cap) (ix:cap≤maxLen) (gV:∀ e∈es,e.length=sz)
   (kC:a=none→cap=0)
   (hc:∀ (i:Nat) (e:List D) (j:Nat) (d:D),es[i]? = some e→e[j]? = some d→∃ b o,a=some ⟨b,o,none⟩∧c.F b∧w.cell? ⟨b,o+(i*sz+j),none⟩=some (g i j)∧(g i j).oneCell'=true)
   (hr:∀ (i:Nat) (e:List D) (j:Nat) (d:D),es[i]? = some e→e[j]? = some d→eW c w (g i j) d):eW c w (.slice a len cap) (.sl sz es)
 | eU:eW c w (.slice none 0 0) .eU
 | lA (a:Option Addr) (vs:List Value) (ix:vs.length≤maxLen) (kC:a=none→vs = [])
   (hc:∀ (i:Nat) (v:Value),vs[i]? = some v→∃ b o,a=some ⟨b,o,none⟩∧c.F b∧w.cell? ⟨b,o+i,none⟩=some v∧v.oneCell'=true):eW c w (.slice a vs.length vs.length) (.lA vs)
 | eX (v k sz off len cap:Nat) (L:Loc) (e9:c.ι v k=some L) (hv:L.jc=false) (ju:len≤cap) (ix:cap≤maxLen)
   (lJ:L.base+(off+cap)*sz≤L.top):eW c w (.slice (some ⟨L.b,L.base+off*sz,none⟩) len cap) (.eX v k sz off len)
 | lE (v k sz off:Nat) (L:Loc) (e9:c.ι v k=some L) (a:Option Addr):eW c w (.slice a 0 0) (.eX v k sz off 0)
 | ptr (v k off:Nat) (L:Loc) (e9:c.ι v k=some L) (hv:L.jc=false):eW c w (.pointer (some ⟨L.b,L.base+off,none⟩)) (.ptr v k off)
 | fj (b o:Nat) (cs:List D) (g:Nat→Value) (hF:c.F b)
   (hc:∀ (j:Nat) (d:D),cs[j]? = some d→w.cell? ⟨b,o+j,none⟩=some (g j)∧(g j).oneCell'=true)
   (hr:∀ (j:Nat) (d:D),cs[j]? = some d→eW c w (g j) d):eW c w (.pointer (some ⟨b,o,none⟩)) (.fj cs)
 | gF (v:Nat) (L:Loc) (e9:c.ι v 0=some L) (hv:L.jc=false):eW c w (.map (some L.b)) (.gF v)
 | fn (fn:Fn) (fs cs:List Value) (df dc:List D) (ji:fs.length=df.length) (iZ:cs.length=dc.length)
   (h1:∀ (i:Nat) (v:Value) (d:D),fs[i]? = some v→df[i]? = some d→eW c w v d)
   (h2:∀ (i:Nat) (v:Value) (d:D),cs[i]? = some v→dc[i]? = some d→eW c w v d):eW c w (.func fn fs.toArray cs.toArray) (.fn fn df dc)
 | iA (v:Nat) (L:Loc) (e9:c.ι v 0=some L) (hv:L.jc=false):eW c w (.func (.yield L.b) #[] #[]) (.iA v)
inductive KK where
 | int (k:IntKind)
 | str
 | bool
 | ints (l:List IntKind)
 deriving Inhabited,DecidableEq
def qk:List IntKind→List Value→Bool
 | [],[]=>true
 | k::ks,.int k' _::vs=>k == k'&&qk ks vs
 | _,_=>false
def KK.has:KK→Value→Bool
 | .int k,.int k' _=>k == k'
 | .str,.string _=>true
 | .bool,.bool _=>true
 | .ints l,.agg cs=>qk l cs.toList
 | _,_=>false
inductive qp where
 | ready|busy|w9|vw (id:Nat)
 deriving Inhabited,DecidableEq
inductive Ob where
 | row (t:TypeId) (g:Nat) (cs:List D)
 | map (kk:KK) (es:List (Value×D))
 | gL (rf:Nat) (env:Env) (st:qp)
 | qn (s:ByteArray) (pos:Nat)
 | lL (m:D) (since:Nat) (seen:List Nat)
 | kJ
 | dead
 | kZ
 deriving Inhabited
def Ob.alive:Ob→Bool
 | .dead | .kZ=>false
 | _=>true
def Ob.gen:Ob→Nat
 | .row _ g _=>g
 | _=>0
abbrev U:=List Ob
def kR(c:Ctx)(H:U)(v:Nat)(L:Loc):Prop:=∃ o,H[v]? = some o∧o.alive=true∧c.ι v o.gen=some L
def ly(c:Ctx)(H:U)(b:Nat):Prop:=∃ v L,kR c H v L∧L.jc=false∧L.b=b
def A2(c:Ctx)(w:World)(arr:Array MapEntry)(clock:Nat)(es:List (Value×D)):Prop:=
 arr.size=es.length∧(∀ (i:Nat) (e:MapEntry) (x:Value×D),arr[i]? = some e→es[i]? = some x→e.key=x.1∧eW c w e.val x.2∧e.born=i)∧clock=es.length
def qp.is:qp→Loop→Prop
 | .ready,r=>r.state = .ready∧r.pending=none
 | .busy,r=>r.state = .busy
 | .w9,r=>r.state = .done∧r.pending=some .ret
 | .vw id,r=>r.state = .done∧r.pending=some (.exit id)
def gq(c:Ctx)(w:World):Option Loc→Ob→Prop
 | _,.dead=>True
 | L,.kZ=>L=none
 | none,_=>False
 | some L,.row t _ cs=>if L.jc then cs = []else
   ∃ arr:Array Value,w.heap[L.b]? = some (.cells arr t (0,0))∧L.top=arr.size∧L.base+cs.length≤L.top ∧
    ∀ (i:Nat) (d:D),cs[i]? = some d→∃ v,arr[L.base+i]? = some v∧v.oneCell'=true∧eW c w v d
 | some L,.map kk es=>L.jc=false∧(∀ x∈es,kk.has x.1=true)∧∃ arr clock,w.heap[L.b]? = some (.map arr clock)∧A2 c w arr clock es
 | some L,.gL rf env st=>L.jc=false∧∃ r:Loop,w.heap[L.b]? = some (.loop r)∧(∀ k,eW c w (r.tmps.getD k undef) (env.get k)) ∧
   (∃ N,c.RT rf=some (N,r.params,r.assign,r.body)∧N≤r.tmps.size)∧st.is r
 | some L,.qn s p=>L.jc=false∧L.base=0∧w.heap[L.b]? = some (.stringIter s p)
 | some L,.lL m since seen=>L.jc=false∧L.base=0∧∃ bm:Nat,eW c w (.map (some bm)) m∧w.heap[L.b]? = some (.mapIter (some bm) since seen.toArray since)
 | some L,.kJ=>L.jc=true∨w.heap[L.b]? = some (.deferred (some []))
structure HeapOK(c:Ctx)(H:U)(w:World):Prop where
 inj:∀ v v' L L',kR c H v L→kR c H v' L'→L.jc=false→L'.jc=false→L.b=L'.b→v=v'
 lt:∀ b,ly c H b→b<w.heap.size
 nF:∀ b,ly c H b→¬ c.F b
 jY:∀ b,c.F b→b<w.heap.size
 out:∀ v k,H.length≤v→c.ι v k=none
 lC:∀ v o k,H[v]? = some o→(o = .kZ∨(o.alive=true∧o.gen<k))→c.ι v k=none
 ob:∀ (v:Nat) (o:Ob),H[v]? = some o→gq c w (c.ι v o.gen) o
structure Step(n:Nat)(c:Ctx)(H:U)(w:World)(c':Ctx)(H':U)(w':World):Prop where
 os:w'.os=w.os∧w.drawn≤w'.drawn
 tape:w'.tape=w.tape
 output:w'.output=w.output
 size:w.heap.size≤w'.heap.size
 RT:c'.RT=c.RT
 Fm:∀ b,c.F b→c'.F b
 Fn:∀ b,c'.F b→c.F b∨w.heap.size≤b∨ly c H b
 kept:∀ b,b<w.heap.size→¬ ly c H b→w'.heap[b]? = w.heap[b]?
 old:∀ v k L,v<n→c.ι v k=some L→c'.ι v k=some L
 own:∀ b,ly c' H' b→w.heap.size≤b∨ly c H b
def Step.refl(n:Nat)(c:Ctx)(H:U)(w:World):Step n c H w c H w:=
 ⟨⟨rfl,Nat.le_refl _⟩,rfl,rfl,Nat.le_refl _,rfl,fun _ h=>h,fun _ h=>.inl h,fun _ _ _=>rfl,fun _ _ _ _ h=>h,fun _ h=>.inr h⟩
theorem Step.trans{n m:Nat}{c c1 c2:Ctx}{H H1 H2:U}{w w1 w2:World}(h1:Step n c H w c1 H1 w1)(h2:Step m c1 H1 w1 c2 H2 w2)(hm:n≤m) :
  Step n c H w c2 H2 w2 where
 os:=⟨h2.os.1.trans h1.os.1,Nat.le_trans h1.os.2 h2.os.2⟩
 tape:=h2.tape.trans h1.tape
 output:=h2.output.trans h1.output
 size:=Nat.le_trans h1.size h2.size
 RT:=h2.RT.trans h1.RT
 Fm b h:=h2.Fm b (h1.Fm b h)
 Fn b h:=by
  rcases h2.Fn b h with h|h|h
  ·exact h1.Fn b h
  ·exact .inr (.inl (Nat.le_trans h1.size h))
  ·rcases h1.own b h with h|h
   ·exact .inr (.inl h)
   ·exact .inr (.inr h)
 kept b hb hn:=by
  rw[h2.kept b (aJ hb h1.size) (fun ho=>?_),h1.kept b hb hn]
  rcases h1.own b ho with h|h
  ·omega
  ·exact hn h
 old v k L hv h:=h2.old v k L (by omega) (h1.old v k L hv h)
 own b h:=by
  rcases h2.own b h with h|h
  ·exact .inl (Nat.le_trans h1.size h)
  ·exact h1.own b h
def Step.weaken{n m:Nat}{c c':Ctx}{H H':U}{w w':World}(h:Step n c H w c' H' w')(hm:m≤n):Step m c H w c' H' w':=
 { h with old:=fun v k L hv=>h.old v k L (by omega) }
def Bh{w w':World}{a:Addr}(h:w'.heap[a.block]? = w.heap[a.block]?):w'.cell? a=w.cell? a:=by simp[World.cell?,h]
def eW.carry{c c':Ctx}{w w':World}(e9:∀ v k L,c.ι v k=some L→c'.ι v k=some L)(hF:∀ b,c.F b→c'.F b)
  (xB:∀ b o,c.F b→w'.cell? ⟨b,o,none⟩=w.cell? ⟨b,o,none⟩) {v:Value} {d:D} (h:eW c w v d):eW c' w' v d:=by
 induction h with
 | any v=>exact .any _
 | val v=>exact .val _
 | agg vs ds hl h1 h ih=>exact .agg vs _ hl h1 ih
 | tup vs ds hl h ih=>exact .tup vs _ hl ih
 | sl a len cap sz es g hlen ju ix gV kC hc hr ih=>
  refine .sl a len cap sz _ g hlen ju ix gV kC ?_ ih
  intro i e j d he hd
  obtain⟨b,o,ha,oE,mO,h1⟩:=hc i e j d he hd
  exact⟨b,o,ha,hF b oE,by rw[xB b _ oE];exact mO,h1⟩
 | eU=>exact .eU
 | lA a vs ix kC hc=>
  refine .lA a vs ix kC ?_
  intro i v hv
  obtain⟨b,o,ha,oE,mO,h1⟩:=hc i v hv
  exact⟨b,o,ha,hF b oE,by rw[xB b _ oE];exact mO,h1⟩
 | eX v k sz off len cap L h hv ju ix lJ=>exact .eX v k sz off len cap L (e9 _ _ _ h) hv ju ix lJ
 | lE v k sz off L h a=>exact .lE v k sz off L (e9 _ _ _ h) a
 | ptr v k off L h hv=>exact .ptr v k off L (e9 _ _ _ h) hv
 | fj b o cs g oE hc hr ih=>
  refine .fj b o _ g (hF b oE) ?_ ih
  intro j d hd
  rw[xB b _ oE]
  exact hc j d hd
 | gF v L h hv=>exact .gF v L (e9 _ _ _ h) hv
 | fn f fs cs df dc ji iZ h1 h2 pM qF=>exact .fn f fs cs _ _ ji iZ pM qF
 | iA v L h hv=>exact .iA v L (e9 _ _ _ h) hv
def eW.step{n:Nat}{c c':Ctx}{H H':U}{w w':World}(hH:HeapOK c H w)(hs:Step n c H w c' H' w')(hn:H.length≤n){v:Value}{d:D}(h:eW c w v d) :
  eW c' w' v d:=by
 refine h.carry (fun v k L hL=>hs.old v k L ?_ hL) hs.Fm (fun b o hF=>Bh (hs.kept b (hH.jY b hF) (fun ho=>hH.nF b ho hF)))
 rcases a8 v H.length with h|h
 ·omega
 ·rw[hH.out v k h]at hL;cases hL
def eW.ox{c c':Ctx}{H H':U}{w w':World}(hH:HeapOK c H w)(hs:Step H.length c H w c' H' w'){v:Value}{d:D}(h:eW c w v d):eW c' w' v d:=
 h.step hH hs (Nat.le_refl _)
inductive X where
 | t (k:Nat)
 | c (d:D)
 deriving Inhabited
abbrev gd:=Nat→D
def ev(env:gd):X→D
 | .t k=>env k
 | .c d=>d
def cellsOf:D→Option (List D)
 | .agg cs=>some cs
 | .any | .tup _=>none
 | .val v=>if v.oneCell' then some [.val v]else none
 | d=>some [d]
def one:D→Bool
 | .any | .tup _ | .agg _=>false
 | .val v=>v.oneCell'
 | _=>true
mutual
def closed:D→Bool
 | .any | .val _ | .eU | .lA _=>true
 | .agg cs | .tup cs | .fj cs=>fE cs
 | .sl _ es=>zf es
 | .eX .. | .ptr .. | .gF _ | .iA _=>false
 | .fn _ a b=>fE a&&fE b
def fE:List D→Bool
 | []=>true
 | d::ds=>closed d&&fE ds
def zf:List (List D)→Bool
 | []=>true
 | e::es=>fE e&&zf es
end
def mV:Value→Value→Bool
 | .int k a,.int k' b=>k == k'&&a == b
 | .string a,.string b=>a == b
 | .bool a,.bool b=>a == b
 | .agg a,.agg b=>a.size == b.size&&(a.toList.zip b.toList).all fun(x,y)=>match x,y with
  | .int k a,.int k' b=>k == k'&&a == b
  | _,_=>false
 | _,_=>false
def CA:List D→Option (List Value)
 | []=>some []
 | .val (.int k n)::r=>(CA r).map (.int k n :: ·)
 | _::_=>none
def keyOf:D→Option Value
 | .val (.int k n)=>some (.int k n)
 | .val (.string s)=>some (.string s)
 | .val (.bool b)=>some (.bool b)
 | .agg cs=>(CA cs).map fun l=>.agg l.toArray
 | _=>none
def ru:Value→D
 | .agg cs=>.agg (cs.toList.map .val)
 | v=>.val v
def o4:List (Value×D)→Value→Option D
 | [],_=>none
 | (k,d)::r,j=>if mV j k then some d else o4 r j
def lK:List (Value×D)→Value→D→List (Value×D)
 | [],j,x=>[(j,x)]
 | (k,d)::r,j,x=>if mV j k then(j,x)::r else(k,d)::lK r j x
inductive nC where
 | int|bool|str
 deriving Inhabited,DecidableEq
inductive wQ where
 | slice|string|map
 deriving Inhabited,DecidableEq
inductive ij where
 | mv (x:X)
 | pick (c a b:X)
 | box (t:TypeId) (x:X)
 | alloc (t:TypeId) (z:List D)
 | build (z:List D) (ps:List (Nat×Nat×X))
 | buildSl (t sz:Nat) (z:List D) (n:Nat) (ps:List (Nat×X))
 | ld1 (x:X)
 | ldN (n:Nat) (x:X)
 | st1 (a x:X)
 | stN (n:Nat) (a x:X)
 | nilck (x:X)
 | arith (op:BinOp) (x y:X)
 | eqS (ja:Bool) (ls:List nC) (neg:Bool) (x y:X)
 | un (op:UnOp) (x:X)
 | conv (k:IntKind) (x:X)
 | b2s (x:X)
 | mkfn (fn:Fn) (first captured:List X)
 | mkmap (kk:KK)
 | mksl (t sz bytes:Nat) (z:List D) (l c:X)
 | slc (sz:Nat) (x:X) (lo hi:Option X)
 | slcS (x:X) (lo hi:Option X)
 | slc3 (sz:Nat) (x:X) (lo:Option X) (hi mx:X)
 | slcArr (sz n:Nat) (x:X) (lo hi:Option X)
 | fieldA (off:Nat) (x:X)
 | field (off n:Nat) (ja:Bool) (x:X)
 | idxA (sz:Nat) (x i:X)
 | idxArr (sz n:Nat) (x i:X)
 | idx (sz n:Nat) (ja:Bool) (x i:X)
 | idxStr (x i:X)
 | lookup (kk:KK) (z:D) (ok:Bool) (m k:X)
 | mapUpd (kk:KK) (m k v:X)
 | ext (x:X) (i:Nat)
 | call (f:FuncId) (args:List X)
 | callN (f:FuncId) (args:List X)
 | callv (f:X) (args:List X)
 | app (t sz bytes:Nat) (x y:X)
 | copy (sz:Nat) (x y:X)
 | len (k:wQ) (x:X)
 | minmax (isMax:Bool) (xs:List X)
 | nilS (neg:Bool) (x:X)
 | capE (x:X)
 | appZ (t sz bytes:Nat) (z:List D) (x n:X)
 | clr (sz:Nat) (z:List D) (x:X)
 | rangeS (x:X)
 | nextS (x:X)
 | rangeM (x:X)
 | nextM (x:X)
 | entry (x:X)
 | mapEnt (kk:KK) (z:D) (m k:X)
 | entSt (m s x:X)
 deriving Inhabited
structure ff where
 dst:Option Nat
 op:ij
 guard:Option (Nat×Bool):=none
 deriving Inhabited
structure GT where
 g:Nat→Option (List D)
 rt:Nat→Option (Nat×Array Tmp×Code×Code)
 nw:FuncId→Bool:=fun _=>false
instance:CoeFun GT (fun _=>Nat→Option (List D)):=⟨GT.g⟩
inductive iS(c:Ctx)(w:World):List Value→List D→Prop
 | nil:iS c w [] []
 | cons {v d vs ds} (h:eW c w v d) (t:iS c w vs ds):iS c w (v::vs) (d::ds)
structure fr(G:GT)(c:Ctx)(H:U)(w:World):Prop extends HeapOK c H w where
 gl:∀ (g:Nat) (cs:List D),G g=some cs→fE cs=true∧eW c w (.pointer (some ⟨g,0,none⟩)) (.fj cs)
 rt:c.RT=G.rt
abbrev iU:=D→U→Prop
abbrev Al:=Nat×(Ob→U)
def Al.last(H:U):Al:=(H.length,fun ob=>H ++ [ob])
def Al.kZ(H:U)(v:Nat):Al:=(v,fun ob=>H.set v ob)
def mI(n:Int):Prop := -9223372036854775808≤n∧n≤9223372036854775807
def A8(op:BinOp)(k:IntKind)(a b:Int)(H:U)(K:iU):Prop:=
 match op with
 | .add=>if k = .i64 then mI (a+b)∧K (.val (.int .i64 (a+b))) H else K (.val (.int k (k.wrap (a+b)))) H
 | .sub=>if k = .i64 then mI (a-b)∧K (.val (.int .i64 (a-b))) H else K (.val (.int k (k.wrap (a-b)))) H
 | .mul=>if k = .i64 then mI (a*b)∧K (.val (.int .i64 (a*b))) H else K (.val (.int k (k.wrap (a*b)))) H
 | .quo=>b≠0∧K (.val (.int k (k.wrap (a.tdiv b)))) H
 | .rem=>b≠0∧K (.val (.int k (a.tmod b))) H
 | .and | .or | .xor | .andNot=>K (.val (.int k (bits op k a b))) H
 | .eql=>K (.val (.bool (a == b))) H
 | .neq=>K (.val (.bool (a != b))) H
 | .lss=>K (.val (.bool (decide (a<b)))) H
 | .leq=>K (.val (.bool (decide (a≤b)))) H
 | .gtr=>K (.val (.bool (decide (a>b)))) H
 | .geq=>K (.val (.bool (decide (a≥b)))) H
 | _=>False
def Dh(op:BinOp)(k:IntKind)(a b:Int)(H:U)(K:iU):Prop:=
 match op with
 | .shl=>0≤b∧K (.val (.int k (k.wrap (a*2 ^ (min b.toNat k.bits))))) H
 | .shr=>0≤b∧K (.val (.int k (a.fdiv (2 ^ (min b.toNat k.bits))))) H
 | _=>False
def oi:BinOp→Bool
 | .shl | .shr=>true
 | _=>false
def I0(op:BinOp)(a b:ByteArray)(H:U)(K:iU):Prop:=
 match op with
 | .eql=>K (.val (.bool (a.data.toList == b.data.toList))) H
 | .neq=>K (.val (.bool (!(a.data.toList == b.data.toList)))) H
 | .add=>((a.size+b.size:Nat):Int)≤9223372036854775807∧K (.val (.string (a++b))) H
 | _=>False
def Bb(op:BinOp)(x y:D)(H:U)(K:iU):Prop:=
 match x,y with
 | .val (.int k a),.val (.int k' b)=>if oi op then Dh op k a b H K else k=k'∧A8 op k a b H K
 | .val (.string a),.val (.string b)=>I0 op a b H K
 | _,_=>False
def Dy(op:UnOp)(x:D)(H:U)(K:iU):Prop:=
 match op,x with
 | .not,.val (.bool b)=>K (.val (.bool (!b))) H
 | .neg,.val (.int .i64 n)=>mI (-n)∧K (.val (.int .i64 (-n))) H
 | .xor,.val (.int k n)=>K (.val (.int k (bits .xor k (if k.signed then -1 else k.max) n))) H
 | _,_=>False
def rK:nC→D→D→Option Bool
 | .int,.val (.int k a),.val (.int k' b)=>if k=k' then some (a == b)else none
 | .bool,.val (.bool a),.val (.bool b)=>some (a == b)
 | .str,.val (.string a),.val (.string b)=>some (a.data.toList == b.data.toList)
 | _,_,_=>none
def l8:List nC→List D→List D→Option Bool
 | [],[],[]=>some true
 | l::ls,x::xs,y::ys=>match rK l x y,l8 ls xs ys with
  | some a,some b=>some (a&&b)
  | _,_=>none
 | _,_,_=>none
def sV(ja:Bool)(ls:List nC)(neg:Bool)(x y:D)(H:U)(K:iU):Prop:=
 match ja,x,y with
 | true,.agg a,.agg b=>match l8 ls a b with
  | some r=>K (.val (.bool (if neg then !r else r))) H
  | none=>False
 | false,x,y=>match l8 ls [x] [y]with
  | some r=>K (.val (.bool (if neg then !r else r))) H
  | none=>False
 | _,_,_=>False
def CV(c a b:D)(H:U)(K:iU):Prop:=
 match c with
 | .val (.bool x)=>K (if x then a else b) H
 | _=>False
def rowAt(H:U)(v k:Nat):Option (TypeId×List D):=match H[v]? with
 | some (.row t g cs)=>if g=k then some (t,cs)else none
 | _=>none
def CB(x:D)(H:U)(K:iU):Prop:=
 match x with
 | .ptr v g o=>match rowAt H v g with
  | some (_,cs)=>match cs[o]? with
   | some d=>K d H
   | none=>False
  | none=>False
 | .fj cs=>match cs[0]? with
  | some d=>K d H
  | none=>False
 | _=>False
def CD(n:Nat)(x:D)(H:U)(K:iU):Prop:=
 match x with
 | .ptr v g o=>match rowAt H v g with
  | some (_,cs)=>o+n≤cs.length∧K (.agg ((cs.drop o).take n)) H
  | none=>False
 | .fj cs=>n≤cs.length∧K (.agg (cs.take n)) H
 | _=>False
def Dn(a x:D)(H:U)(K:iU):Prop:=
 match a with
 | .ptr v g o=>match rowAt H v g with
  | some (t,cs)=>o<cs.length∧one x=true∧K .any (H.set v (.row t g (cs.set o x)))
  | none=>False
 | _=>False
def Dp(n:Nat)(a x:D)(H:U)(K:iU):Prop:=
 match a,cellsOf x with
 | .ptr v g o,some xs=>match rowAt H v g with
  | some (t,cs)=>xs.length=n∧o+n≤cs.length∧K .any (H.set v (.row t g (cs.take o++xs++cs.drop (o+n))))
  | none=>False
 | _,_=>False
def Bc(t:TypeId)(x:D)(al:Al)(K:iU):Prop:=
 match cellsOf x with
 | some cs=>K (.ptr al.1 0 0) (al.2 (.row t 0 cs))
 | none=>False
def lay:List (Nat×Nat×List D)→List D→Option (List D)
 | [],cs=>some cs
 | (o,n,xs)::r,cs=>if xs.length=n∧o+n≤cs.length then lay r (cs.take o++xs++cs.drop (o+n))else none
def partsOf(env:gd):List (Nat×Nat×X)→Option (List (Nat×Nat×List D))
 | []=>some []
 | (o,n,x)::r=>match cellsOf (ev env x),partsOf env r with
  | some cs,some l=>some ((o,n,cs)::l)
  | _,_=>none
def wX(env:gd)(z:List D)(ps:List (Nat×Nat×X))(H:U)(K:iU):Prop:=
 match partsOf env ps with
 | some l=>match lay l z with
  | some cs=>K (.agg cs) H
  | none=>False
 | none=>False
def Bd(env:gd)(t sz:Nat)(z:List D)(n:Nat)(ps:List (Nat×X))(al:Al)(K:iU):Prop:=
 match partsOf env (ps.map fun p=>(p.1*sz,sz,p.2))with
 | some l=>match lay l (List.replicate n z).flatten with
  | some cs=>K (.eX al.1 0 sz 0 n) (al.2 (.row t 0 cs))
  | none=>False
 | none=>False
def BA(off:Nat)(x:D)(H:U)(K:iU):Prop:=
 match x with
 | .ptr v g o=>K (.ptr v g (o+off)) H
 | .fj cs=>K (.fj (cs.drop off)) H
 | _=>False
def xj(off n:Nat)(ja:Bool)(x:D)(H:U)(K:iU):Prop:=
 match x with
 | .agg cs=>if ja then off+n≤cs.length∧K (.agg ((cs.drop off).take n)) H else match cs[off]? with
  | some d=>K d H
  | none=>False
 | _=>False
def Cp(sz:Nat)(x i:D)(H:U)(K:iU):Prop:=
 match x,i with
 | .sl fY es,.val (.int _ n)=>fY=sz∧(0≤n∧n<es.length)∧K (.fj (es.getD n.toNat [])) H
 | .lA vs,.val (.int _ n)=>1=sz∧(0≤n∧n<vs.length)∧K (.fj [.val (vs.getD n.toNat undef)]) H
 | .eX v g fY off len,.val (.int _ n)=>fY=sz∧(0≤n∧n<len)∧K (.ptr v g ((off+n.toNat)*sz)) H
 | _,_=>False
def Cq(sz n:Nat)(x i:D)(H:U)(K:iU):Prop:=
 match x,i with
 | .ptr v g o,.val (.int _ k)=>(0≤k∧k<n)∧K (.ptr v g (o+k.toNat*sz)) H
 | .fj cs,.val (.int _ k)=>(0≤k∧k<n)∧K (.fj (cs.drop (k.toNat*sz))) H
 | _,_=>False
def Cs(sz n:Nat)(ja:Bool)(x i:D)(H:U)(K:iU):Prop:=
 match x,i with
 | .agg cs,.val (.int _ k)=>(0≤k∧k<n)∧xj (k.toNat*sz) sz ja (.agg cs) H K
 | _,_=>False
def Ct(x i:D)(H:U)(K:iU):Prop:=
 match x,i with
 | .val (.string s),.val (.int _ k)=>(0≤k∧k<s.size)∧K (.val (.int .u8 ((s.data.toList.getD k.toNat 0).toNat))) H
 | _,_=>False
def lT(H:U)(v:Nat):Option (KK×List (Value×D)):=match H[v]? with
 | some (.map kk es)=>some (kk,es)
 | _=>none
def CH(nj:KK)(z:D)(ok:Bool)(m k:D)(H:U)(K:iU):Prop:=
 match m,keyOf k with
 | .gF v,some kv=>match lT H v with
  | some (kk,es)=>kk=nj∧kk.has kv=true∧(match o4 es kv with
    | some d=>K (if ok then .tup [d,.val (.bool true)]else d) H
    | none=>K (if ok then .tup [z,.val (.bool false)]else z) H)
  | none=>False
 | _,_=>False
def CL(nj:KK)(m k x:D)(H:U)(K:iU):Prop:=
 match m,keyOf k with
 | .gF v,some kv=>match lT H v with
  | some (kk,es)=>kk=nj∧kk.has kv=true∧K .any (H.set v (.map kk (lK es kv x)))
  | none=>False
 | _,_=>False
def Bw(x:D)(i:Nat)(H:U)(K:iU):Prop:=
 match x with
 | .tup ds=>match ds[i]? with
  | some d=>K d H
  | none=>False
 | _=>False
def CP(t sz bytes:Nat)(z:List D)(l c:D)(al:Al)(K:iU):Prop:=
 match l,c with
 | .val (.int _ n),.val (.int _ m)=>(0≤n∧n≤m∧m≤9223372036854775807∧(bytes:Int)*m≤281474976710656)∧K (.eX al.1 0 sz 0 n.toNat) (al.2 (.row t 0 (List.replicate m.toNat z).flatten))
 | _,_=>False
def gy(env:gd):Option X→Int→Option Int
 | none,n=>some n
 | some x,_=>match ev env x with
  | .val (.int _ n)=>some n
  | _=>none
def Dk(env:gd)(sz:Nat)(x:D)(lo hi:Option X)(H:U)(K:iU):Prop:=
 match x with
 | .sl fY es=>match gy env lo 0,gy env hi es.length with
  | some l,some h=>fY=sz∧(0≤l∧l≤h∧h≤es.length)∧K (.sl sz ((es.drop l.toNat).take (h.toNat-l.toNat))) H
  | _,_=>False
 | .eX v g fY off len=>match gy env lo 0,gy env hi len with
  | some l,some h=>fY=sz∧(0≤l∧l≤h∧h≤len)∧K (.eX v g sz (off+l.toNat) (h.toNat-l.toNat)) H
  | _,_=>False
 | .eU=>match gy env lo 0,gy env hi 0 with
  | some l,some h=>(l=0∧h=0)∧K .eU H
  | _,_=>False
 | _=>False
def Az:List (List D)→Option (List Value)
 | []=>some []
 | [.val v]::r=>if v.oneCell' then(match Az r with|some l=>some (v::l)|none=>none)else none
 | _::_=>none
def clip(sz:Nat)(es:List (List D)):D:=match Az es with
 | some vs=>if sz=1 then .lA vs else .sl sz es
 | none=>.sl sz es
def Di(env:gd)(sz:Nat)(x:D)(lo:Option X)(hi mx:X)(H:U)(K:iU):Prop:=
 match gy env lo 0,gy env (some hi) 0,gy env (some mx) 0 with
 | some l,some h,some m=>match x with
  | .sl fY es=>fY=sz∧(0≤l∧l≤h∧h=m∧m≤es.length)∧K (clip sz ((es.drop l.toNat).take (h.toNat-l.toNat))) H
  | .eX v g fY off len=>fY=sz∧(0≤l∧l≤h∧h≤m∧m≤len)∧K (.eX v g sz (off+l.toNat) (h.toNat-l.toNat)) H
  | .eU=>(l=0∧h=0∧m=0)∧K .eU H
  | _=>False
 | _,_,_=>False
def Dj(env:gd)(sz n:Nat)(x:D)(lo hi:Option X)(H:U)(K:iU):Prop:=
 match x,gy env lo 0,gy env hi n with
 | .fj cs,some l,some h=>(sz=1∧n≤cs.length∧n≤16777216∧0≤l∧l≤h∧h≤n)∧K (.sl 1 (((cs.drop l.toNat).take (h.toNat-l.toNat)).map fun d=>[d])) H
 | .ptr v g o,some l,some h=>match rowAt H v g with
  | some (_,cs)=>(o % sz=0∧o+n*sz≤cs.length∧n≤16777216∧0≤l∧l≤h∧h≤n)∧K (.eX v g sz (o / sz+l.toNat) (h.toNat-l.toNat)) H
  | none=>False
 | _,_,_=>False
def Ao(env:gd)(x:D)(lo hi:Option X)(H:U)(K:iU):Prop:=
 match x with
 | .val (.string s)=>match gy env lo 0,gy env hi s.size with
  | some l,some h=>(0≤l∧l≤h∧h≤s.size)∧K (.val (.string (s.extract l.toNat h.toNat))) H
  | _,_=>False
 | _=>False
def j'(sz:Nat)(H:U):D→Option (List D×Nat)
 | .sl fY es=>if fY=sz then some (es.flatten,es.length)else none
 | .eU=>some ([],0)
 | .lA vs=>if sz=1 then some (vs.map .val,vs.length)else none
 | .eX v g fY off len=>match rowAt H v g with
  | some (_,cs)=>if fY=sz∧(off+len)*sz≤cs.length then some ((cs.drop (off*sz)).take (len*sz),len)else none
  | none=>none
 | _=>none
def A7(t sz bytes:Nat)(x y:D)(H:U)(al:Al)(K:iU):Prop:=
 match j' sz H y with
 | some (ys,n)=>match x with
  | .eX v g fY off len=>match rowAt H v g with
   | some (t',cs)=>(fY=sz∧t'=t∧(off+len)*sz≤cs.length∧(len+n)*bytes≤140737488355328∧len+n≤9223372036854775807) ∧
     K (.eX v (g+1) sz 0 (len+n)) (H.set v (.row t (g+1) ((cs.drop (off*sz)).take (len*sz)++ys)))
   | none=>False
  | .lA vs=>(n≠0∧sz=1∧(vs.length+n)*bytes≤140737488355328∧vs.length+n≤9223372036854775807)∧K (.eX al.1 0 sz 0 (vs.length+n)) (al.2 (.row t 0 (vs.map .val++ys)))
  | .eU=>if n=0 then K .eU H else(n*bytes≤140737488355328∧n≤9223372036854775807)∧K (.eX al.1 0 sz 0 n) (al.2 (.row t 0 ys))
  | _=>False
 | none=>False
def Bq(sz:Nat)(x y:D)(H:U)(K:iU):Prop:=
 match x,j' sz H y with
 | .eX v g fY off len,some (ys,n)=>match rowAt H v g with
  | some (t,cs)=>(fY=sz∧(off+len)*sz≤cs.length) ∧
    K (.val (.int .i64 (min n len:Nat))) (H.set v (.row t g (cs.take (off*sz)++ys.take (min n len*sz)++cs.drop (off*sz+min n len*sz))))
  | none=>False
 | .eU,some _=>K (.val (.int .i64 0)) H
 | _,_=>False
def CE(k:wQ)(x:D)(H:U)(K:iU):Prop:=
 match k,x with
 | .slice,.sl _ es=>K (.val (.int .i64 es.length)) H
 | .slice,.eU=>K (.val (.int .i64 0)) H
 | .slice,.lA vs=>K (.val (.int .i64 vs.length)) H
 | .slice,.eX _ _ _ _ len=>K (.val (.int .i64 len)) H
 | .string,.val (.string s)=>K (.val (.int .i64 s.size)) H
 | .map,.gF v=>match lT H v with
  | some (_,es)=>K (.val (.int .i64 es.length)) H
  | none=>False
 | _,_=>False
def pr(env:gd):List X→Option (List Int)
 | []=>some []
 | x::r=>match ev env x,pr env r with
  | .val (.int .i64 n),some l=>some (n::l)
  | _,_=>none
def CO(env:gd)(isMax:Bool)(xs:List X)(H:U)(K:iU):Prop:=
 match pr env xs with
 | some [a,b]=>K (.val (.int .i64 (if isMax then max a b else min a b))) H
 | some [a,b,c]=>K (.val (.int .i64 (if isMax then max (max a b) c else min (min a b) c))) H
 | _=>False
def CR(x:D)(H:U)(K:iU):Prop:=
 match x with
 | .ptr v g o=>K (.ptr v g o) H
 | .fj cs=>K (.fj cs) H
 | .fn (.func f) a b=>K (.fn (.func f) a b) H
 | .iA v=>K (.iA v) H
 | _=>False
def Bn(k:IntKind)(x:D)(H:U)(K:iU):Prop:=
 match x with
 | .val (.int _ n)=>K (.val (.int k (k.wrap n))) H
 | _=>False
def bytesOf:List D→Option (List Int)
 | []=>some []
 | .val (.int .u8 n)::r=>match bytesOf r with
  | some l=>some (n::l)
  | none=>none
 | _=>none
def A'(x:D)(H:U)(K:iU):Prop:=
 match j' 1 H x with
 | some (ys,_)=>match bytesOf ys with
  | some ns=>K (.val (.string (ns.foldl (fun r n=>r.push (UInt8.ofNat n.toNat)) ByteArray.empty))) H
  | none=>False
 | none=>False
def A6(env:gd)(H:U)(al:Al)(K:iU):ij→Prop
 | .mv x=>K (ev env x) H
 | .pick c a b=>CV (ev env c) (ev env a) (ev env b) H K
 | .box t x=>Bc t (ev env x) al K
 | .alloc t z=>K (.ptr al.1 0 0) (al.2 (.row t 0 z))
 | .build z ps=>wX env z ps H K
 | .buildSl t sz z n ps=>Bd env t sz z n ps al K
 | .ld1 x=>CB (ev env x) H K
 | .ldN n x=>CD n (ev env x) H K
 | .st1 a x=>Dn (ev env a) (ev env x) H K
 | .stN n a x=>Dp n (ev env a) (ev env x) H K
 | .nilck x=>CR (ev env x) H K
 | .arith op x y=>Bb op (ev env x) (ev env y) H K
 | .eqS ja ls neg x y=>sV ja ls neg (ev env x) (ev env y) H K
 | .un op x=>Dy op (ev env x) H K
 | .conv k x=>Bn k (ev env x) H K
 | .b2s x=>A' (ev env x) H K
 | .mkfn f first cap=>K (.fn f (first.map (ev env)) (cap.map (ev env))) H
 | .mkmap kk=>K (.gF al.1) (al.2 (.map kk []))
 | .mksl t sz bytes z l c=>CP t sz bytes z (ev env l) (ev env c) al K
 | .slc sz x lo hi=>Dk env sz (ev env x) lo hi H K
 | .slcS x lo hi=>Ao env (ev env x) lo hi H K
 | .slc3 sz x lo hi mx=>Di env sz (ev env x) lo hi mx H K
 | .slcArr sz n x lo hi=>Dj env sz n (ev env x) lo hi H K
 | .fieldA off x=>BA off (ev env x) H K
 | .field off n ja x=>xj off n ja (ev env x) H K
 | .idxA sz x i=>Cp sz (ev env x) (ev env i) H K
 | .idxArr sz n x i=>Cq sz n (ev env x) (ev env i) H K
 | .idx sz n ja x i=>Cs sz n ja (ev env x) (ev env i) H K
 | .idxStr x i=>Ct (ev env x) (ev env i) H K
 | .lookup kk z ok m k=>CH kk z ok (ev env m) (ev env k) H K
 | .mapUpd kk m k x=>CL kk (ev env m) (ev env k) (ev env x) H K
 | .ext x i=>Bw (ev env x) i H K
 | .call _ _ | .callN _ _ | .callv _ _=>False
 | .app t sz bytes x y=>A7 t sz bytes (ev env x) (ev env y) H al K
 | .copy sz x y=>Bq sz (ev env x) (ev env y) H K
 | .len k x=>CE k (ev env x) H K
 | .minmax isMax xs=>CO env isMax xs H K
 | .nilS .. | .capE .. | .appZ .. | .clr .. | .rangeS .. | .nextS .. | .rangeM .. | .nextM .. | .entry .. | .mapEnt .. | .entSt .. => False
def put(env:Env)(dst:Option Nat)(d:D):Env:=match dst with
 | some k=>(k,d)::env
 | none=>env
def Ctx.set(c:Ctx)(v k:Nat)(L:Loc):Ctx:={ c with ι:=fun u l=>if u=v∧l=k then some L else c.ι u l }
def Ctx.qR(c:Ctx)(v k:Nat)(L:Loc):(c.set v k L).ι v k=some L:=by simp[Ctx.set]
def Ctx.sA(c:Ctx){v k u l:Nat}(L:Loc)(h:¬ (u=v∧l=k)):(c.set v k L).ι u l=c.ι u l:=by simp only[Ctx.set];rw[if_neg h]
structure tO(H:U)(v:Nat)(ob:Ob)(H':U):Prop where
 get:∀ u,H'[u]? = if u=v then some ob else H[u]?
 free:H.length≤v∨H[v]? = some .kZ
 len:H.length≤H'.length
def tO.last(H:U)(ob:Ob):tO H H.length ob (H ++ [ob]) where
 get u:=by
  split
  ·rename_i h;subst h;simp
  ·rename_i h
   rcases a8 u H.length with h1|h1
   ·rw[ag h1]
   ·rw[aQ (by simp;omega),aQ h1]
 free:=.inl (Nat.le_refl _)
 len:=by simp
theorem tO.kZ{H:U}{v:Nat}(h:H[v]? = some .kZ)(ob:Ob):tO H v ob (H.set v ob) where
 get u:=by
  have:=(af.1 h).1
  rw[bA]
  split
  ·rename_i e;subst e;simp[this]
  ·rename_i e;rw[if_neg (dB e)]
 free:=.inr h
 len:=by simp
def l5(H:U)(al:Al):Prop:=∀ ob,tO H al.1 ob (al.2 ob)
theorem l5.last(H:U):l5 H (Al.last H):=fun ob=>tO.last H ob
theorem l5.kZ{H:U}{v:Nat}(h:H[v]? = some .kZ):l5 H (Al.kZ H v):=fun ob=>tO.kZ h ob
structure jz(w w':World):Prop where
 os:w'.os=w.os∧w.drawn≤w'.drawn
 tape:w'.tape=w.tape
 output:w'.output=w.output
 size:w.heap.size≤w'.heap.size
 kept:∀ b,b<w.heap.size→w'.heap[b]? = w.heap[b]?
def jz.refl(w:World):jz w w:=⟨⟨rfl,Nat.le_refl _⟩,rfl,rfl,Nat.le_refl _,fun _ _=>rfl⟩
theorem jz.alloc(w:World)(o:Obj):jz w (w.alloc o):=
 ⟨⟨rfl,Nat.le_refl _⟩,rfl,rfl,by simp,fun b h=>by simp only[World.alloc,dH];rw[if_neg (by omega)]⟩
theorem jz.trans{a b c:World}(h:jz a b)(k:jz b c):jz a c:=
 ⟨⟨k.os.1.trans h.os.1,Nat.le_trans h.os.2 k.os.2⟩,k.tape.trans h.tape,k.output.trans h.output,Nat.le_trans h.size k.size,fun i hi=>(k.kept i (aJ hi h.size)).trans (h.kept i hi)⟩
theorem jz.drew(w:World):jz w w.drew:=⟨⟨rfl,Nat.le_succ _⟩,rfl,rfl,Nat.le_refl _,fun _ _=>rfl⟩
def Au(n:Nat){c:Ctx}{H:U}{w w':World}(hg:jz w w'):Step n c H w c H w':=
 ⟨hg.os,hg.tape,hg.output,hg.size,rfl,fun _ h=>h,fun _ h=>.inl h,fun b hb _=>hg.kept b hb,fun _ _ _ _ h=>h,fun _ h=>.inr h⟩
def A2.mono{c c':Ctx}{w w':World}(hr:∀ v d,eW c w v d→eW c' w' v d){arr:Array MapEntry}{clock:Nat}{es:List (Value×D)}(h:A2 c w arr clock es):A2 c' w' arr clock es:=
 ⟨h.1,fun i e x he hx=>let ⟨a,b,d⟩:=h.2.1 i e x he hx;⟨a,hr _ _ b,d⟩,h.2.2⟩
def gq.pN{c c':Ctx}{w w':World}(rT:c'.RT=c.RT)(hr:∀ v d,eW c w v d→eW c' w' v d){L:Option Loc}{o:Ob}
  (hb:∀ l,L=some l→l.jc=false→o.alive=true→w'.heap[l.b]? = w.heap[l.b]?) (h:gq c w L o):gq c' w' L o:=by
 cases o with
 | dead=>simp[gq]
 | kZ=>simpa[gq]using h
 | row t g cs=>
  cases L with
  | none=>simp[gq]at h
  | some l=>
   simp only[gq]at h ⊢
   split
   ·rename_i hv;simpa[hv]using h
   ·rename_i hv
    simp only[hv]at h
    obtain⟨arr,h1,h2,h3,h4⟩:=h
    refine⟨arr,by rw[hb l rfl (by simpa using hv) rfl];exact h1,h2,h3,fun i d hd=>?_⟩
    obtain⟨v,my,ng,Lx⟩:=h4 i d hd
    exact⟨v,my,ng,hr _ _ Lx⟩
 | map kk es=>
  cases L with
  | none=>simp[gq]at h
  | some l=>
   simp only[gq]at h ⊢
   obtain⟨hv,hk,arr,clock,h1,h2⟩:=h
   exact⟨hv,hk,arr,clock,by rw[hb l rfl hv rfl];exact h1,h2.mono hr⟩
 | gL rf env st=>
  cases L with
  | none=>simp[gq]at h
  | some l=>
   simp only[gq]at h ⊢
   obtain⟨hv,r,h1,h2,h3,h4⟩:=h
   exact⟨hv,r,by rw[hb l rfl hv rfl];exact h1,fun k=>hr _ _ (h2 k),by rw[rT];exact h3,h4⟩
 | qn s p=>
  cases L with
  | none=>simp[gq]at h
  | some l=>
   simp only[gq]at h ⊢
   exact⟨h.1,h.2.1,by rw[hb l rfl h.1 rfl];exact h.2.2⟩
 | lL m since seen=>
  cases L with
  | none=>simp[gq]at h
  | some l=>
   simp only[gq]at h ⊢
   obtain⟨h1,h2,bm,h3,h4⟩:=h
   exact⟨h1,h2,bm,hr _ _ h3,by rw[hb l rfl h1 rfl];exact h4⟩
 | kJ=>
  cases L with
  | none=>simp[gq]at h
  | some l=>
   simp only[gq]at h ⊢
   by_cases hv:l.jc=true
   ·exact .inl hv
   ·exact .inr (by rw[hb l rfl (by simpa using hv) rfl];exact h.resolve_left hv)
def fr.oD{G:GT}{c:Ctx}{H:U}{w w':World}(h:fr G c H w)(hg:jz w w'):fr G c H w':=by
 have hs:=Au H.length (c:=c) (H:=H) hg
 have hr:∀ v d,eW c w v d→eW c w' v d:=fun v d hd=>hd.ox h.toHeapOK hs
 exact{
  inj:=h.inj
  lt:=fun b hb=>aJ (h.lt b hb) hg.size
  nF:=h.nF
  jY:=fun b hb=>aJ (h.jY b hb) hg.size
  out:=h.out
  lC:=h.lC
  ob:=fun v o ho=>(h.ob v o ho).pN rfl hr fun l hl hv hd=>hg.kept _ (h.lt _ ⟨v,l,⟨o,ho,hd,hl⟩,hv,rfl⟩)
  gl:=fun g cs ui=>let ⟨a,b⟩:=h.gl g cs ui;⟨a,hr _ _ b⟩
  rt:=h.rt }
structure vc(H:U)(v:Nat)(ob:Ob)(H':U):Prop where
 get:∀ u,H'[u]? = if u=v then some ob else H[u]?
 free:H.length≤v∨H[v]? = some .kZ∨∃ o,H[v]? = some o∧o.alive=true∧o.gen<ob.gen
 len:H.length≤H'.length
def tO.qU{H:U}{v:Nat}{ob:Ob}{H':U}(h:tO H v ob H'):vc H v ob H':=⟨h.get,h.free.imp id .inl,h.len⟩
def Aw{c:Ctx}{H H':U}{v:Nat}{ob:Ob}{L:Loc}(ht:vc H v ob H'){u:Nat}{l:Loc}(h:kR (c.set v ob.gen L) H' u l) :
  (u=v∧l=L)∨(u≠v∧kR c H u l):=by
 obtain⟨o,ho,ha,e9⟩:=h
 rw[ht.get]at ho
 split at ho
 ·rename_i e;cases ho;subst e;rw[Ctx.qR]at e9;cases e9;exact .inl ⟨rfl,rfl⟩
 ·rename_i e
  rw[Ctx.sA _ _ (fun h=>e h.1)]at e9
  exact .inr ⟨e,o,ho,ha,e9⟩
def Tv{G:GT}{c:Ctx}{H H':U}{w:World}{v:Nat}{ob:Ob}(h:fr G c H w)(ht:vc H v ob H')(k:Nat)(hk:ob.gen≤k):c.ι v k=none:=by
 rcases ht.free with hf|hf|⟨o,ho,ha,hg⟩
 ·exact h.out v k hf
 ·exact h.lC v _ k hf (.inl rfl)
 ·exact h.lC v o k ho (.inr ⟨ha,by omega⟩)
def Tw{G:GT}{c:Ctx}{H H':U}{w:World}{v:Nat}{ob:Ob}{L:Loc}(h:fr G c H w)(ht:vc H v ob H')(u k:Nat)(l:Loc)(e9:c.ι u k=some l):(c.set v ob.gen L).ι u k=some l:=by
 rw[Ctx.sA]
 ·exact e9
 ·rintro⟨rfl,rfl⟩
  rw[Tv h ht _ (Nat.le_refl _)]at e9
  cases e9
def I4{G:GT}{c:Ctx}{H H':U}{w w':World}{v:Nat}{ob:Ob}(h:fr G c H w)(ht:vc H v ob H')(hg:jz w w')(L:Loc)
  (hL:L.jc=false→w.heap.size≤L.b∧L.b<w'.heap.size):Step H.length c H w (c.set v ob.gen L) H' w' where
 os:=hg.os
 tape:=hg.tape
 output:=hg.output
 size:=hg.size
 RT:=rfl
 Fm _ h:=h
 Fn _ h:=.inl h
 kept b hb _:=hg.kept b hb
 old u k l _ e9:=Tw h ht u k l e9
 own b hb:=by
  obtain⟨u,l,hl,hv,e⟩:=hb
  rcases Aw ht hl with⟨_,rfl⟩|⟨_,hl⟩
  ·exact .inl (e▸(hL hv).1)
  ·exact .inr ⟨u,l,hl,hv,e⟩
def M8{G:GT}{c:Ctx}{H H':U}{w w':World}{v:Nat}{ob:Ob}(h:fr G c H w)(ht:vc H v ob H')(hg:jz w w')(L:Loc)
  (hL:L.jc=false→w.heap.size≤L.b∧L.b<w'.heap.size) (gu:ob.alive=true) (gD:gq (c.set v ob.gen L) w' (some L) ob):fr G (c.set v ob.gen L) H' w':=by
 have hs:=I4 h ht hg L hL
 have hr:∀ u d,eW c w u d→eW (c.set v ob.gen L) w' u d:=fun u d hd=>hd.ox h.toHeapOK hs
 have gi:∀ u l,kR c H u l→l.jc=false→l.b<w.heap.size:=fun u l hl hv=>h.lt _ ⟨u,l,hl,hv,rfl⟩
 have YJ:v<H'.length:=by
  have:=ht.get v
  rw[if_pos rfl]at this
  exact(af.1 this).1
 exact{
  inj:=by
   intro u u' l l' h1 h2 h5 h6 he
   rcases Aw ht h1 with⟨rfl,rfl⟩|⟨_,b⟩<;>rcases Aw ht h2 with⟨rfl,rfl⟩|⟨_,b'⟩
   ·rfl
   ·have:=(hL h5).1;have:=gi _ _ b' h6;omega
   ·have:=(hL h6).1;have:=gi _ _ b h5;omega
   ·exact h.inj u u' l l' b b' h5 h6 he
  lt:=fun b hb=>by
   obtain⟨u,l,hl,hv,e⟩:=hb
   rcases Aw ht hl with⟨_,rfl⟩|⟨_,hl⟩
   ·exact e▸(hL hv).2
   ·exact e▸aJ (gi u l hl hv) hg.size
  nF:=fun b hb hF=>by
   obtain⟨u,l,hl,hv,e⟩:=hb
   rcases Aw ht hl with⟨_,rfl⟩|⟨_,hl⟩
   ·have:=h.jY b hF;have:=(hL hv).1;omega
   ·exact h.nF b ⟨u,l,hl,hv,e⟩ hF
  jY:=fun b hb=>aJ (h.jY b hb) hg.size
  out:=fun u k hu=>by
   rw[Ctx.sA _ _ (by rintro⟨rfl,_⟩;omega)]
   exact h.out u k (Nat.le_trans ht.len hu)
  lC:=fun u o k ho hk=>by
   rw[ht.get]at ho
   split at ho
   ·rename_i e
    cases ho;subst e
    rcases hk with rfl|⟨_,hk⟩
    ·cases gu
    ·rw[Ctx.sA _ _ (by rintro⟨_,rfl⟩;omega)];exact Tv h ht k (by omega)
   ·rename_i e
    rw[Ctx.sA _ _ (fun h=>e h.1)]
    exact h.lC u o k ho hk
  ob:=fun u o ho=>by
   rw[ht.get]at ho
   split at ho
   ·rename_i e
    cases ho;subst e
    rw[Ctx.qR];exact gD
   ·rename_i e
    rw[Ctx.sA _ _ (fun h=>e h.1)]
    exact gq.pN (c:=c) (c':=c.set v ob.gen L) rfl hr (fun l hl hv hd=>hg.kept _ (gi u l ⟨o,ho,hd,hl⟩ hv)) (h.ob u o ho)
  gl:=fun g cs ui=>let ⟨a,b⟩:=h.gl g cs ui;⟨a,hr _ _ b⟩
  rt:=h.rt }
structure Cells(c:Ctx)(w:World)(vs:List Value)(cs:List D):Prop where
 len:vs.length=cs.length
 one:∀ v∈vs,v.oneCell'=true
 rep:∀ (i:Nat) (v:Value) (d:D),vs[i]? = some v→cs[i]? = some d→eW c w v d
def Ab{G:GT}{c:Ctx}{H H':U}{v gen:Nat}{w:World}(h:fr G c H w)(w0:World)(hg:jz w w0)(t:TypeId)(vs:List Value)(cs:List D)(n:Nat)(arr:Array Value)
  (ht:vc H v (.row t gen cs) H') (hc:Cells c w vs cs) (ha:arr.toList.take n=vs) (hn:n≤arr.size) :
  ∃ L:Loc,L.jc=false∧L.b=w0.heap.size∧L.base=0∧L.top=arr.size ∧
   fr G (c.set v gen L) H' (w0.alloc (.cells arr t))∧Step H.length c H w (c.set v gen L) H' (w0.alloc (.cells arr t)):=by
 have re:=hg.trans (jz.alloc w0 (.cells arr t))
 refine⟨⟨w0.heap.size,0,arr.size,false⟩,rfl,rfl,rfl,rfl,?_⟩
 have hL:(⟨w0.heap.size,0,arr.size,false⟩:Loc).jc=false→w.heap.size≤(⟨w0.heap.size,0,arr.size,false⟩:Loc).b∧(⟨w0.heap.size,0,arr.size,false⟩:Loc).b<(w0.alloc (.cells arr t)).heap.size:=fun _=>⟨hg.size,by simp⟩
 have hs:=I4 h ht re ⟨w0.heap.size,0,arr.size,false⟩ hL
 refine⟨M8 h ht re _ hL rfl ?_,hs⟩
 have hr:∀ u d,eW c w u d→eW (c.set v gen ⟨w0.heap.size,0,arr.size,false⟩) (w0.alloc (.cells arr t)) u d:=fun u d hd=>hd.ox h.toHeapOK hs
 have hlen:cs.length=n:=by rw[← hc.len,← ha];simp;omega
 simp only[gq,Ob.gen]
 refine⟨arr,heap_alloc_new _ _,rfl,by simp;omega,fun i d hd=>?_⟩
 have hi:i<cs.length:=(af.1 hd).1
 have xF:i<arr.size:=by omega
 refine⟨arr[i],by simp[xF],?_,?_⟩
 ·exact hc.one _ (by rw[← ha];exact aM (i:=i) (by rw[aC];simp[hlen▸hi,xF]))
 ·exact hr _ _ (hc.rep i _ d (by rw[← ha,aC];simp[hlen▸hi,xF]) hd)
def pP{H:U}{v:Nat}{ob:Ob}(hv:v<H.length)(u:Nat):(H.set v ob)[u]? = if u=v then some ob else H[u]? := by
 rw[bA]
 split
 ·rename_i e;subst e;simp[hv]
 ·rename_i e;rw[if_neg (dB e)]
def afZ{c:Ctx}{H:U}{v:Nat}{ob ob':Ob}(hv:H[v]? = some ob)(ha:ob.alive=true)(hg:ob'.gen=ob.gen){u:Nat}{l:Loc}(h:kR c (H.set v ob') u l):kR c H u l:=by
 obtain⟨o,ho,gu,e9⟩:=h
 rw[pP (af.1 hv).1]at ho
 split at ho
 ·rename_i e;cases ho;subst e;exact⟨ob,hv,ha,by rw[← hg];exact e9⟩
 ·exact⟨o,ho,gu,e9⟩
def TX{G:GT}{c:Ctx}{H:U}{w:World}(h:fr G c H w){v:Nat}{ob ob':Ob}(hv:H[v]? = some ob)(ha:ob.alive=true)(oF:ob'.alive=true)(Hw:ob'.gen=ob.gen){L:Loc}(e9:c.ι v ob.gen=some L)(gI:L.jc=false)
  {w':World} (pk:w'.os=w.os∧w.drawn≤w'.drawn) (Ls:w'.tape=w.tape) (mf:w'.output=w.output) (Cg:w'.heap.size=w.heap.size)
  (kY:∀ b,b≠L.b→w'.heap[b]? = w.heap[b]?) (gD:(∀ u d,eW c w u d→eW c w' u d)→gq c w' (some L) ob') :
  fr G c (H.set v ob') w'∧Step H.length c H w c (H.set v ob') w':=by
 have B1:kR c H v L:=⟨ob,hv,ha,e9⟩
 have vO:ly c H L.b:=⟨v,L,B1,gI,rfl⟩
 have hL:∀ u l,kR c (H.set v ob') u l→kR c H u l:=fun u l hl=>afZ hv ha Hw hl
 have qb:∀ b,ly c (H.set v ob') b→ly c H b:=fun b ⟨u,l,hl,r⟩=>⟨u,l,hL u l hl,r⟩
 have hs:Step H.length c H w c (H.set v ob') w':=
  ⟨pk,Ls,mf,by omega,rfl,fun _ h=>h,fun _ h=>.inl h,fun b _ hn=>kY b (fun e=>hn (e▸vO)),fun _ _ _ _ h=>h,fun b hb=>.inr (qb b hb)⟩
 have hr:∀ u d,eW c w u d→eW c w' u d:=fun u d hd=>hd.ox h.toHeapOK hs
 refine⟨{
  inj:=fun u u' l l' h1 h2=>h.inj u u' l l' (hL _ _ h1) (hL _ _ h2)
  lt:=fun b hb=>by rw[Cg];exact h.lt b (qb b hb)
  nF:=fun b hb=>h.nF b (qb b hb)
  jY:=fun b hb=>by rw[Cg];exact h.jY b hb
  out:=fun u k hu=>h.out u k (by simpa using hu)
  lC:=fun u o k ho hk=>by
   rw[pP (af.1 hv).1]at ho
   split at ho
   ·rename_i e;cases ho;subst e
    rcases hk with rfl|⟨_,hk⟩
    ·cases oF
    ·exact h.lC u ob k hv (.inr ⟨ha,by omega⟩)
   ·exact h.lC u o k ho hk
  ob:=fun u o ho=>by
   rw[pP (af.1 hv).1]at ho
   split at ho
   ·rename_i e
    cases ho;subst e
    rw[Hw,e9]
    exact gD hr
   ·rename_i gE
    exact(h.ob u o ho).pN rfl hr fun l hl kP hd=>kY _ fun e=>gE (h.inj u v l L ⟨o,ho,hd,hl⟩ B1 kP gI e)
  gl:=fun g cs ui=>let ⟨a,b⟩:=h.gl g cs ui;⟨a,hr _ _ b⟩
  rt:=h.rt },hs⟩
def DB{G:GT}{c:Ctx}{H:U}{w:World}(h:fr G c H w){v g:Nat}{t:TypeId}{cs:List D}(hv:H[v]? = some (.row t g cs)){L:Loc}(e9:c.ι v g=some L)(gI:L.jc=false)
  {arr:Array Value} (mo:w.heap[L.b]? = some (.cells arr t (0,0))) (nH:Array Value) (gV:nH.size=arr.size) (lJ:L.top=arr.size) (mm:List D) (hlen:L.base+mm.length≤L.top)
  (hc:∀ (i:Nat) (d:D),mm[i]? = some d→∃ u,nH[L.base+i]? = some u∧u.oneCell'=true∧eW c w u d) :
  fr G c (H.set v (.row t g mm)) (w.setRow L.b nH)∧Step H.length c H w c (H.set v (.row t g mm)) (w.setRow L.b nH):=by
 refine TX (w':=w.setRow L.b nH) (ob':=.row t g mm) h hv rfl rfl rfl e9 gI ⟨rfl,Nat.le_refl _⟩ rfl rfl (by simp[World.setRow]) (fun b hb=>by simp only[World.setRow,bk];rw[if_neg (dB hb)]) fun hr=>?_
 simp only[gq,gI]
 refine⟨nH,setRow_heap w L.b arr _ t _ mo,by rw[lJ,gV],hlen,fun i d hd=>?_⟩
 obtain⟨x,oX,kD,uz⟩:=hc i d hd
 exact⟨x,oX,kD,hr _ _ uz⟩
def vj:Value→D
 | .slice none 0 0=>.eU
 | v=>.val v
def GJ:Value→Option D
 | .slice none 0 0=>some .eU
 | .agg cs=>if cs.all (·.oneCell')then some (.agg (cs.toList.map vj))else none
 | .tuple _=>none
 | v=>some (.val v)
def cX(G:GT):Operand→Option X
 | .tmp t=>some (.t t)
 | .const v=>(GJ v).map .c
 | .global g=>(G g).map fun cs=>.c (.fj cs)
 | .func f=>some (.c (.fn (.func f) [] []))
def tU(G:GT):List Operand→Option (List X)
 | []=>some []
 | x::r=>match cX G x,tU G r with
  | some a,some l=>some (a::l)
  | _,_=>none
def vi(G:GT):List (Nat×Operand)→Option (List (Nat×X))
 | []=>some []
 | (i,x)::r=>match cX G x,vi G r with
  | some a,some l=>some ((i,a)::l)
  | _,_=>none
def pF(G:GT):Option Operand→Option (Option X)
 | none=>some none
 | some x=>(cX G x).map some
def jE(P:Program)(t:TypeId):Option Nat:=(P.info? t).map (·.size)
def o9(P:Program)(t:TypeId):Option (List D):=match (P.info? t).bind (·.zero)with
 | some z=>if z.cells.all (·.oneCell')then some (z.cells.toList.map vj)else none
 | none=>none
def nG(P:Program)(t:TypeId):Option Bool:=match P.underlying t with
 | some (.struct _)|some (.array _ _)=>some true
 | some _=>some false
 | none=>none
def Rh(P:Program)(t:TypeId):Bool:=match P.underlying t with
 | some (.int _)|some .string|some .bool=>true
 | _=>false
def Gp(P:Program)(t:TypeId):Bool:=match P.underlying t with
 | some .bool=>true
 | _=>false
def uF(P:Program)(t:TypeId):Option nC:=match P.underlying t with
 | some (.int _)=>some .int
 | some .string=>some .str
 | some .bool=>some .bool
 | _=>none
def G1(P:Program):Nat→List Field→Option (List nC)
 | _,[]=>some []
 | i,f::r=>match uF P f.type,G1 P (i+1) r with
  | some l,some ls=>if f.offset=i∧f.name≠ "_" then some (l::ls)else none
  | _,_=>none
def G2(P:Program)(t:TypeId):Option (List nC):=match P.underlying t with
 | some (.struct fs)=>if P.stoodInHeld t=false∧P.eqGuardType P.depth t=false then G1 P 0 fs.toList else none
 | some (.array n e)=>if P.eqGuardType P.depth t=false∧P.cellsOf e=1∧(P.info? e).isSome=true then(uF P e).map (List.replicate n)else none
 | _=>none
def CW(P:Program)(fs:Array Field):List (Nat×X)→Option (List (Nat×Nat×X))
 | []=>some []
 | (i,x)::r=>match fs[i]?,CW P fs r with
  | some f,some l=>(jE P f.type).map fun n=>(f.offset,n,x)::l
  | _,_=>none
def PH(P:Program)(fs:Array Field):Bool:=fs.all fun f=>(jE P f.type).isSome
def p8(P:Program)(f:FuncId):Bool:=match P.funcs[f]? with
 | some fn=>fn.name != "runtime.NumGoroutine" && fn.body.isSome
 | none=>false
def xW(P:Program):Nat→List Field→Option (List IntKind)
 | _,[]=>some []
 | i,f::r=>match P.underlying f.type,xW P (i+1) r with
  | some (.int k),some ks=>if f.offset=i∧f.name≠ "_" then some (k::ks)else none
  | _,_=>none
def rv(P:Program)(t:TypeId):Option KK:=match P.underlying t with
 | some (.struct fs)=>if P.stoodInHeld t=false then(xW P 0 fs.toList).map .ints else none
 | some (.int k)=>some (.int k)
 | some .string=>some .str
 | some .bool=>some .bool
 | _=>none
def AE(P:Program)(t:TypeId):Option D:=(P.info? t).bind fun i=>i.zero.bind GJ
def ml(P:Program)(G:GT)(o:Oper):Option ij:=
 match o.op with
 | .move x=>do let a ← cX G x;pure (.mv a)
 | .assign x=>do let a ← cX G x;pure (.mv a)
 | .pick c a b=>do pure (.pick (← cX G c) (← cX G a) (← cX G b))
 | .box e x=>do pure (.box e (← cX G x))
 | .alloc e=>do pure (.alloc e (← o9 P e))
 | .build t ps=>do
  let z ← o9 P t
  let l ← vi G ps.toList
  match P.underlying t with
  | some (.struct fs)=>if PH P fs then do pure (.build z (← CW P fs l))else none
  | some (.array _ e)=>do
   let sz ← jE P e
   pure (.build z (l.map fun p=>(p.1*sz,sz,p.2)))
  | _=>none
 | .buildSlice t n ps=>do
  let .slice e ← P.underlying t|none
  let z ← o9 P e
  let sz ← jE P e
  let l ← vi G ps.toList
  if z.length=sz∧0<sz∧n*sz≤16777216 then pure (.buildSl e sz z n l)else none
 | .load t a=>do
  let x ← cX G a
  let n ← jE P t
  if ← nG P t then pure (.ldN n x)else pure (.ld1 x)
 | .store t a v=>do
  let x ← cX G a
  let y ← cX G v
  let n ← jE P t
  if ← nG P t then pure (.stN n x y)else if n=1 then pure (.st1 x y)else none
 | .nilCheck x=>do pure (.nilck (← cX G x))
 | .binOp op t x y _=>do
  let a ← cX G x
  let b ← cX G y
  match op with
  | .eql=>if Gp P t then pure (.eqS false [.bool] false a b)else if Rh P t then pure (.arith .eql a b)else do pure (.eqS true (← G2 P t) false a b)
  | .neq=>if Gp P t then pure (.eqS false [.bool] true a b)else if Rh P t then pure (.arith .neq a b)else do pure (.eqS true (← G2 P t) true a b)
  | op=>pure (.arith op a b)
 | .unOp op _ x=>do pure (.un op (← cX G x))
 | .convert s d x=>do
  let a ← cX G x
  let _ ← P.underlying s
  match P.underlying d with
  | some (.int k)=>pure (.conv k a)
  | some .string=>do
   let .slice e ← P.underlying s|none
   let .int .u8 ← P.underlying e|none
   pure (.b2s a)
  | _=>none
 | .makeFunc f first cap=>do pure (.mkfn f (← tU G first.toList) (← tU G cap.toList))
 | .makeMap t none=>do
  let .map k _ ← P.underlying t|none
  pure (.mkmap (← rv P k))
 | .lookup t x i ok=>do
  let .map k e ← P.underlying t|none
  let z ← AE P e
  pure (.lookup (← rv P k) z ok (← cX G x) (← cX G i))
 | .mapUpdate t m k v=>do
  let .map kt _ ← P.underlying t|none
  pure (.mapUpd (← rv P kt) (← cX G m) (← cX G k) (← cX G v))
 | .insert t m k v=>do
  let .map kt _ ← P.underlying t|none
  pure (.mapUpd (← rv P kt) (← cX G m) (← cX G k) (← cX G v))
 | .makeSlice t l c=>do
  let .slice e ← P.underlying t|none
  let z ← o9 P e
  let i ← P.info? e
  if z.length=i.size∧0<i.size then pure (.mksl e i.size i.bytes z (← cX G l) (← cX G c))else none
 | .slice t x lo hi none=>do
  let a ← cX G x
  let l ← pF G lo
  let h ← pF G hi
  match P.underlying t with
  | some (.slice e)=>do pure (.slc (← jE P e) a l h)
  | some .string=>pure (.slcS a l h)
  | some (.array n e)=>do pure (.slcArr (← jE P e) n a l h)
  | _=>none
 | .slice t x lo (some hi) (some mx)=>do
  let a ← cX G x
  let l ← pF G lo
  let h ← cX G hi
  let m ← cX G mx
  let .slice e ← P.underlying t|none
  pure (.slc3 (← jE P e) a l h m)
 | .fieldAddr t x f=>do
  let a ← cX G x
  let .struct fs ← P.underlying t|none
  let fd ← fs[f]?
  let n ← jE P fd.type
  if 0<n then pure (.fieldA fd.offset a)else none
 | .field t x f=>do
  let a ← cX G x
  let .struct fs ← P.underlying t|none
  let fd ← fs[f]?
  let n ← jE P fd.type
  pure (.field fd.offset n (← nG P fd.type) a)
 | .indexAddr t x i=>do
  let a ← cX G x
  let j ← cX G i
  match P.underlying t with
  | some (.slice e)=>do
   let n ← jE P e
   if 0<n then pure (.idxA n a j)else none
  | some (.array n e)=>do pure (.idxArr (← jE P e) n a j)
  | _=>none
 | .index t x i=>do
  let a ← cX G x
  let j ← cX G i
  match P.underlying t with
  | some (.array n e)=>do pure (.idx (← jE P e) n (← nG P e) a j)
  | some .string=>pure (.idxStr a j)
  | _=>none
 | .extract x i=>do pure (.ext (← cX G x) i)
 | .call c=>do
  let args ← tU G c.args.toList
  match c.callee with
  | .value (.func f)=>if p8 P f then pure (if G.nw f then .callN f args else .call f args)else none
  | .value f=>do pure (.callv (← cX G f) args)
  | .builtin .append=>match c.argTypes.toList,args with
   | [t,u],[x,y]=>do
    let .slice e ← P.underlying t|none
    let i ← P.info? e
    let z ← o9 P e
    let .slice _ ← P.underlying u|none
    if z.length=i.size∧0<i.size then pure (.app e i.size i.bytes x y)else none
   | _,_=>none
  | .builtin .copy=>match c.argTypes.toList,args with
   | [t,u],[x,y]=>do
    let .slice e ← P.underlying t|none
    let .slice _ ← P.underlying u|none
    let n ← jE P e
    if 0<n then pure (.copy n x y)else none
   | _,_=>none
  | .builtin .len=>match c.argTypes.toList,args with
   | [t],[x]=>match P.underlying t with
    | some (.slice _)=>pure (.len .slice x)
    | some .string=>pure (.len .string x)
    | some (.map _ _)=>pure (.len .map x)
    | _=>none
   | _,_=>none
  | .builtin .max=>pure (.minmax true args)
  | .builtin .min=>pure (.minmax false args)
  | _=>none
 | _=>none
end Go.AL
namespace Go.AL
open Go
def kb(c:Ctx)(w:World)(env:gd)(a:Act):Prop:=∀ k,eW c w (a.tmps.getD k undef) (env k)
def iB(G:GT)(c:Ctx)(H:U)(w:World)(K:iU)(v:Value)(w':World):Prop:=
 ∃ d H' c',K d H'∧fr G c' H' w'∧eW c' w' v d∧Step H.length c H w c' H' w'
section
variable{P:Program}{G:GT}{c:Ctx}{H:U}{w:World}{K:iU}{env:gd}{a:Act}
def iB.plain(h:fr G c H w){v:Value}{d:D}(hK:K d H)(hr:eW c w v d):iB G c H w K v w:=
 ⟨d,H,c,hK,h,hr,Step.refl _ _ _ _⟩
def SO(v:Value):eW c w v (vj v):=by
 unfold vj
 split
 ·exact .eU
 ·exact .val _
def ME{v:Value}{d:D}(h:GJ v=some d):eW c w v d:=by
 unfold GJ at h
 split at h
 ·cases h;exact .eU
 ·rename_i cs
  split at h
  ·rename_i jO
   cases h
   have:=eW.agg (c:=c) (w:=w) cs.toList (cs.toList.map vj) (by simp) (fun v hv=>by
    have:=bZ.1 jO v (by simpa using hv)
    exact this) (fun i v d hv hd=>by
    simp only[aq,hv,aH,ak]at hd
    subst hd
    exact SO v)
   simpa using this
  ·cases h
 ·cases h
 ·cases h;exact .val _
def ia(h:fr G c H w)(he:kb c w env a){x:Operand}{X:X}(hx:cX G x=some X):eW c w (a.eval x) (ev env X):=by
 cases x with
 | tmp t=>cases hx;exact he t
 | const v=>
  simp only[cX,aj]at hx
  obtain⟨d,hd,rfl⟩:=hx
  exact ME hd
 | global g=>
  simp only[cX,aj]at hx
  obtain⟨cs,iL,rfl⟩:=hx
  exact(h.gl g cs iL).2
 | func f=>cases hx;exact .fn (.func f) [] [] [] [] rfl rfl (by simp) (by simp)
theorem wZ(h:fr G c H w)(he:kb c w env a):∀ (l:List Operand) {xs:List X},tU G l=some xs→iS c w (l.map a.eval) (xs.map (ev env))
 | [],xs,hx=>by cases hx;exact .nil
 | x::r,xs,hx=>by
  simp only[tU]at hx
  split at hx
  ·rename_i X l hX hl
   cases hx
   exact .cons (ia h he hX) (wZ h he r hl)
  ·cases hx
theorem iS.length{vs:List Value}{ds:List D}(h:iS c w vs ds):vs.length=ds.length:=by
 induction h with
 | nil=>rfl
 | cons _ _ ih=>simp[ih]
def iS.get{vs:List Value}{ds:List D}(h:iS c w vs ds):∀ (i:Nat) (v:Value) (d:D),vs[i]? = some v→ds[i]? = some d→eW c w v d:=by
 induction h with
 | nil=>intro i v d hv;simp at hv
 | cons h _ ih=>
  intro i v d hv hd
  cases i with
  | zero=>simp at hv hd;subst hv;subst hd;exact h
  | succ i=>simp at hv hd;exact ih i v d hv hd
def iS.append{vs us:List Value}{ds es:List D}(h:iS c w vs ds)(k:iS c w us es):iS c w (vs++us) (ds++es):=by
 induction h with
 | nil=>exact k
 | cons h _ ih=>exact .cons h ih
theorem iS.CT:∀ {vs:List Value} {ds:List D},vs.length=ds.length→(∀ (i:Nat) (v:Value) (d:D),vs[i]? = some v→ds[i]? = some d→eW c w v d)→iS c w vs ds
 | [],[],_,_=>.nil
 | v::vs,d::ds,hl,h=>.cons (h 0 v d rfl rfl) (iS.CT (by simpa using hl) fun i v d hv hd=>h (i+1) v d (by simpa using hv) (by simpa using hd))
theorem Cells.agg{vs:List Value}{cs:List D}(h:Cells c w vs cs):eW c w (.agg vs.toArray) (.agg cs):=.agg vs cs h.len h.one h.rep
theorem Cells.drop{vs:List Value}{cs:List D}(h:Cells c w vs cs)(n:Nat):Cells c w (vs.drop n) (cs.drop n):=
 ⟨by simp[h.len],fun v hv=>h.one v (bp hv),fun i v d hv hd=>h.rep (n+i) v d (by simpa using hv) (by simpa using hd)⟩
theorem Cells.take{vs:List Value}{cs:List D}(h:Cells c w vs cs)(n:Nat):Cells c w (vs.take n) (cs.take n):=
 ⟨by simp[h.len],fun v hv=>h.one v (aN hv),fun i v d hv hd=>by
  rw[aC]at hv hd
  split at hv
  ·rename_i hi;rw[if_pos hi]at hd;exact h.rep i v d hv hd
  ·cases hv⟩
def Cells.append{vs us:List Value}{cs ds:List D}(h:Cells c w vs cs)(k:Cells c w us ds):Cells c w (vs++us) (cs++ds):=
 ⟨by simp[h.len,k.len],fun v hv=>by
  rcases List.mem_append.1 hv with hv|hv
  ·exact h.one v hv
  ·exact k.one v hv,fun i v d hv hd=>by
  rw[List.getElem?_append]at hv hd
  split at hv
  ·rename_i hi;rw[if_pos (by rw[← h.len];exact hi)]at hd;exact h.rep i v d hv hd
  ·rename_i hi;rw[if_neg (by rw[← h.len];exact hi)]at hd;rw[← h.len]at hd;exact k.rep _ v d hv hd⟩
def Cells.nil:Cells c w [] []:=⟨rfl,by simp,by simp⟩
def Cells.get{vs:List Value}{cs:List D}(h:Cells c w vs cs){i:Nat}{d:D}(hd:cs[i]? = some d):∃ v,vs[i]? = some v∧v.oneCell'=true∧eW c w v d:=by
 have hi:i<vs.length:=by rw[h.len];exact(af.1 hd).1
 exact⟨vs[i],by simp[hi],h.one _ (bF hi),h.rep i _ d (by simp[hi]) hd⟩
def qW(c:Ctx)(w:World)(b o:Nat)(cs:List D):Prop:=∃ vs,Cells c w vs cs∧∀ (j:Nat) (v:Value),vs[j]? = some v→w.cell? ⟨b,o+j,none⟩=some v
theorem qW.drop{b o:Nat}{cs:List D}(h:qW c w b o cs)(n:Nat):qW c w b (o+n) (cs.drop n):=by
 obtain⟨vs,hc,hv⟩:=h
 exact⟨vs.drop n,hc.drop n,fun j v hj=>by rw[aD]at hj;have:=hv _ _ hj;rwa [a7]⟩
theorem qW.take{b o:Nat}{cs:List D}(h:qW c w b o cs)(n:Nat):qW c w b o (cs.take n):=by
 obtain⟨vs,hc,hv⟩:=h
 refine⟨vs.take n,hc.take n,fun j v hj=>?_⟩
 rw[aC]at hj
 split at hj
 ·exact hv _ _ hj
 ·cases hj
def uP(h:fr G c H w){v g:Nat}{t:TypeId}{cs:List D}(hv:H[v]? = some (.row t g cs)){L:Loc}(e9:c.ι v g=some L)(gI:L.jc=false) :
  ∃ arr:Array Value,w.heap[L.b]? = some (.cells arr t (0,0))∧L.top=arr.size∧L.base+cs.length≤L.top∧Cells c w ((arr.toList.drop L.base).take cs.length) cs:=by
 have h0:=h.ob v _ hv
 simp only[Ob.gen]at h0
 rw[e9]at h0
 simp only[gq,gI]at h0
 obtain⟨arr,h1,h2,h3,h4⟩:=h0
 refine⟨arr,h1,h2,h3,⟨by simp;omega,fun u hu=>?_,fun i u d hu hd=>?_⟩⟩
 ·obtain⟨i,hi⟩:=aG.1 hu
  rw[aC]at hi
  split at hi
  ·rename_i gi
   rw[aD]at hi
   obtain⟨x,hx,h5,_⟩:=h4 i cs[i] (by simp[gi])
   have:arr[L.base+i]? = some u:=by simpa using hi
   rw[hx]at this
   cases this
   exact h5
  ·cases hi
 ·rw[aC]at hu
  split at hu
  ·rw[aD]at hu
   obtain⟨x,hx,_,h6⟩:=h4 i d hd
   have:arr[L.base+i]? = some u:=by simpa using hu
   rw[hx]at this
   cases this
   exact h6
  ·cases hu
def Gv(h:fr G c H w){v g o:Nat}{t:TypeId}{cs:List D}(hv:H[v]? = some (.row t g cs)){u:Value}(hr:eW c w u (.ptr v g o)) :
  ∃ b p,u = .pointer (some ⟨b,p,none⟩)∧qW c w b p (cs.drop o):=by
 cases hr with
 | ptr _ _ _ L e9 gI=>
  obtain⟨arr,h1,h2,h3,h4⟩:=uP h hv e9 gI
  refine⟨L.b,L.base+o,rfl,?_⟩
  refine qW.drop ⟨_,h4,fun j x hx=>?_⟩ o
  rw[aC]at hx
  split at hx
  ·rw[aD]at hx
   simp[World.cell?,h1]
   simpa using hx
  ·cases hx
def vm{u:Value}{cs:List D}(hr:eW c w u (.fj cs)):∃ b p,u = .pointer (some ⟨b,p,none⟩)∧c.F b∧qW c w b p cs:=by
 cases hr with
 | fj b o _ g hF hc hr=>
  refine⟨b,o,rfl,hF,(List.range cs.length).map g,⟨by simp,fun v hv=>?_,fun i v d hv hd=>?_⟩,fun j v hv=>?_⟩
  ·simp only[aw,bC]at hv
   obtain⟨j,hj,rfl⟩:=hv
   exact(hc j cs[j] (by simp[hj])).2
  ·simp only[aq,aj,bX (af.1 hd).1]at hv
   obtain⟨_,e,rfl⟩:=hv
   cases e
   exact hr i d hd
  ·have hj:j<cs.length:=by have:=(af.1 hv).1;simpa using this
   simp only[aq,bX hj,aH,ak]at hv
   subst hv
   exact(hc j cs[j] (by simp[hj])).1
def J9{b o:Nat}{cs:List D}(hF:c.F b)(h:qW c w b o cs):eW c w (.pointer (some ⟨b,o,none⟩)) (.fj cs):=by
 obtain⟨vs,hc,hv⟩:=h
 refine .fj b o cs (fun j=>vs.getD j undef) hF (fun j d hd=>?_) (fun j d hd=>?_)
 ·obtain⟨u,hu,h1,_⟩:=hc.get hd
  simp only[List.getD,hu,aL]
  exact⟨hv j u hu,h1⟩
 ·obtain⟨u,hu,_,h1⟩:=hc.get hd
  simp only[List.getD,hu,aL]
  exact h1
def yA{t:TypeId}{b:Bool}(h:nG P t=some b)(w:World):(isAgg t).run P w = .ok b w:=by
 unfold nG at h
 unfold isAgg
 cases hu:P.underlying t with
 | none=>simp[hu]at h
 | some d=>cases d<;>simp[hu]at h<;>subst h<;>simp[run_underlying hu]
def o6{t:TypeId}{n:Nat}(h:jE P t=some n)(w:World):(sizeOf t).run P w = .ok n w:=by
 simp only[jE,aj]at h
 obtain⟨i,hi,rfl⟩:=h
 simp[sizeOf,typeInfo,hi]
def run_typeInfo{t:TypeId}{i:TypeInfo}(h:P.info? t=some i)(w:World):(typeInfo t).run P w = .ok i w:=by simp[typeInfo,h]
def wC{t:TypeId}{z:List D}(h:o9 P t=some z)(w:World):∃ v:Value,(zeroValue t).run P w = .ok v w∧(P.info? t).bind (·.zero)=some v ∧
  ∀ c w,Cells c w v.cells.toList z:=by
 unfold o9 at h
 cases hi:P.info? t with
 | none=>simp[hi]at h
 | some i=>
  simp only[hi,Option.bind_some]at h
  cases hz:i.zero with
  | none=>simp[hz]at h
  | some v=>
   simp only[hz]at h
   split at h
   ·rename_i jO
    cases h
    refine⟨v,by simp[zeroValue,run_typeInfo hi,hz],by simp[hz],fun c w=>⟨by simp,fun u hu=>?_,fun i u d hu hd=>?_⟩⟩
    ·exact bZ.1 jO u (by simpa using hu)
    ·simp only[aq,hu,aH,ak]at hd
     subst hd
     exact SO u
   ·cases h
def IN{t:TypeId}(ha:nG P t=some false){b o:Nat}{cs:List D}(hc:qW c w b o cs){d:D}(hd:cs[0]? = some d) :
  ∃ u,(Instr.loadAt t (.pointer (some ⟨b,o,none⟩))).run P w = .ok u w∧u.oneCell'=true∧eW c w u d:=by
 obtain⟨vs,iL,hv⟩:=hc
 obtain⟨u,hu,h1,h2⟩:=iL.get hd
 have:=hv 0 u hu
 exact⟨u,by simp[Instr.loadAt,Instr.sureAddr,loadVar,yA ha];simp at this;simp[this],h1,h2⟩
def IP{t:TypeId}{n:Nat}(ha:nG P t=some true)(hs:jE P t=some n){b o:Nat}{cs:List D}(hc:qW c w b o cs)(hn:n≤cs.length) :
  ∃ u,(Instr.loadAt t (.pointer (some ⟨b,o,none⟩))).run P w = .ok u w∧eW c w u (.agg (cs.take n)):=by
 obtain⟨vs,iL,hv⟩:=hc.take n
 have hl:vs.length=n:=by rw[iL.len];simp;omega
 have:=run_loadCells_list (P:=P) w ⟨b,o,none⟩ vs (fun j v hj=>by rw[Addr.add_lit];exact hv j v hj)
 rw[hl]at this
 exact⟨.agg vs.toArray,by simp[Instr.loadAt,Instr.sureAddr,loadVar,yA ha,o6 hs,this],iL.agg⟩
def qP{v g:Nat}{x:TypeId×List D}(h:rowAt H v g=some x):H[v]? = some (.row x.1 g x.2):=by
 unfold rowAt at h
 split at h
 ·split at h
  ·rename_i e;subst e;cases h;assumption
  ·cases h
 ·cases h
def aeI(h:fr G c H w){t:TypeId}(ha:nG P t=some false){x:D}{u:Value}(hr:eW c w u x)(hk:CB x H K) :
  ∃ v,(Instr.loadAt t u).run P w = .ok v w∧iB G c H w K v w:=by
 unfold CB at hk
 split at hk
 ·rename_i v g o
  split at hk
  ·rename_i t' cs gH
   have hv:=qP gH
   split at hk
   ·rename_i d hd
    obtain⟨b,p,rfl,hc⟩:=Gv h hv hr
    obtain⟨u,hu,_,h2⟩:=IN ha hc (d:=d) (by simpa using hd)
    exact⟨u,hu,.plain h hk h2⟩
   ·exact hk.elim
  ·exact hk.elim
 ·rename_i cs
  split at hk
  ·rename_i d hd
   obtain⟨b,p,rfl,_,hc⟩:=vm hr
   obtain⟨u,hu,_,h2⟩:=IN ha hc hd
   exact⟨u,hu,.plain h hk h2⟩
  ·exact hk.elim
 ·exact hk.elim
def aeJ(h:fr G c H w){t:TypeId}{n:Nat}(ha:nG P t=some true)(hs:jE P t=some n){x:D}{u:Value}(hr:eW c w u x)(hk:CD n x H K) :
  ∃ v,(Instr.loadAt t u).run P w = .ok v w∧iB G c H w K v w:=by
 unfold CD at hk
 split at hk
 ·rename_i v g o
  split at hk
  ·rename_i t' cs gH
   have hv:=qP gH
   obtain⟨b,p,rfl,hc⟩:=Gv h hv hr
   obtain⟨u,hu,h2⟩:=IP (n:=n) ha hs hc (by simp;omega)
   exact⟨u,hu,.plain h hk.2 h2⟩
  ·exact hk.elim
 ·rename_i cs
  obtain⟨b,p,rfl,_,hc⟩:=vm hr
  obtain⟨u,hu,h2⟩:=IP (n:=n) ha hs hc hk.1
  exact⟨u,hu,.plain h hk.2 h2⟩
 ·exact hk.elim
def aeR(h:fr G c H w){x y z:D}{u v t:Value}(h1:eW c w u x)(h2:eW c w v y)(h3:eW c w t z)(hk:CV x y z H K) :
  ∃ b,u = .bool b∧iB G c H w K (if b then v else t) w:=by
 unfold CV at hk
 split at hk
 ·rename_i b
  cases h1
  refine⟨b,rfl,.plain h hk ?_⟩
  cases b
  ·exact h3
  ·exact h2
 ·exact hk.elim
end
end Go.AL
namespace Go.AL
open Go
section
variable{P:Program}{G:GT}{c:Ctx}{H:U}{w:World}{K:iU}{env:gd}{a:Act}
def wrap_i64{n:Int}(h:mI n):IntKind.i64.wrap n=n:=by
 unfold mI at h
 simp only[IntKind.wrap,IntKind.signed,IntKind.bits]
 simp
 omega
theorem iB.val(h:fr G c H w){v:Value}(hK:K (.val v) H):iB G c H w K v w:=.plain h hK (.val _)
def aep(h:fr G c H w){op:BinOp}{k:IntKind}{x y:Int}(hk:A8 op k x y H K)(hs:op≠.shl∧op≠.shr)(t:TypeId)(xo yo:Operand) :
  ∃ v,(do eqGuard op t xo yo (.int k x) (.int k y);binOp op t (.int k x) (.int k y)).run P w = .ok v w∧iB G c H w K v w:=by
 have hg:(eqGuard op t xo yo (.int k x) (.int k y)).run P w = .ok () w:=by
  cases op<;>simp[eqGuard]
 simp only[Sem.run_bind,hg,Result.andThen_ok]
 cases op<;>simp only[A8]at hk
 case add=>
  by_cases e:k = .i64
  ·subst e
   simp only[if_true]at hk
   exact⟨_,by simp[binOp,Op.intArith,wrap_i64 hk.1]<;>rfl,.val h hk.2⟩
  ·rw[if_neg e]at hk
   exact⟨_,by simp[binOp,Op.intArith]<;>rfl,.val h hk⟩
 case sub=>
  by_cases e:k = .i64
  ·subst e
   simp only[if_true]at hk
   exact⟨_,by simp[binOp,Op.intArith,wrap_i64 hk.1]<;>rfl,.val h hk.2⟩
  ·rw[if_neg e]at hk
   exact⟨_,by simp[binOp,Op.intArith]<;>rfl,.val h hk⟩
 case mul=>
  by_cases e:k = .i64
  ·subst e
   simp only[if_true]at hk
   exact⟨_,by simp[binOp,Op.intArith,wrap_i64 hk.1]<;>rfl,.val h hk.2⟩
  ·rw[if_neg e]at hk
   exact⟨_,by simp[binOp,Op.intArith]<;>rfl,.val h hk⟩
 case quo=>exact⟨_,by simp[binOp,Op.intDiv,hk.1]<;>rfl,.val h hk.2⟩
 case rem=>exact⟨_,by simp[binOp,Op.intDiv,hk.1]<;>rfl,.val h hk.2⟩
 case and=>exact⟨_,by simp[binOp,Op.intBits]<;>rfl,.val h (by simpa[bits]using hk)⟩
 case or=>exact⟨_,by simp[binOp,Op.intBits]<;>rfl,.val h (by simpa[bits]using hk)⟩
 case xor=>exact⟨_,by simp[binOp,Op.intBits]<;>rfl,.val h (by simpa[bits]using hk)⟩
 case andNot=>exact⟨_,by simp[binOp,Op.intBits]<;>rfl,.val h (by simpa[bits]using hk)⟩
 case eql=>exact⟨_,by simp[binOp,Op.intCmp]<;>rfl,.val h hk⟩
 case neq=>exact⟨_,by simp[binOp,Op.intCmp]<;>rfl,.val h hk⟩
 case lss=>exact⟨_,by simp[binOp,Op.intCmp]<;>rfl,.val h hk⟩
 case leq=>exact⟨_,by simp[binOp,Op.intCmp]<;>rfl,.val h hk⟩
 case gtr=>exact⟨_,by simp[binOp,Op.intCmp]<;>rfl,.val h hk⟩
 case geq=>exact⟨_,by simp[binOp,Op.intCmp]<;>rfl,.val h hk⟩
 all_goals exact absurd rfl (by first|exact hs.1|exact hs.2)
def Mn(h:fr G c H w){op:BinOp}{x y:D}{u v:Value}(h1:eW c w u x)(h2:eW c w v y)(hk:Bb op x y H K)(t:TypeId)(xo yo:Operand) :
  ∃ r,(do eqGuard op t xo yo u v;binOp op t u v).run P w = .ok r w∧iB G c H w K r w:=by
 unfold Bb at hk
 split at hk
 ·cases h1;cases h2
  split at hk
  ·have key:∀ op,oi op=true→op = .shl∨op = .shr:=fun op ho=>by cases op<;>simp[oi]at ho<;>simp
   rename_i hs
   rcases key op hs with rfl|rfl
   ·simp only[Dh]at hk
    have hn:=hk.1
    exact⟨_,by simp[eqGuard,binOp,Op.shift,eM.2 hn]<;>rfl,.val h hk.2⟩
   ·simp only[Dh]at hk
    have hn:=hk.1
    exact⟨_,by simp[eqGuard,binOp,Op.shift,eM.2 hn]<;>rfl,.val h hk.2⟩
  ·rename_i hs
   obtain⟨rfl,hk⟩:=hk
   exact aep h hk ⟨fun e=>by subst e;exact hs rfl,fun e=>by subst e;exact hs rfl⟩ t xo yo
 ·cases h1;cases h2
  rename_i p q
  cases op<;>simp only[I0]at hk
  case add=>exact⟨.string (p++q),by simp[eqGuard,binOp,run_string_add_sum w p q (by have:=hk.1;omega)],.val h hk.2⟩
  case eql=>exact⟨_,by simp[eqGuard,binOp,Op.stringOp,ByteArray.toList_eq]<;>rfl,.val h (by simpa using hk)⟩
  case neq=>exact⟨_,by simp[eqGuard,binOp,Op.stringOp,ByteArray.toList_eq]<;>rfl,.val h (by simpa using hk)⟩
 ·exact hk.elim
def aeZ(h:fr G c H w){op:UnOp}{x:D}{u:Value}(h1:eW c w u x)(hk:Dy op x H K) :
  ∃ r,(Op.unary op u).run P w = .ok r w∧iB G c H w K r w:=by
 unfold Dy at hk
 split at hk
 ·cases h1;exact⟨_,by simp[Op.unary]<;>rfl,.val h hk⟩
 ·cases h1
  rename_i n
  have:(0-n) = -n:=by omega
  exact⟨_,by simp[Op.unary,Op.intArith,wrap_i64 hk.1]<;>rfl,.val h hk.2⟩
 ·cases h1;exact⟨_,by simp[Op.unary,Op.intBits]<;>rfl,.val h (by simpa[bits]using hk)⟩
 ·exact hk.elim
def za{d:D}{v:Value}{cs:List D}(hr:eW c w v d)(hc:cellsOf d=some cs):Cells c w v.cells.toList cs:=by
 have key:∀ {v:Value} {d:D},eW c w v d→v.oneCell'=true→v.cells = #[v]→Cells c w v.cells.toList [d]:=fun{v d} hr h1 hv=>by
  rw[hv]
  exact⟨rfl,by simpa using h1,fun i u e hu he=>by
   cases i with
   | zero=>simp at hu he;subst hu;subst he;exact hr
   | succ i=>simp at hu⟩
 cases hr with
 | any v=>simp[cellsOf]at hc
 | val v=>
  simp only[cellsOf]at hc
  split at hc
  ·rename_i h1
   cases hc
   refine key (.val v) h1 ?_
   cases v<;>first|rfl|(simp[Value.oneCell']at h1)
  ·cases hc
 | agg vs ds hl h1 h=>
  simp only[cellsOf,ak]at hc
  subst hc
  exact⟨by simpa[Value.cells]using hl,by simpa[Value.cells]using h1,fun i v d hv hd=>h i v d (by simpa[Value.cells]using hv) hd⟩
 | tup=>simp[cellsOf]at hc
 | sl a len cap sz es g h1 h2 h3 h4 h5 h6 h7=>simp only[cellsOf,ak]at hc;subst hc;exact key (.sl a len cap sz es g h1 h2 h3 h4 h5 h6 h7) rfl rfl
 | eU=>simp only[cellsOf,ak]at hc;subst hc;exact key .eU rfl rfl
 | lA a vs h1 h2 h3=>simp only[cellsOf,ak]at hc;subst hc;exact key (.lA a vs h1 h2 h3) rfl rfl
 | eX v k sz off len cap L h1 h2 h3 h4 h5=>simp only[cellsOf,ak]at hc;subst hc;exact key (.eX v k sz off len cap L h1 h2 h3 h4 h5) rfl rfl
 | lE v k sz off L h1 a=>simp only[cellsOf,ak]at hc;subst hc;exact key (.lE v k sz off L h1 a) rfl rfl
 | ptr v k off L h1 h2=>simp only[cellsOf,ak]at hc;subst hc;exact key (.ptr v k off L h1 h2) rfl rfl
 | fj b o cs g h1 h2 h3=>simp only[cellsOf,ak]at hc;subst hc;exact key (.fj b o cs g h1 h2 h3) rfl rfl
 | gF v L h1 h2=>simp only[cellsOf,ak]at hc;subst hc;exact key (.gF v L h1 h2) rfl rfl
 | fn f fs cs df dc h1 h2 h3 h4=>simp only[cellsOf,ak]at hc;subst hc;exact key (.fn f fs cs df dc h1 h2 h3 h4) rfl rfl
 | iA v L h1 h2=>simp only[cellsOf,ak]at hc;subst hc;exact key (.iA v L h1 h2) rfl rfl
def ae0{d:D}(h:one d=true):cellsOf d=some [d]:=by
 cases d<;>first|rfl|(simp[one]at h;done)|skip
 rename_i v
 simp only[one]at h
 simp[cellsOf,h]
def afd{L:Loc}(hv:L.jc=false)(h0:L.base=0)(v g:Nat):eW (c.set v g L) w (.pointer (some ⟨L.b,0,none⟩)) (.ptr v g 0):=by
 have:=eW.ptr (c:=c.set v g L) (w:=w) v g 0 L (Ctx.qR _ _ _ _) hv
 simpa[h0]using this
def Sm(h:fr G c H w){al:Al}(gu:l5 H al)(t:TypeId){v:Value}{cs:List D}(hc:Cells c w v.cells.toList cs)(hk:K (.ptr al.1 0 0) (al.2 (.row t 0 cs))) :
  ∃ w',(newVar t v).run P w = .ok ⟨w.heap.size,0,none⟩ w'∧iB G c H w K (.pointer (some ⟨w.heap.size,0,none⟩)) w':=by
 obtain⟨L,h1,h2,h3,h4,h5,h6⟩:=Ab h w (jz.refl w) t v.cells.toList cs v.cells.size v.cells (gu _).qU hc (by rw[← cM,dy]) (Nat.le_refl _)
 refine⟨w.alloc (.cells v.cells t),by simp[newVar,newRow],?_⟩
 have hp:=afd (c:=c) (w:=w.alloc (.cells v.cells t)) h1 h3 al.1 0
 rw[h2]at hp
 exact⟨_,_,_,hk,h5,hp,h6⟩
def aer(h:fr G c H w){al:Al}(gu:l5 H al)(t:TypeId){x:D}{u:Value}(h1:eW c w u x)(hk:Bc t x al K) :
  ∃ r w',(Instr.box t u).run P w = .ok r w'∧iB G c H w K r w':=by
 unfold Bc at hk
 split at hk
 ·rename_i cs iL
  obtain⟨w',hr,hp⟩:=Sm (P:=P) h gu t (za h1 iL) hk
  exact⟨_,w',by simp[Instr.box,hr],hp⟩
 ·exact hk.elim
def aem(h:fr G c H w){al:Al}(gu:l5 H al){t:TypeId}{z:List D}(hz:o9 P t=some z)(hk:K (.ptr al.1 0 0) (al.2 (.row t 0 z))) :
  ∃ r w',(Instr.alloc t true (.tuple #[])).run P w = .ok r w'∧iB G c H w K r w':=by
 obtain⟨v,hv,_,hc⟩:=wC hz w
 obtain⟨w',hr,hp⟩:=Sm (P:=P) h gu t (hc c w) hk
 exact⟨_,w',by simp[Instr.alloc,hv,hr],hp⟩
def Cells.pQ{vs us:List Value}{cs ds:List D}(h:Cells c w vs cs)(k:Cells c w us ds)(o:Nat):Cells c w (vs.take o++us++vs.drop (o+us.length)) (cs.take o++ds++cs.drop (o+ds.length)):=by
 rw[k.len]
 exact((h.take o).append k).append (h.drop _)
def WH(l:List Value):∀ (off:Nat) (cs:Array Value),off+l.length≤cs.size →
  ((l.zipIdx off).foldl (fun(cs:Array Value) (x:Value×Nat)=>cs.setIfInBounds x.2 x.1) cs).toList=cs.toList.take off++l++cs.toList.drop (off+l.length):=by
 induction l with
 | nil=>intro off cs _;simp
 | cons v r ih=>
  intro off cs h
  simp only[aO]at h
  simp only[List.zipIdx_cons,bV]
  rw[ih (off+1) _ (by simp;omega)]
  simp only[Array.toList_setIfInBounds]
  have:=list_seg_step cs.toList off v r (by simp;omega)
  simpa[a7,dD 1]using this
def WB(cs:Array Value)(l:Array Value)(off:Nat)(h:off+l.size≤cs.size) :
  (l.zipIdx.foldl (fun(cs:Array Value) (x:Value×Nat)=>match x with|(c,j)=>cs.setIfInBounds (off+j) c) cs).toList=cs.toList.take off++l.toList++cs.toList.drop (off+l.size):=by
 have:=WH l.toList off cs (by simpa using h)
 rw[← Array.foldl_toList,Array.toList_zipIdx]
 have e:(l.toList.zipIdx off)=(l.toList.zipIdx 0).map fun x=>(x.1,off+x.2):=by
  rw[List.zipIdx_eq_map_add]
  first|done|(simp only[dD])
 rw[e,List.foldl_map]at this
 exact this
theorem G8(place:Nat→Option (Nat×Nat)):∀ (vs:List (Nat×Value)) (ps:List (Nat×Nat×List D)) (arr:Array Value) (cs rs:List D),
  Cells c w arr.toList cs→vs.length=ps.length →
  (∀ (i:Nat) (v:Nat×Value) (p:Nat×Nat×List D),vs[i]? = some v→ps[i]? = some p→place v.1=some (p.1,p.2.1)∧Cells c w v.2.cells.toList p.2.2) →
  lay ps cs=some rs→∃ nH,Instr.fill place arr vs=some nH∧Cells c w nH.toList rs
 | [],[],arr,cs,rs,hc,_,_,hl=>by simp[lay]at hl;subst hl;exact⟨arr,rfl,hc⟩
 | (i,v)::vs,(o,n,xs)::ps,arr,cs,rs,hc,hlen,h,hl=>by
  obtain⟨hp,hx⟩:=h 0 (i,v) (o,n,xs) rfl rfl
  simp only[lay]at hl
  split at hl
  ·rename_i iJ
   have gV:v.cells.size=n:=by rw[← iJ.1,← hx.len];simp
   have lH:o+v.cells.size≤arr.size:=by rw[gV];have:=hc.len;simp at this;omega
   simp only[Instr.fill,hp]
   rw[if_neg (by simp;omega)]
   have te:=WB arr v.cells o lH
   refine G8 place vs ps _ _ rs ?_ (by simpa using hlen) (fun i v p hv hp=>h (i+1) v p (by simpa using hv) (by simpa using hp)) hl
   rw[te]
   have:=hc.pQ hx o
   rw[iJ.1]at this
   simpa[gV]using this
  ·cases hl
theorem Gq(h:fr G c H w)(he:kb c w env a):∀ (l:List (Nat×Operand)) {ps:List (Nat×X)},vi G l=some ps →
  ps.length=l.length∧∀ (i:Nat) (x:Nat×Operand) (p:Nat×X),l[i]? = some x→ps[i]? = some p→p.1=x.1∧eW c w (a.eval x.2) (ev env p.2)
 | [],ps,hx=>by cases hx;simp
 | (i,x)::r,ps,hx=>by
  simp only[vi]at hx
  split at hx
  ·rename_i X l hX hl
   cases hx
   obtain⟨pM,qF⟩:=Gq h he r hl
   refine⟨by simp[pM],fun j y p hy hp=>?_⟩
   cases j with
   | zero=>simp at hy hp;subst hy;subst hp;exact⟨rfl,ia h he hX⟩
   | succ j=>simp at hy hp;exact qF j y p hy hp
  ·cases hx
theorem Sz{fs:Array Field}:∀ {ps:List (Nat×X)} {qs:List (Nat×Nat×X)},CW P fs ps=some qs →
  qs.length=ps.length∧∀ (i:Nat) (p:Nat×X) (q:Nat×Nat×X),ps[i]? = some p→qs[i]? = some q→q.2.2=p.2∧∃ f,fs[p.1]? = some f∧q.1=f.offset∧jE P f.type=some q.2.1
 | [],qs,h=>by cases h;simp
 | (i,x)::r,qs,h=>by
  simp only[CW]at h
  split at h
  ·rename_i f l hf hl
   simp only[aj]at h
   obtain⟨n,hn,rfl⟩:=h
   obtain⟨pM,qF⟩:=Sz hl
   refine⟨by simp[pM],fun j p q hp hq=>?_⟩
   cases j with
   | zero=>simp at hp hq;subst hp;subst hq;exact⟨rfl,f,hf,rfl,hn⟩
   | succ j=>simp at hp hq;exact qF j p q hp hq
  ·cases h
def Ms{l:List (Nat×Nat×X)}{r:List (Nat×Nat×List D)}(h:partsOf env l=some r) :
  r.length=l.length∧∀ (i:Nat) (p:Nat×Nat×X) (q:Nat×Nat×List D),l[i]? = some p→r[i]? = some q→q.1=p.1∧q.2.1=p.2.1∧cellsOf (ev env p.2.2)=some q.2.2:=by
 induction l generalizing r with
 | nil=>simp[partsOf]at h;subst h;simp
 | cons p l ih=>
  obtain⟨o,n,x⟩:=p
  simp only[partsOf]at h
  split at h
  ·rename_i cs l' iL hl
   cases h
   obtain⟨pM,qF⟩:=ih hl
   refine⟨by simp[pM],fun j p q hp hq=>?_⟩
   cases j with
   | zero=>simp at hp hq;subst hp;subst hq;exact⟨rfl,rfl,iL⟩
   | succ j=>simp at hp hq;exact qF j p q hp hq
  ·cases h
def Hi{α:Type}{l:List α}{n i:Nat}(hl:l.length=n)(hi:i<n):∃ x,l[i]? = some x:=⟨l[i],by simp[hl▸hi]⟩
def aes(h:fr G c H w)(he:kb c w env a){t:TypeId}{z:List D}{ops:Array (Nat×Operand)}{ps:List (Nat×X)}{qs:List (Nat×Nat×X)}{fs:Array Field}
  (hz:o9 P t=some z) (hp:vi G ops.toList=some ps) (hu:P.underlying t=some (.struct fs)) (hf:PH P fs=true) (hq:CW P fs ps=some qs)
  (hk:wX env z qs H K):∃ r,(Instr.build t (ops.map fun(i,x)=>(i,a.eval x))).run P w = .ok r w∧iB G c H w K r w:=by
 unfold wX at hk
 split at hk
 ·rename_i l hl
  split at hk
  ·rename_i cs iL
   obtain⟨v,hv,_,hc⟩:=wC hz w
   obtain⟨p1,p2⟩:=Gq h he ops.toList hp
   obtain⟨q1,q2⟩:=Sz hq
   obtain⟨r1,r2⟩:=Ms hl
   have Yk:∃ places:Array (Nat×Nat),(fs.mapM fun f=>do pure (f.offset,← sizeOf f.type):Sem (Array (Nat×Nat))).run P w = .ok places w∧∀ (i:Nat) (f:Field) (n:Nat),fs[i]? = some f→jE P f.type=some n→places[i]? = some (f.offset,n):=by
    have key:∀ (l:List Field),(∀ f∈l,(jE P f.type).isSome=true)→∃ pl:List (Nat×Nat),(l.mapM fun f=>do pure (f.offset,← sizeOf f.type):Sem (List (Nat×Nat))).run P w = .ok pl w∧∀ (i:Nat) (f:Field) (n:Nat),l[i]? = some f→jE P f.type=some n→pl[i]? = some (f.offset,n):=by
     intro l
     induction l with
     | nil=>intro _;exact⟨[],by simp,by simp⟩
     | cons f l ih=>
      intro jO
      obtain⟨pl,iP,iw⟩:=ih (fun g hg=>jO g (by simp[hg]))
      obtain⟨n,hn⟩:=cJ.1 (jO f (by simp))
      refine⟨(f.offset,n)::pl,?_,fun i g m hg hm=>?_⟩
      ·simp only[dM,Sem.run_bind,o6 hn,Result.andThen_ok,Sem.run_pure,iP]
      ·cases i with
       | zero=>simp at hg;subst hg;rw[hn]at hm;cases hm;rfl
       | succ i=>simp at hg ⊢;exact iw i g m hg hm
    obtain⟨pl,iP,iw⟩:=key fs.toList (fun f XI=>bZ.1 hf f (by simpa using XI))
    refine⟨pl.toArray,?_,fun i f n hi hn=>by simpa using iw i f n (by simpa using hi) hn⟩
    rw[dZ,Sem.run_map,iP]
    rfl
   obtain⟨places,iP,iw⟩:=Yk
   obtain⟨nH,vK,oS⟩:=G8 (c:=c) (w:=w) (places[·]?) (ops.toList.map fun x=>(x.1,a.eval x.2)) l v.cells z cs (hc c w) (by simp[r1,q1,p1]) (fun i x q hx Cb=>by
    simp only[aq,aj]at hx
    obtain⟨y,hy,rfl⟩:=hx
    have hi:i<ops.toList.length:=(af.1 hy).1
    obtain⟨p,vR⟩:=Hi p1 hi
    obtain⟨s,Q0⟩:=Hi (q1.trans p1) hi
    obtain⟨e1,e2⟩:=p2 i y p hy vR
    obtain⟨e3,f,Qs,XJ,Qt⟩:=q2 i p s vR Q0
    obtain⟨e4,e5,e6⟩:=r2 i s q Q0 Cb
    refine⟨?_,?_⟩
    ·rw[e1]at Qs
     have:=iw _ f _ Qs Qt
     simp[this,e4,e5,XJ]
    ·rw[e3]at e6
     exact za e2 e6) iL
   refine⟨.agg nH,?_,?_⟩
   ·simp only[Instr.build,Sem.run_bind,hv,Result.andThen_ok,run_underlying hu,iP]
    have:(Array.map (fun x=>(x.fst,a.eval x.snd)) ops).toList=ops.toList.map fun x=>(x.1,a.eval x.2):=by simp
    simp only[this,vK]
    rfl
   ·have:=oS.agg
    exact .plain h hk (by simpa using this)
  ·exact hk.elim
 ·exact hk.elim
def aet(h:fr G c H w)(he:kb c w env a){t e:TypeId}{n sz:Nat}{z:List D}{ops:Array (Nat×Operand)}{ps:List (Nat×X)}
  (hz:o9 P t=some z) (hp:vi G ops.toList=some ps) (hu:P.underlying t=some (.array n e)) (hs:jE P e=some sz)
  (hk:wX env z (ps.map fun p=>(p.1*sz,sz,p.2)) H K):∃ r,(Instr.build t (ops.map fun(i,x)=>(i,a.eval x))).run P w = .ok r w∧iB G c H w K r w:=by
 unfold wX at hk
 split at hk
 ·rename_i l hl
  split at hk
  ·rename_i cs iL
   obtain⟨v,hv,_,hc⟩:=wC hz w
   obtain⟨p1,p2⟩:=Gq h he ops.toList hp
   obtain⟨r1,r2⟩:=Ms hl
   obtain⟨nH,vK,oS⟩:=G8 (c:=c) (w:=w) (fun i=>some (i*sz,sz)) (ops.toList.map fun x=>(x.1,a.eval x.2)) l v.cells z cs (hc c w) (by simp[r1,p1]) (fun i x q hx Cb=>by
    simp only[aq,aj]at hx
    obtain⟨y,hy,rfl⟩:=hx
    have hi:i<ops.toList.length:=(af.1 hy).1
    obtain⟨p,vR⟩:=Hi p1 hi
    obtain⟨e1,e2⟩:=p2 i y p hy vR
    obtain⟨e4,e5,e6⟩:=r2 i (p.1*sz,sz,p.2) q (by simp[vR]) Cb
    exact⟨by simp[e4,e5,e1],za e2 e6⟩) iL
   refine⟨.agg nH,?_,?_⟩
   ·simp only[Instr.build,Sem.run_bind,hv,Result.andThen_ok,run_underlying hu,o6 hs]
    have:(Array.map (fun x=>(x.fst,a.eval x.snd)) ops).toList=ops.toList.map fun x=>(x.1,a.eval x.2):=by simp
    simp only[this,vK]
    rfl
   ·have:=oS.agg
    exact .plain h hk (by simpa using this)
  ·exact hk.elim
 ·exact hk.elim
