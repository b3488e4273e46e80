/- 1 -/
import Derived.RangeFuncIn
import Derived.TacticsIn
import Derived.OrdersIn
import Derived.Laws.CopyRow
import Derived.Laws.AppendOwn
import Derived.Laws.OwnMore
import Derived.Laws.Concat
import Derived.Laws.Strings
import Derived.Laws.Slices
import Derived.Laws.StructEq
import Derived.Laws.BytesString
set_option linter.all false
namespace Go.AL
open Go
def ae:=@Option.bind_eq_some_iff
def af:=@List.getElem?_eq_some_iff
def ag:=@List.getElem?_append_left
def ah:=@Bool.and_eq_true
def ai:=@Option.map_eq_some_iff
def aj:=@List.map_congr_left
def ak:=@List.getElem?_append_right
def ao:=@List.mem_map
def aq:=@List.all_eq_true
def ar:=@Option.some.injEq
def au:=@List.mem_cons
def av:=@List.getElem?_map
def aw:=@List.append_nil
def ax:=@Option.bind_eq_bind
def ay:=@List.length_append
def az:=@List.length_pos_iff
def aA:=@List.getElem?_take
def aB:=@List.length_eq_zero_iff
def aC:=@List.take_of_length_le
def aD:=@List.getElem?_drop
def aF:=@List.mem_iff_getElem?
def aG:=@Option.pure_def
def aH:=@List.mem_filter
def aI:=@List.length_cons
def aJ:=@List.mem_of_mem_take
def aK:=@Nat.lt_of_lt_of_le
def aL:=@List.flatten_cons
def aM:=@Array.getElem?_eq_some_iff
def aN:=@List.pairwise_cons
def aO:=@List.getElem?_eq_none
def aP:=@List.mem_flatten
def aQ:=@List.map_id
def aR:=@List.drop_of_length_le
def aS:=@List.mem_cons_of_mem
def aT:=@List.length_take
def aU:=@Nat.zero_add
def aV:=@List.pairwise_iff_getElem
def aW:=@Option.getD_some
def aX:=@List.mem_append_left
def aY:=@List.mem_range
def aZ:=@List.nodup_append
def a7:=@Nat.add_assoc
def a8:=@List.eq_nil_of_length_eq_zero
def bf:=@List.take_append_of_le_length
def bg:=@Nat.add_mul
def bh:=@Nat.lt_or_ge
def bj:=@List.append_assoc
def bk:=@List.mem_of_getElem?
def bn:=@Option.map_some
def bp:=@List.map_map
def bq:=@Nat.mul_le_mul_right
def br:=@List.filter_append
def bt:=@List.nil_append
def bw:=@List.length_drop
def bx:=@List.cons_append
def bz:=@List.mem_flatMap
def bA:=@List.flatMap_append
def bB:=@Array.getElem?_toList
def bC:=@List.take_append_drop
def bE:=@List.mem_append_right
def bF:=@Array.getElem?_setIfInBounds_ne
def bG:=@Bool.false_eq_true
def bH:=@Array.toArray_toList
def bI:=@List.pairwise_append
def bJ:=@List.getElem_mem
def bK:=@List.replicate_succ
def bL:=@Array.getElem?_modify
def bM:=@Classical.choose_spec
def bN:=@Array.getD_eq_getD_getElem?
def bO:=@List.getElem?_set
def bP:=@List.ext_getElem?
def bQ:=@List.eq_nil_iff_forall_not_mem
def bR:=@List.drop_eq_getElem_cons
def bS:=@Nat.succ_mul
def bT:=@List.range'_succ
def bU:=@Int.emod_lt_of_pos
def bV:=@List.mem_of_mem_drop
def bW:=@Int.emod_nonneg
def bX:=@List.getElem?_range
def bY:=@Array.getElem?_append_left
def bZ:=@Array.all_eq_true_iff_forall_mem
def b7:=@List.mem_cons_self
def b8:=@List.mem_filterMap
def b9:=@Array.getElem?_eq_getElem
def cc:=@Nat.add_zero
def cd:=@List.length_set
def cg:=@Bool.or_eq_true
def cj:=@List.range_eq_range'
def cm:=@Nat.pow_le_pow_right
def cp:=@Int.add_assoc
def cr:=@Int.toNat_of_nonneg
def ct:=@List.take_succ_cons
def cu:=@List.countP_cons
def cv:=@List.length_pos_of_mem
def cw:=@Nat.zero_mul
def cy:=@List.countP_append
def cz:=@List.foldl_cons
def cA:=@List.length_nil
def cB:=@List.nodup_cons
def cD:=@List.cons.injEq
def cE:=@Array.size_append
def cF:=@List.findIdx?_eq_none_iff
def cG:=@List.set_append_left
def cH:=@List.set_eq_take_append_cons_drop
def cI:=@List.findIdx?_eq_some_iff_getElem
def cJ:=@List.take_take
def cK:=@Nat.add_comm
def cL:=@List.isEmpty_iff
def cM:=@Array.length_toList
def cN:=@List.getElem?_cons_succ
def cO:=@List.filter_nil
def cP:=@List.filter_eq_nil_iff
def cQ:=@Int.le_refl
def cS:=@Nat.eq_of_beq_eq_true
def cT:=@List.getElem?_toArray
def cU:=@List.drop_drop
def cV:=@List.contains_iff_mem
def cW:=@List.countP_le_length
def cY:=@Int.le_trans
def cZ:=@List.not_mem_nil
def c6:=@List.flatten_nil
def c7:=@Array.toList_append
def c8:=@Option.some.inj
def c9:=@List.mem_take_iff_getElem
def da:=@Option.isSome_iff_exists
def db:=@List.Sublist.append_left
def de:=@Nat.mul_comm
def dg:=@List.length_filterMap_le
def dh:=@Iff.rfl
def di:=@List.getElem?_replicate
def dj:=@List.size_toArray
def dm:=@List.pairwise_map
def dp:=@Array.getElem?_eq_none
def dq:=@List.sublist_cons_self
def dt:=@List.drop_eq_nil_of_le
def du:=@List.append_eq_nil_iff
def dv:=@List.take_length
def dw:=@Array.mem_filter
def dx:=@Ne.symm
def dy:=@Nat.le_of_ble_eq_true
def dz:=@List.contains_eq_mem
def dA:=@Nat.pow_succ
def dB:=@List.drop_append_of_le_length
def dC:=@Nat.mul_le_mul_left
def dD:=@List.flatten_append
def dE:=@List.mapM_cons
def dF:=@List.take_zero
def dH:=@Nat.eq_zero_or_pos
def dJ:=@List.map_drop
def dK:=@Bool.false_or
def dL:=@Prod.mk.injEq
def dM:=@List.exists_cons_of_ne_nil
def dO:=@Function.comp_def
def dQ:=@Int.toNat_natCast
def dR:=@Array.mapM_eq_mapM_toList
def dS:=@Array.ext'
def dT:=@Nat.mod_eq_of_lt
def dV:=@Nat.mul_le_mul_right_iff
def dX:=@List.length_erase_of_mem
def dY:=@Array.toList_inj
def dZ:=@List.filter_cons_of_pos
def ea:=@List.filter_cons_of_neg
def ec:=@Bool.decide_and
def ef:=@List.append_inj
def eo:=@Array.getElem?_mapIdx
def et:=@List.singleton_append
def eu:=@Bool.decide_or
def ew:=@List.drop_zero
def ey:=@List.Pairwise.sublist
def eA:=@List.perm_append_comm
def eB:=@Int.not_lt
def eC:=@Nat.not_lt
def eD:=@Nat.mul_assoc
def eE:=@Nat.min_zero
def nj{A P:Prop}(k:P)(a:A:=by first|omega|(dsimp only;omega)):A∧P:=⟨a,k⟩
def nk{A B P:Prop}(k:P)(a:A:=by first|omega|(dsimp only;omega))(b:B:=by first|omega|(dsimp only;omega)):A∧B∧P:=⟨a,b,k⟩
def eY{A B C P:Prop}(k:P)(a:A:=by first|omega|(dsimp only;omega))(b:B:=by first|omega|(dsimp only;omega))(c:C:=by first|omega|(dsimp only;omega)):A∧B∧C∧P:=⟨a,b,c,k⟩
def qx{A B C D P:Prop}(k:P)(a:A:=by first|omega|(dsimp only;omega))(b:B:=by first|omega|(dsimp only;omega))(c:C:=by first|omega|(dsimp only;omega))(d:D:=by first|omega|(dsimp only;omega)):A∧B∧C∧D∧P:=⟨a,b,c,d,k⟩
def Sa{A B C D F P:Prop}(k:P)(a:A:=by first|omega|(dsimp only;omega))(b:B:=by first|omega|(dsimp only;omega))(c:C:=by first|omega|(dsimp only;omega))(d:D:=by first|omega|(dsimp only;omega))(f:F:=by first|omega|(dsimp only;omega)):A∧B∧C∧D∧F∧P:=⟨a,b,c,d,f,k⟩
def oO{A B:Prop}(a:A:=by first|omega|(dsimp only;omega))(b:B:=by first|omega|(dsimp only;omega)):A∧B:=⟨a,b⟩
def l4{A B C:Prop}(a:A:=by first|omega|(dsimp only;omega))(b:B:=by first|omega|(dsimp only;omega))(c:C:=by first|omega|(dsimp only;omega)):A∧B∧C:=⟨a,b,c⟩
def CY{A B C D:Prop}(a:A:=by first|omega|(dsimp only;omega))(b:B:=by first|omega|(dsimp only;omega))(c:C:=by first|omega|(dsimp only;omega))(d:D:=by first|omega|(dsimp only;omega)):A∧B∧C∧D:=⟨a,b,c,d⟩
def Sb{A B C D F:Prop}(a:A:=by first|omega|(dsimp only;omega))(b:B:=by first|omega|(dsimp only;omega))(c:C:=by first|omega|(dsimp only;omega))(d:D:=by first|omega|(dsimp only;omega))(f:F:=by first|omega|(dsimp only;omega)):A∧B∧C∧D∧F:=⟨a,b,c,d,f⟩
inductive D where
 | any
 | val (v:Value)
 | agg (cs:List D)
 | tup (cs:List D)
 | sl (sz:Nat) (es:List (List D))
 | eG
 | eF (v g sz off len:Nat)
 | ptr (v g off:Nat)
 | eW (cs:List D)
 | fE (v:Nat)
 | fn (fn:Fn) (first captured:List D)
 | ic (v:Nat)
 deriving Inhabited
abbrev D.i(n:Int):D:=.val (.int .i64 n)
abbrev D.b(x:Bool):D:=.val (.bool x)
abbrev Env:=List (Nat×D)
def Env.get:Env→Nat→D
 | [],_=>.any
 | (k,d)::r,j=>match Nat.beq k j with
  | true=>d
  | false=>Env.get r j
def Env.tj(k:Nat)(d:D)(r:Env)(j:Nat):Env.get ((k,d)::r) j=if k=j then d else Env.get r j:=by
 simp only[Env.get]
 by_cases h:k=j
 ·rw[if_pos h,h,Nat.beq_refl]
 ·have:Nat.beq k j=false:=by
   cases hb:Nat.beq k j with
   | false=>rfl
   | true=>exact absurd (cS hb) h
  rw[if_neg h,this]
structure Loc where
 b:Nat
 base:Nat
 top:Nat
 iM:Bool:=false
structure Ctx where
 ι:Nat→Nat→Option Loc
 F:Nat→Prop
 RT:Nat→Option (Nat×Array Tmp×Code×Code)
inductive eJ(c:Ctx)(w:World):Value→D→Prop
 | any (v:Value):eJ c w v .any
 | val (v:Value):eJ c w v (.val v)
 | agg (vs:List Value) (ds:List D) (hl:vs.length=ds.length) (h1:∀ v∈vs,v.oneCell'=true)
   (h:∀ (i:Nat) (v:Value) (d:D),vs[i]? = some v→ds[i]? = some d→eJ c w v d):eJ c w (.agg vs.toArray) (.agg ds)
 | tup (vs:List Value) (ds:List D) (hl:vs.length=ds.length)
   (h:∀ (i:Nat) (v:Value) (d:D),vs[i]? = some v→ds[i]? = some d→eJ c w v d):eJ c w (.tuple vs.toArray) (.tup ds)
 | sl (a:Option Addr) (len cap sz:Nat) (es:List (List D)) (g:Nat→Nat→Value)
   (hlen:es.length=len) (js:len≤cap) (jO:cap≤maxLen) (gH:∀ e∈es,e.length=sz)
   (oo:a=none→cap=0)
   (hc:∀ (i:Nat) (e:List D) (j:Nat) (d:D),es[i]? = some e→e[j]? = some d→∃ b o,a=some ⟨b,o,none⟩∧c.F b∧w.cell? ⟨b,o+(i*sz+j),none⟩=some (g i j)∧(g i j).oneCell'=true)
   (hr:∀ (i:Nat) (e:List D) (j:Nat) (d:D),es[i]? = some e→e[j]? = some d→eJ c w (g i j) d):eJ c w (.slice a len cap) (.sl sz es)
 | eG:eJ c w (.slice none 0 0) .eG
 | eF (v k sz off len cap:Nat) (L:Loc) (eR:c.ι v k=some L) (hv:L.iM=false) (js:len≤cap) (jO:cap≤maxLen)
   (lY:L.base+(off+cap)*sz=L.top):eJ c w (.slice (some ⟨L.b,L.base+off*sz,none⟩) len cap) (.eF v k sz off len)
 | mm (v k sz off:Nat) (L:Loc) (eR:c.ι v k=some L) (a:Option Addr):eJ c w (.slice a 0 0) (.eF v k sz off 0)
 | ptr (v k off:Nat) (L:Loc) (eR:c.ι v k=some L) (hv:L.iM=false):eJ c w (.pointer (some ⟨L.b,L.base+off,none⟩)) (.ptr v k off)
 | eW (b o:Nat) (cs:List D) (g:Nat→Value) (hF:c.F b)
   (hc:∀ (j:Nat) (d:D),cs[j]? = some d→w.cell? ⟨b,o+j,none⟩=some (g j)∧(g j).oneCell'=true)
   (hr:∀ (j:Nat) (d:D),cs[j]? = some d→eJ c w (g j) d):eJ c w (.pointer (some ⟨b,o,none⟩)) (.eW cs)
 | fE (v:Nat) (L:Loc) (eR:c.ι v 0=some L) (hv:L.iM=false):eJ c w (.map (some L.b)) (.fE v)
 | fn (fn:Fn) (fs cs:List Value) (df dc:List D) (iR:fs.length=df.length) (iA:cs.length=dc.length)
   (h1:∀ (i:Nat) (v:Value) (d:D),fs[i]? = some v→df[i]? = some d→eJ c w v d)
   (h2:∀ (i:Nat) (v:Value) (d:D),cs[i]? = some v→dc[i]? = some d→eJ c w v d):eJ c w (.func fn fs.toArray cs.toArray) (.fn fn df dc)
 | ic (v:Nat) (L:Loc) (eR:c.ι v 0=some L) (hv:L.iM=false):eJ c w (.func (.yield L.b) #[] #[]) (.ic v)
inductive KK where
 | int (k:IntKind)
 | str
 | bool
 | ints (l:List IntKind)
 deriving Inhabited,DecidableEq
def QV:List IntKind→List Value→Bool
 | [],[]=>true
 | k::ks,.int k' _::vs=>k == k'&&QV ks vs
 | _,_=>false
def KK.has:KK→Value→Bool
 | .int k,.int k' _=>k == k'
 | .str,.string _=>true
 | .bool,.bool _=>true
 | .ints l,.agg cs=>QV l cs.toList
 | _,_=>false
inductive qb where
 | ready|busy|xd|vH (id:Nat)
 deriving Inhabited,DecidableEq
inductive Ob where
 | row (t:TypeId) (g:Nat) (cs:List D)
 | map (kk:KK) (es:List (Value×D))
 | gu (rf:Nat) (env:Env) (st:qb)
 | qA (s:ByteArray) (pos:Nat)
 | jJ (m:D) (since:Nat) (seen:List Nat)
 | jZ
 | dead
 | kW
 deriving Inhabited
def Ob.alive:Ob→Bool
 | .dead | .kW=>false
 | _=>true
def Ob.gen:Ob→Nat
 | .row _ g _=>g
 | _=>0
abbrev U:=List Ob
def kN(c:Ctx)(H:U)(v:Nat)(L:Loc):Prop:=∃ o,H[v]? = some o∧o.alive=true∧c.ι v o.gen=some L
def lj(c:Ctx)(H:U)(b:Nat):Prop:=∃ v L,kN c H v L∧L.iM=false∧L.b=b
def A6(c:Ctx)(w:World)(arr:Array MapEntry)(clock:Nat)(es:List (Value×D)):Prop:=
 arr.size=es.length∧(∀ (i:Nat) (e:MapEntry) (x:Value×D),arr[i]? = some e→es[i]? = some x→e.key=x.1∧eJ c w e.val x.2∧e.born=i)∧clock=es.length
def qb.is:qb→Loop→Prop
 | .ready,r=>r.state = .ready∧r.pending=none
 | .busy,r=>r.state = .busy
 | .xd,r=>r.state = .done∧r.pending=some .ret
 | .vH id,r=>r.state = .done∧r.pending=some (.exit id)
def gd(c:Ctx)(w:World):Option Loc→Ob→Prop
 | _,.dead=>True
 | L,.kW=>L=none
 | none,_=>False
 | some L,.row t _ cs=>if L.iM then cs = []else
   ∃ arr:Array Value,w.heap[L.b]? = some (.cells arr t (0,0))∧L.top=arr.size∧L.base+cs.length≤L.top ∧
    ∀ (i:Nat) (d:D),cs[i]? = some d→∃ v,arr[L.base+i]? = some v∧v.oneCell'=true∧eJ c w v d
 | some L,.map kk es=>L.iM=false∧(∀ x∈es,kk.has x.1=true)∧∃ arr clock,w.heap[L.b]? = some (.map arr clock)∧A6 c w arr clock es
 | some L,.gu rf env st=>L.iM=false∧∃ r:Loop,w.heap[L.b]? = some (.loop r)∧(∀ k,eJ c w (r.tmps.getD k undef) (env.get k)) ∧
   (∃ N,c.RT rf=some (N,r.params,r.assign,r.body)∧N≤r.tmps.size)∧st.is r
 | some L,.qA s p=>L.iM=false∧L.base=0∧w.heap[L.b]? = some (.stringIter s p)
 | some L,.jJ m since seen=>L.iM=false∧L.base=0∧∃ bm:Nat,eJ c w (.map (some bm)) m∧w.heap[L.b]? = some (.mapIter (some bm) since seen.toArray since)
 | some L,.jZ=>L.iM=true∨w.heap[L.b]? = some (.deferred (some []))
structure HeapOK(c:Ctx)(H:U)(w:World):Prop where
 inj:∀ v v' L L',kN c H v L→kN c H v' L'→L.iM=false→L'.iM=false→L.b=L'.b→v=v'
 lt:∀ b,lj c H b→b<w.heap.size
 nF:∀ b,lj c H b→¬ c.F b
 jG:∀ b,c.F b→b<w.heap.size
 out:∀ v k,H.length≤v→c.ι v k=none
 lk:∀ v o k,H[v]? = some o→(o = .kW∨(o.alive=true∧o.gen<k))→c.ι v k=none
 ob:∀ (v:Nat) (o:Ob),H[v]? = some o→gd c w (c.ι v o.gen) o
structure Step(n:Nat)(c:Ctx)(H:U)(w:World)(c':Ctx)(H':U)(w':World):Prop where
 os:w'.os=w.os∧w.drawn≤w'.drawn
 tape:w'.tape=w.tape
 output:w'.output=w.output
 size:w.heap.size≤w'.heap.size
 RT:c'.RT=c.RT
 Fm:∀ b,c.F b→c'.F b
 Fn:∀ b,c'.F b→c.F b∨w.heap.size≤b∨lj c H b
 kept:∀ b,b<w.heap.size→¬ lj c H b→w'.heap[b]? = w.heap[b]?
 old:∀ v k L,v<n→c.ι v k=some L→c'.ι v k=some L
 own:∀ b,lj c' H' b→w.heap.size≤b∨lj c H b
def Step.refl(n:Nat)(c:Ctx)(H:U)(w:World):Step n c H w c H w:=
 ⟨⟨rfl,Nat.le_refl _⟩,rfl,rfl,Nat.le_refl _,rfl,fun _ h=>h,fun _ h=>.inl h,fun _ _ _=>rfl,fun _ _ _ _ h=>h,fun _ h=>.inr h⟩
theorem Step.trans{n m:Nat}{c c1 c2:Ctx}{H H1 H2:U}{w w1 w2:World}(h1:Step n c H w c1 H1 w1)(h2:Step m c1 H1 w1 c2 H2 w2)(hm:n≤m) :
  Step n c H w c2 H2 w2 where
 os:=⟨h2.os.1.trans h1.os.1,Nat.le_trans h1.os.2 h2.os.2⟩
 tape:=h2.tape.trans h1.tape
 output:=h2.output.trans h1.output
 size:=Nat.le_trans h1.size h2.size
 RT:=h2.RT.trans h1.RT
 Fm b h:=h2.Fm b (h1.Fm b h)
 Fn b h:=by
  rcases h2.Fn b h with h|h|h
  ·exact h1.Fn b h
  ·exact .inr (.inl (Nat.le_trans h1.size h))
  ·rcases h1.own b h with h|h
   ·exact .inr (.inl h)
   ·exact .inr (.inr h)
 kept b hb hn:=by
  rw[h2.kept b (aK hb h1.size) (fun ho=>?_),h1.kept b hb hn]
  rcases h1.own b ho with h|h
  ·omega
  ·exact hn h
 old v k L hv h:=h2.old v k L (by omega) (h1.old v k L hv h)
 own b h:=by
  rcases h2.own b h with h|h
  ·exact .inl (Nat.le_trans h1.size h)
  ·exact h1.own b h
def Step.weaken{n m:Nat}{c c':Ctx}{H H':U}{w w':World}(h:Step n c H w c' H' w')(hm:m≤n):Step m c H w c' H' w':=
 { h with old:=fun v k L hv=>h.old v k L (by omega) }
def Bm{w w':World}{a:Addr}(h:w'.heap[a.block]? = w.heap[a.block]?):w'.cell? a=w.cell? a:=by simp[World.cell?,h]
def eJ.carry{c c':Ctx}{w w':World}(eR:∀ v k L,c.ι v k=some L→c'.ι v k=some L)(hF:∀ b,c.F b→c'.F b)
  (zB:∀ b o,c.F b→w'.cell? ⟨b,o,none⟩=w.cell? ⟨b,o,none⟩) {v:Value} {d:D} (h:eJ c w v d):eJ c' w' v d:=by
 induction h with
 | any v=>exact .any _
 | val v=>exact .val _
 | agg vs ds hl h1 h ih=>exact .agg vs _ hl h1 ih
 | tup vs ds hl h ih=>exact .tup vs _ hl ih
 | sl a len cap sz es g hlen js jO gH oo hc hr ih=>
  refine .sl a len cap sz _ g hlen js jO gH oo ?_ ih
  intro i e j d he hd
  obtain⟨b,o,ha,qJ,xC,h1⟩:=hc i e j d he hd
  exact⟨b,o,ha,hF b qJ,by rw[zB b _ qJ];exact xC,h1⟩
 | eG=>exact .eG
 | eF v k sz off len cap L h hv js jO lY=>exact .eF v k sz off len cap L (eR _ _ _ h) hv js jO lY
 | mm v k sz off L h a=>exact .mm v k sz off L (eR _ _ _ h) a
 | ptr v k off L h hv=>exact .ptr v k off L (eR _ _ _ h) hv
 | eW b o cs g qJ hc hr ih=>
  refine .eW b o _ g (hF b qJ) ?_ ih
  intro j d hd
  rw[zB b _ qJ]
  exact hc j d hd
 | fE v L h hv=>exact .fE v L (eR _ _ _ h) hv
 | fn f fs cs df dc iR iA h1 h2 pX qU=>exact .fn f fs cs _ _ iR iA pX qU
 | ic v L h hv=>exact .ic v L (eR _ _ _ h) hv
def eJ.step{n:Nat}{c c':Ctx}{H H':U}{w w':World}(hH:HeapOK c H w)(hs:Step n c H w c' H' w')(hn:H.length≤n){v:Value}{d:D}(h:eJ c w v d) :
  eJ c' w' v d:=by
 refine h.carry (fun v k L hL=>hs.old v k L ?_ hL) hs.Fm (fun b o hF=>Bm (hs.kept b (hH.jG b hF) (fun ho=>hH.nF b ho hF)))
 rcases bh v H.length with h|h
 ·omega
 ·rw[hH.out v k h]at hL;cases hL
def eJ.pd{c c':Ctx}{H H':U}{w w':World}(hH:HeapOK c H w)(hs:Step H.length c H w c' H' w'){v:Value}{d:D}(h:eJ c w v d):eJ c' w' v d:=
 h.step hH hs (Nat.le_refl _)
inductive X where
 | t (k:Nat)
 | c (d:D)
 deriving Inhabited
abbrev fQ:=Nat→D
def ev(env:fQ):X→D
 | .t k=>env k
 | .c d=>d
def cellsOf:D→Option (List D)
 | .agg cs=>some cs
 | .any | .tup _=>none
 | .val v=>if v.oneCell' then some [.val v]else none
 | d=>some [d]
def one:D→Bool
 | .any | .tup _ | .agg _=>false
 | .val v=>v.oneCell'
 | _=>true
mutual
def closed:D→Bool
 | .any | .val _ | .eG=>true
 | .agg cs | .tup cs | .eW cs=>fu cs
 | .sl _ es=>zc es
 | .eF .. | .ptr .. | .fE _ | .ic _=>false
 | .fn _ a b=>fu a&&fu b
def fu:List D→Bool
 | []=>true
 | d::ds=>closed d&&fu ds
def zc:List (List D)→Bool
 | []=>true
 | e::es=>fu e&&zc es
end
def o9:Value→Value→Bool
 | .int k a,.int k' b=>k == k'&&a == b
 | .string a,.string b=>a == b
 | .bool a,.bool b=>a == b
 | .agg a,.agg b=>a.size == b.size&&(a.toList.zip b.toList).all fun(x,y)=>match x,y with
  | .int k a,.int k' b=>k == k'&&a == b
  | _,_=>false
 | _,_=>false
def Cz:List D→Option (List Value)
 | []=>some []
 | .val (.int k n)::r=>(Cz r).map (.int k n :: ·)
 | _::_=>none
def keyOf:D→Option Value
 | .val (.int k n)=>some (.int k n)
 | .val (.string s)=>some (.string s)
 | .val (.bool b)=>some (.bool b)
 | .agg cs=>(Cz cs).map fun l=>.agg l.toArray
 | _=>none
def lL:List (Value×D)→Value→Option D
 | [],_=>none
 | (k,d)::r,j=>if o9 j k then some d else lL r j
def ke:List (Value×D)→Value→D→List (Value×D)
 | [],j,x=>[(j,x)]
 | (k,d)::r,j,x=>if o9 j k then(j,x)::r else(k,d)::ke r j x
inductive nX where
 | int|bool|str
 deriving Inhabited,DecidableEq
inductive wV where
 | slice|string|map
 deriving Inhabited,DecidableEq
inductive gP where
 | mv (x:X)
 | pick (c a b:X)
 | box (t:TypeId) (x:X)
 | alloc (t:TypeId) (z:List D)
 | build (z:List D) (ps:List (Nat×Nat×X))
 | buildSl (t sz:Nat) (z:List D) (n:Nat) (ps:List (Nat×X))
 | ld1 (x:X)
 | ldN (n:Nat) (x:X)
 | st1 (a x:X)
 | stN (n:Nat) (a x:X)
 | nilck (x:X)
 | arith (op:BinOp) (x y:X)
 | eqS (iJ:Bool) (ls:List nX) (neg:Bool) (x y:X)
 | un (op:UnOp) (x:X)
 | conv (k:IntKind) (x:X)
 | b2s (x:X)
 | mkfn (fn:Fn) (first captured:List X)
 | mkmap (kk:KK)
 | mksl (t sz bytes:Nat) (z:List D) (l c:X)
 | slc (sz:Nat) (x:X) (lo hi:Option X)
 | slcS (x:X) (lo hi:Option X)
 | fieldA (off:Nat) (x:X)
 | field (off n:Nat) (iJ:Bool) (x:X)
 | idxA (sz:Nat) (x i:X)
 | idxArr (sz n:Nat) (x i:X)
 | idx (sz n:Nat) (iJ:Bool) (x i:X)
 | idxStr (x i:X)
 | lookup (kk:KK) (z:D) (ok:Bool) (m k:X)
 | mapUpd (kk:KK) (m k v:X)
 | ext (x:X) (i:Nat)
 | call (f:FuncId) (args:List X)
 | callN (f:FuncId) (args:List X)
 | callv (f:X) (args:List X)
 | app (t sz bytes:Nat) (x y:X)
 | copy (sz:Nat) (x y:X)
 | len (k:wV) (x:X)
 | minmax (isMax:Bool) (xs:List X)
 | nilS (neg:Bool) (x:X)
 | capE (x:X)
 | appZ (t sz bytes:Nat) (z:List D) (x n:X)
 | clr (sz:Nat) (z:List D) (x:X)
 | rangeS (x:X)
 | nextS (x:X)
 | rangeM (x:X)
 | nextM (x:X)
 | entry (x:X)
 deriving Inhabited
structure eT where
 dst:Option Nat
 op:gP
 guard:Option (Nat×Bool):=none
 deriving Inhabited
structure GT where
 g:Nat→Option (List D)
 rt:Nat→Option (Nat×Array Tmp×Code×Code)
 nw:FuncId→Bool:=fun _=>false
instance:CoeFun GT (fun _=>Nat→Option (List D)):=⟨GT.g⟩
inductive iy(c:Ctx)(w:World):List Value→List D→Prop
 | nil:iy c w [] []
 | cons {v d vs ds} (h:eJ c w v d) (t:iy c w vs ds):iy c w (v::vs) (d::ds)
structure e9(G:GT)(c:Ctx)(H:U)(w:World):Prop extends HeapOK c H w where
 gl:∀ (g:Nat) (cs:List D),G g=some cs→fu cs=true∧eJ c w (.pointer (some ⟨g,0,none⟩)) (.eW cs)
 rt:c.RT=G.rt
abbrev iO:=D→U→Prop
abbrev Al:=Nat×(Ob→U)
def Al.last(H:U):Al:=(H.length,fun ob=>H ++ [ob])
def Al.kW(H:U)(v:Nat):Al:=(v,fun ob=>H.set v ob)
def mK(n:Int):Prop := -9223372036854775808≤n∧n≤9223372036854775807
def Bb(op:BinOp)(k:IntKind)(a b:Int)(H:U)(K:iO):Prop:=
 match op with
 | .add=>if k = .i64 then mK (a+b)∧K (.val (.int .i64 (a+b))) H else K (.val (.int k (k.wrap (a+b)))) H
 | .sub=>if k = .i64 then mK (a-b)∧K (.val (.int .i64 (a-b))) H else K (.val (.int k (k.wrap (a-b)))) H
 | .mul=>if k = .i64 then mK (a*b)∧K (.val (.int .i64 (a*b))) H else K (.val (.int k (k.wrap (a*b)))) H
 | .quo=>b≠0∧K (.val (.int k (k.wrap (a.tdiv b)))) H
 | .rem=>b≠0∧K (.val (.int k (a.tmod b))) H
 | .and | .or | .xor | .andNot=>K (.val (.int k (bits op k a b))) H
 | .eql=>K (.val (.bool (a == b))) H
 | .neq=>K (.val (.bool (a != b))) H
 | .lss=>K (.val (.bool (decide (a<b)))) H
 | .leq=>K (.val (.bool (decide (a≤b)))) H
 | .gtr=>K (.val (.bool (decide (a>b)))) H
 | .geq=>K (.val (.bool (decide (a≥b)))) H
 | _=>False
def Dn(op:BinOp)(k:IntKind)(a b:Int)(H:U)(K:iO):Prop:=
 match op with
 | .shl=>0≤b∧K (.val (.int k (k.wrap (a*2 ^ (min b.toNat k.bits))))) H
 | .shr=>0≤b∧K (.val (.int k (a.fdiv (2 ^ (min b.toNat k.bits))))) H
 | _=>False
def o7:BinOp→Bool
 | .shl | .shr=>true
 | _=>false
def Jo(op:BinOp)(a b:ByteArray)(H:U)(K:iO):Prop:=
 match op with
 | .eql=>K (.val (.bool (a.data.toList == b.data.toList))) H
 | .neq=>K (.val (.bool (!(a.data.toList == b.data.toList)))) H
 | .add=>((a.size+b.size:Nat):Int)≤9223372036854775807∧K (.val (.string (a++b))) H
 | _=>False
def Bf(op:BinOp)(x y:D)(H:U)(K:iO):Prop:=
 match x,y with
 | .val (.int k a),.val (.int k' b)=>if o7 op then Dn op k a b H K else k=k'∧Bb op k a b H K
 | .val (.string a),.val (.string b)=>Jo op a b H K
 | _,_=>False
def DE(op:UnOp)(x:D)(H:U)(K:iO):Prop:=
 match op,x with
 | .not,.val (.bool b)=>K (.val (.bool (!b))) H
 | .neg,.val (.int .i64 n)=>mK (-n)∧K (.val (.int .i64 (-n))) H
 | .xor,.val (.int k n)=>K (.val (.int k (bits .xor k (if k.signed then -1 else k.max) n))) H
 | _,_=>False
def sf:nX→D→D→Option Bool
 | .int,.val (.int k a),.val (.int k' b)=>if k=k' then some (a == b)else none
 | .bool,.val (.bool a),.val (.bool b)=>some (a == b)
 | .str,.val (.string a),.val (.string b)=>some (a.data.toList == b.data.toList)
 | _,_,_=>none
def nI:List nX→List D→List D→Option Bool
 | [],[],[]=>some true
 | l::ls,x::xs,y::ys=>match sf l x y,nI ls xs ys with
  | some a,some b=>some (a&&b)
  | _,_=>none
 | _,_,_=>none
def vJ(iJ:Bool)(ls:List nX)(neg:Bool)(x y:D)(H:U)(K:iO):Prop:=
 match iJ,x,y with
 | true,.agg a,.agg b=>match nI ls a b with
  | some r=>K (.val (.bool (if neg then !r else r))) H
  | none=>False
 | false,x,y=>match nI ls [x] [y]with
  | some r=>K (.val (.bool (if neg then !r else r))) H
  | none=>False
 | _,_,_=>False
def CZ(c a b:D)(H:U)(K:iO):Prop:=
 match c with
 | .val (.bool x)=>K (if x then a else b) H
 | _=>False
def rowAt(H:U)(v k:Nat):Option (TypeId×List D):=match H[v]? with
 | some (.row t g cs)=>if g=k then some (t,cs)else none
 | _=>none
def CB(x:D)(H:U)(K:iO):Prop:=
 match x with
 | .ptr v g o=>match rowAt H v g with
  | some (_,cs)=>match cs[o]? with
   | some d=>K d H
   | none=>False
  | none=>False
 | .eW cs=>match cs[0]? with
  | some d=>K d H
  | none=>False
 | _=>False
def CD(n:Nat)(x:D)(H:U)(K:iO):Prop:=
 match x with
 | .ptr v g o=>match rowAt H v g with
  | some (_,cs)=>o+n≤cs.length∧K (.agg ((cs.drop o).take n)) H
  | none=>False
 | .eW cs=>n≤cs.length∧K (.agg (cs.take n)) H
 | _=>False
def Ds(a x:D)(H:U)(K:iO):Prop:=
 match a with
 | .ptr v g o=>match rowAt H v g with
  | some (t,cs)=>o<cs.length∧one x=true∧K .any (H.set v (.row t g (cs.set o x)))
  | none=>False
 | _=>False
def Dt(n:Nat)(a x:D)(H:U)(K:iO):Prop:=
 match a,cellsOf x with
 | .ptr v g o,some xs=>match rowAt H v g with
  | some (t,cs)=>xs.length=n∧o+n≤cs.length∧K .any (H.set v (.row t g (cs.take o++xs++cs.drop (o+n))))
  | none=>False
 | _,_=>False
def Bh(t:TypeId)(x:D)(al:Al)(K:iO):Prop:=
 match cellsOf x with
 | some cs=>K (.ptr al.1 0 0) (al.2 (.row t 0 cs))
 | none=>False
def lay:List (Nat×Nat×List D)→List D→Option (List D)
 | [],cs=>some cs
 | (o,n,xs)::r,cs=>if xs.length=n∧o+n≤cs.length then lay r (cs.take o++xs++cs.drop (o+n))else none
def partsOf(env:fQ):List (Nat×Nat×X)→Option (List (Nat×Nat×List D))
 | []=>some []
 | (o,n,x)::r=>match cellsOf (ev env x),partsOf env r with
  | some cs,some l=>some ((o,n,cs)::l)
  | _,_=>none
def wZ(env:fQ)(z:List D)(ps:List (Nat×Nat×X))(H:U)(K:iO):Prop:=
 match partsOf env ps with
 | some l=>match lay l z with
  | some cs=>K (.agg cs) H
  | none=>False
 | none=>False
def Bi(env:fQ)(t sz:Nat)(z:List D)(n:Nat)(ps:List (Nat×X))(al:Al)(K:iO):Prop:=
 match partsOf env (ps.map fun p=>(p.1*sz,sz,p.2))with
 | some l=>match lay l (List.replicate n z).flatten with
  | some cs=>K (.eF al.1 0 sz 0 n) (al.2 (.row t 0 cs))
  | none=>False
 | none=>False
def BG(off:Nat)(x:D)(H:U)(K:iO):Prop:=
 match x with
 | .ptr v g o=>K (.ptr v g (o+off)) H
 | .eW cs=>K (.eW (cs.drop off)) H
 | _=>False
def xl(off n:Nat)(iJ:Bool)(x:D)(H:U)(K:iO):Prop:=
 match x with
 | .agg cs=>if iJ then off+n≤cs.length∧K (.agg ((cs.drop off).take n)) H else match cs[off]? with
  | some d=>K d H
  | none=>False
 | _=>False
def Cs(sz:Nat)(x i:D)(H:U)(K:iO):Prop:=
 match x,i with
 | .sl fV es,.val (.int _ n)=>fV=sz∧(0≤n∧n<es.length)∧K (.eW (es.getD n.toNat [])) H
 | .eF v g fV off len,.val (.int _ n)=>fV=sz∧(0≤n∧n<len)∧K (.ptr v g ((off+n.toNat)*sz)) H
 | _,_=>False
def Ct(sz n:Nat)(x i:D)(H:U)(K:iO):Prop:=
 match x,i with
 | .ptr v g o,.val (.int _ k)=>(0≤k∧k<n)∧K (.ptr v g (o+k.toNat*sz)) H
 | .eW cs,.val (.int _ k)=>(0≤k∧k<n)∧K (.eW (cs.drop (k.toNat*sz))) H
 | _,_=>False
def Cv(sz n:Nat)(iJ:Bool)(x i:D)(H:U)(K:iO):Prop:=
 match x,i with
 | .agg cs,.val (.int _ k)=>(0≤k∧k<n)∧xl (k.toNat*sz) sz iJ (.agg cs) H K
 | _,_=>False
def Cw(x i:D)(H:U)(K:iO):Prop:=
 match x,i with
 | .val (.string s),.val (.int _ k)=>(0≤k∧k<s.size)∧K (.val (.int .u8 ((s.data.toList.getD k.toNat 0).toNat))) H
 | _,_=>False
def kX(H:U)(v:Nat):Option (KK×List (Value×D)):=match H[v]? with
 | some (.map kk es)=>some (kk,es)
 | _=>none
def CG(qv:KK)(z:D)(ok:Bool)(m k:D)(H:U)(K:iO):Prop:=
 match m,keyOf k with
 | .fE v,some kv=>match kX H v with
  | some (kk,es)=>kk=qv∧kk.has kv=true∧(match lL es kv with
    | some d=>K (if ok then .tup [d,.val (.bool true)]else d) H
    | none=>K (if ok then .tup [z,.val (.bool false)]else z) H)
  | none=>False
 | _,_=>False
def CL(qv:KK)(m k x:D)(H:U)(K:iO):Prop:=
 match m,keyOf k with
 | .fE v,some kv=>match kX H v with
  | some (kk,es)=>kk=qv∧kk.has kv=true∧K .any (H.set v (.map kk (ke es kv x)))
  | none=>False
 | _,_=>False
def BE(x:D)(i:Nat)(H:U)(K:iO):Prop:=
 match x with
 | .tup ds=>match ds[i]? with
  | some d=>K d H
  | none=>False
 | _=>False
def CQ(t sz bytes:Nat)(z:List D)(l c:D)(al:Al)(K:iO):Prop:=
 match l,c with
 | .val (.int _ n),.val (.int _ m)=>(0≤n∧n≤m∧m≤9223372036854775807∧(bytes:Int)*m≤281474976710656)∧K (.eF al.1 0 sz 0 n.toNat) (al.2 (.row t 0 (List.replicate m.toNat z).flatten))
 | _,_=>False
def iz(env:fQ):Option X→Int→Option Int
 | none,n=>some n
 | some x,_=>match ev env x with
  | .val (.int _ n)=>some n
  | _=>none
def Dp(env:fQ)(sz:Nat)(x:D)(lo hi:Option X)(H:U)(K:iO):Prop:=
 match x with
 | .sl fV es=>match iz env lo 0,iz env hi es.length with
  | some l,some h=>fV=sz∧(0≤l∧l≤h∧h≤es.length)∧K (.sl sz ((es.drop l.toNat).take (h.toNat-l.toNat))) H
  | _,_=>False
 | .eF v g fV off len=>match iz env lo 0,iz env hi len with
  | some l,some h=>fV=sz∧(0≤l∧l≤h∧h≤len)∧K (.eF v g sz (off+l.toNat) (h.toNat-l.toNat)) H
  | _,_=>False
 | .eG=>match iz env lo 0,iz env hi 0 with
  | some l,some h=>(l=0∧h=0)∧K .eG H
  | _,_=>False
 | _=>False
def Ap(env:fQ)(x:D)(lo hi:Option X)(H:U)(K:iO):Prop:=
 match x with
 | .val (.string s)=>match iz env lo 0,iz env hi s.size with
  | some l,some h=>(0≤l∧l≤h∧h≤s.size)∧K (.val (.string (s.extract l.toNat h.toNat))) H
  | _,_=>False
 | _=>False
def kY(sz:Nat)(H:U):D→Option (List D×Nat)
 | .sl fV es=>if fV=sz then some (es.flatten,es.length)else none
 | .eG=>some ([],0)
 | .eF v g fV off len=>match rowAt H v g with
  | some (_,cs)=>if fV=sz∧(off+len)*sz≤cs.length then some ((cs.drop (off*sz)).take (len*sz),len)else none
  | none=>none
 | _=>none
def Ba(t sz bytes:Nat)(x y:D)(H:U)(al:Al)(K:iO):Prop:=
 match kY sz H y with
 | some (ys,n)=>match x with
  | .eF v g fV off len=>match rowAt H v g with
   | some (t',cs)=>(fV=sz∧t'=t∧(off+len)*sz≤cs.length∧(len+n)*bytes≤140737488355328∧len+n≤9223372036854775807) ∧
     K (.eF v (g+1) sz 0 (len+n)) (H.set v (.row t (g+1) ((cs.drop (off*sz)).take (len*sz)++ys)))
   | none=>False
  | .eG=>if n=0 then K .eG H else(n*bytes≤140737488355328∧n≤9223372036854775807)∧K (.eF al.1 0 sz 0 n) (al.2 (.row t 0 ys))
  | _=>False
 | none=>False
def Bw(sz:Nat)(x y:D)(H:U)(K:iO):Prop:=
 match x,kY sz H y with
 | .eF v g fV off len,some (ys,n)=>match rowAt H v g with
  | some (t,cs)=>(fV=sz∧(off+len)*sz≤cs.length) ∧
    K (.val (.int .i64 (min n len:Nat))) (H.set v (.row t g (cs.take (off*sz)++ys.take (min n len*sz)++cs.drop (off*sz+min n len*sz))))
  | none=>False
 | .eG,some _=>K (.val (.int .i64 0)) H
 | _,_=>False
def CE(k:wV)(x:D)(H:U)(K:iO):Prop:=
 match k,x with
 | .slice,.sl _ es=>K (.val (.int .i64 es.length)) H
 | .slice,.eG=>K (.val (.int .i64 0)) H
 | .slice,.eF _ _ _ _ len=>K (.val (.int .i64 len)) H
 | .string,.val (.string s)=>K (.val (.int .i64 s.size)) H
 | .map,.fE v=>match kX H v with
  | some (_,es)=>K (.val (.int .i64 es.length)) H
  | none=>False
 | _,_=>False
def pG(env:fQ):List X→Option (List Int)
 | []=>some []
 | x::r=>match ev env x,pG env r with
  | .val (.int .i64 n),some l=>some (n::l)
  | _,_=>none
def CP(env:fQ)(isMax:Bool)(xs:List X)(H:U)(K:iO):Prop:=
 match pG env xs with
 | some [a,b]=>K (.val (.int .i64 (if isMax then max a b else min a b))) H
 | some [a,b,c]=>K (.val (.int .i64 (if isMax then max (max a b) c else min (min a b) c))) H
 | _=>False
def CU(x:D)(H:U)(K:iO):Prop:=
 match x with
 | .ptr v g o=>K (.ptr v g o) H
 | .eW cs=>K (.eW cs) H
 | .fn (.func f) a b=>K (.fn (.func f) a b) H
 | .ic v=>K (.ic v) H
 | _=>False
def Bt(k:IntKind)(x:D)(H:U)(K:iO):Prop:=
 match x with
 | .val (.int _ n)=>K (.val (.int k (k.wrap n))) H
 | _=>False
def bytesOf:List D→Option (List Int)
 | []=>some []
 | .val (.int .u8 n)::r=>match bytesOf r with
  | some l=>some (n::l)
  | none=>none
 | _=>none
def Bd(x:D)(H:U)(K:iO):Prop:=
 match kY 1 H x with
 | some (ys,_)=>match bytesOf ys with
  | some ns=>K (.val (.string (ns.foldl (fun r n=>r.push (UInt8.ofNat n.toNat)) ByteArray.empty))) H
  | none=>False
 | none=>False
def A'(env:fQ)(H:U)(al:Al)(K:iO):gP→Prop
 | .mv x=>K (ev env x) H
 | .pick c a b=>CZ (ev env c) (ev env a) (ev env b) H K
 | .box t x=>Bh t (ev env x) al K
 | .alloc t z=>K (.ptr al.1 0 0) (al.2 (.row t 0 z))
 | .build z ps=>wZ env z ps H K
 | .buildSl t sz z n ps=>Bi env t sz z n ps al K
 | .ld1 x=>CB (ev env x) H K
 | .ldN n x=>CD n (ev env x) H K
 | .st1 a x=>Ds (ev env a) (ev env x) H K
 | .stN n a x=>Dt n (ev env a) (ev env x) H K
 | .nilck x=>CU (ev env x) H K
 | .arith op x y=>Bf op (ev env x) (ev env y) H K
 | .eqS iJ ls neg x y=>vJ iJ ls neg (ev env x) (ev env y) H K
 | .un op x=>DE op (ev env x) H K
 | .conv k x=>Bt k (ev env x) H K
 | .b2s x=>Bd (ev env x) H K
 | .mkfn f first cap=>K (.fn f (first.map (ev env)) (cap.map (ev env))) H
 | .mkmap kk=>K (.fE al.1) (al.2 (.map kk []))
 | .mksl t sz bytes z l c=>CQ t sz bytes z (ev env l) (ev env c) al K
 | .slc sz x lo hi=>Dp env sz (ev env x) lo hi H K
 | .slcS x lo hi=>Ap env (ev env x) lo hi H K
 | .fieldA off x=>BG off (ev env x) H K
 | .field off n iJ x=>xl off n iJ (ev env x) H K
 | .idxA sz x i=>Cs sz (ev env x) (ev env i) H K
 | .idxArr sz n x i=>Ct sz n (ev env x) (ev env i) H K
 | .idx sz n iJ x i=>Cv sz n iJ (ev env x) (ev env i) H K
 | .idxStr x i=>Cw (ev env x) (ev env i) H K
 | .lookup kk z ok m k=>CG kk z ok (ev env m) (ev env k) H K
 | .mapUpd kk m k x=>CL kk (ev env m) (ev env k) (ev env x) H K
 | .ext x i=>BE (ev env x) i H K
 | .call _ _ | .callN _ _ | .callv _ _=>False
 | .app t sz bytes x y=>Ba t sz bytes (ev env x) (ev env y) H al K
 | .copy sz x y=>Bw sz (ev env x) (ev env y) H K
 | .len k x=>CE k (ev env x) H K
 | .minmax isMax xs=>CP env isMax xs H K
 | .nilS .. | .capE .. | .appZ .. | .clr .. | .rangeS .. | .nextS .. | .rangeM .. | .nextM .. | .entry .. => False
def put(env:Env)(dst:Option Nat)(d:D):Env:=match dst with
 | some k=>(k,d)::env
 | none=>env
def Ctx.set(c:Ctx)(v k:Nat)(L:Loc):Ctx:={ c with ι:=fun u l=>if u=v∧l=k then some L else c.ι u l }
def Ctx.rh(c:Ctx)(v k:Nat)(L:Loc):(c.set v k L).ι v k=some L:=by simp[Ctx.set]
def Ctx.sM(c:Ctx){v k u l:Nat}(L:Loc)(h:¬ (u=v∧l=k)):(c.set v k L).ι u l=c.ι u l:=by simp only[Ctx.set];rw[if_neg h]
structure uh(H:U)(v:Nat)(ob:Ob)(H':U):Prop where
 get:∀ u,H'[u]? = if u=v then some ob else H[u]?
 free:H.length≤v∨H[v]? = some .kW
 len:H.length≤H'.length
def uh.last(H:U)(ob:Ob):uh H H.length ob (H ++ [ob]) where
 get u:=by
  split
  ·rename_i h;subst h;simp
  ·rename_i h
   rcases bh u H.length with h1|h1
   ·rw[ag h1]
   ·rw[aO (by simp;omega),aO h1]
 free:=.inl (Nat.le_refl _)
 len:=by simp
theorem uh.kW{H:U}{v:Nat}(h:H[v]? = some .kW)(ob:Ob):uh H v ob (H.set v ob) where
 get u:=by
  have:=(af.1 h).1
  rw[bO]
  split
  ·rename_i e;subst e;simp[this]
  ·rename_i e;rw[if_neg (dx e)]
 free:=.inr h
 len:=by simp
def ma(H:U)(al:Al):Prop:=∀ ob,uh H al.1 ob (al.2 ob)
theorem ma.last(H:U):ma H (Al.last H):=fun ob=>uh.last H ob
theorem ma.kW{H:U}{v:Nat}(h:H[v]? = some .kW):ma H (Al.kW H v):=fun ob=>uh.kW h ob
structure jq(w w':World):Prop where
 os:w'.os=w.os∧w.drawn≤w'.drawn
 tape:w'.tape=w.tape
 output:w'.output=w.output
 size:w.heap.size≤w'.heap.size
 kept:∀ b,b<w.heap.size→w'.heap[b]? = w.heap[b]?
def jq.refl(w:World):jq w w:=⟨⟨rfl,Nat.le_refl _⟩,rfl,rfl,Nat.le_refl _,fun _ _=>rfl⟩
theorem jq.alloc(w:World)(o:Obj):jq w (w.alloc o):=
 ⟨⟨rfl,Nat.le_refl _⟩,rfl,rfl,by simp,fun b h=>by simp only[World.alloc,Array.getElem?_push];rw[if_neg (by omega)]⟩
theorem jq.trans{a b c:World}(h:jq a b)(k:jq b c):jq a c:=
 ⟨⟨k.os.1.trans h.os.1,Nat.le_trans h.os.2 k.os.2⟩,k.tape.trans h.tape,k.output.trans h.output,Nat.le_trans h.size k.size,fun i hi=>(k.kept i (aK hi h.size)).trans (h.kept i hi)⟩
theorem jq.drew(w:World):jq w w.drew:=⟨⟨rfl,Nat.le_succ _⟩,rfl,rfl,Nat.le_refl _,fun _ _=>rfl⟩
def Av(n:Nat){c:Ctx}{H:U}{w w':World}(hg:jq w w'):Step n c H w c H w':=
 ⟨hg.os,hg.tape,hg.output,hg.size,rfl,fun _ h=>h,fun _ h=>.inl h,fun b hb _=>hg.kept b hb,fun _ _ _ _ h=>h,fun _ h=>.inr h⟩
def A6.mono{c c':Ctx}{w w':World}(hr:∀ v d,eJ c w v d→eJ c' w' v d){arr:Array MapEntry}{clock:Nat}{es:List (Value×D)}(h:A6 c w arr clock es):A6 c' w' arr clock es:=
 ⟨h.1,fun i e x he hx=>let ⟨a,b,d⟩:=h.2.1 i e x he hx;⟨a,hr _ _ b,d⟩,h.2.2⟩
def gd.pY{c c':Ctx}{w w':World}(sx:c'.RT=c.RT)(hr:∀ v d,eJ c w v d→eJ c' w' v d){L:Option Loc}{o:Ob}
  (hb:∀ l,L=some l→l.iM=false→o.alive=true→w'.heap[l.b]? = w.heap[l.b]?) (h:gd c w L o):gd c' w' L o:=by
 cases o with
 | dead=>simp[gd]
 | kW=>simpa[gd]using h
 | row t g cs=>
  cases L with
  | none=>simp[gd]at h
  | some l=>
   simp only[gd]at h ⊢
   split
   ·rename_i hv;simpa[hv]using h
   ·rename_i hv
    simp only[hv]at h
    obtain⟨arr,h1,h2,h3,h4⟩:=h
    refine⟨arr,by rw[hb l rfl (by simpa using hv) rfl];exact h1,h2,h3,fun i d hd=>?_⟩
    obtain⟨v,k9,oI,Cl⟩:=h4 i d hd
    exact⟨v,k9,oI,hr _ _ Cl⟩
 | map kk es=>
  cases L with
  | none=>simp[gd]at h
  | some l=>
   simp only[gd]at h ⊢
   obtain⟨hv,hk,arr,clock,h1,h2⟩:=h
   exact⟨hv,hk,arr,clock,by rw[hb l rfl hv rfl];exact h1,h2.mono hr⟩
 | gu rf env st=>
  cases L with
  | none=>simp[gd]at h
  | some l=>
   simp only[gd]at h ⊢
   obtain⟨hv,r,h1,h2,h3,h4⟩:=h
   exact⟨hv,r,by rw[hb l rfl hv rfl];exact h1,fun k=>hr _ _ (h2 k),by rw[sx];exact h3,h4⟩
 | qA s p=>
  cases L with
  | none=>simp[gd]at h
  | some l=>
   simp only[gd]at h ⊢
   exact⟨h.1,h.2.1,by rw[hb l rfl h.1 rfl];exact h.2.2⟩
 | jJ m since seen=>
  cases L with
  | none=>simp[gd]at h
  | some l=>
   simp only[gd]at h ⊢
   obtain⟨h1,h2,bm,h3,h4⟩:=h
   exact⟨h1,h2,bm,hr _ _ h3,by rw[hb l rfl h1 rfl];exact h4⟩
 | jZ=>
  cases L with
  | none=>simp[gd]at h
  | some l=>
   simp only[gd]at h ⊢
   by_cases hv:l.iM=true
   ·exact .inl hv
   ·exact .inr (by rw[hb l rfl (by simpa using hv) rfl];exact h.resolve_left hv)
def e9.oD{G:GT}{c:Ctx}{H:U}{w w':World}(h:e9 G c H w)(hg:jq w w'):e9 G c H w':=by
 have hs:=Av H.length (c:=c) (H:=H) hg
 have hr:∀ v d,eJ c w v d→eJ c w' v d:=fun v d hd=>hd.pd h.toHeapOK hs
 exact{
  inj:=h.inj
  lt:=fun b hb=>aK (h.lt b hb) hg.size
  nF:=h.nF
  jG:=fun b hb=>aK (h.jG b hb) hg.size
  out:=h.out
  lk:=h.lk
  ob:=fun v o ho=>(h.ob v o ho).pY rfl hr fun l hl hv hd=>hg.kept _ (h.lt _ ⟨v,l,⟨o,ho,hd,hl⟩,hv,rfl⟩)
  gl:=fun g cs xE=>let ⟨a,b⟩:=h.gl g cs xE;⟨a,hr _ _ b⟩
  rt:=h.rt }
structure vt(H:U)(v:Nat)(ob:Ob)(H':U):Prop where
 get:∀ u,H'[u]? = if u=v then some ob else H[u]?
 free:H.length≤v∨H[v]? = some .kW∨∃ o,H[v]? = some o∧o.alive=true∧o.gen<ob.gen
 len:H.length≤H'.length
def uh.rX{H:U}{v:Nat}{ob:Ob}{H':U}(h:uh H v ob H'):vt H v ob H':=⟨h.get,h.free.imp id .inl,h.len⟩
def Ax{c:Ctx}{H H':U}{v:Nat}{ob:Ob}{L:Loc}(ht:vt H v ob H'){u:Nat}{l:Loc}(h:kN (c.set v ob.gen L) H' u l) :
  (u=v∧l=L)∨(u≠v∧kN c H u l):=by
 obtain⟨o,ho,ha,eR⟩:=h
 rw[ht.get]at ho
 split at ho
 ·rename_i e;cases ho;subst e;rw[Ctx.rh]at eR;cases eR;exact .inl ⟨rfl,rfl⟩
 ·rename_i e
  rw[Ctx.sM _ _ (fun h=>e h.1)]at eR
  exact .inr ⟨e,o,ho,ha,eR⟩
def Tb{G:GT}{c:Ctx}{H H':U}{w:World}{v:Nat}{ob:Ob}(h:e9 G c H w)(ht:vt H v ob H')(k:Nat)(hk:ob.gen≤k):c.ι v k=none:=by
 rcases ht.free with hf|hf|⟨o,ho,ha,hg⟩
 ·exact h.out v k hf
 ·exact h.lk v _ k hf (.inl rfl)
 ·exact h.lk v o k ho (.inr ⟨ha,by omega⟩)
def Tc{G:GT}{c:Ctx}{H H':U}{w:World}{v:Nat}{ob:Ob}{L:Loc}(h:e9 G c H w)(ht:vt H v ob H')(u k:Nat)(l:Loc)(eR:c.ι u k=some l):(c.set v ob.gen L).ι u k=some l:=by
 rw[Ctx.sM]
 ·exact eR
 ·rintro⟨rfl,rfl⟩
  rw[Tb h ht _ (Nat.le_refl _)]at eR
  cases eR
def Jt{G:GT}{c:Ctx}{H H':U}{w w':World}{v:Nat}{ob:Ob}(h:e9 G c H w)(ht:vt H v ob H')(hg:jq w w')(L:Loc)
  (hL:L.iM=false→w.heap.size≤L.b∧L.b<w'.heap.size):Step H.length c H w (c.set v ob.gen L) H' w' where
 os:=hg.os
 tape:=hg.tape
 output:=hg.output
 size:=hg.size
 RT:=rfl
 Fm _ h:=h
 Fn _ h:=.inl h
 kept b hb _:=hg.kept b hb
 old u k l _ eR:=Tc h ht u k l eR
 own b hb:=by
  obtain⟨u,l,hl,hv,e⟩:=hb
  rcases Ax ht hl with⟨_,rfl⟩|⟨_,hl⟩
  ·exact .inl (e▸(hL hv).1)
  ·exact .inr ⟨u,l,hl,hv,e⟩
def M5{G:GT}{c:Ctx}{H H':U}{w w':World}{v:Nat}{ob:Ob}(h:e9 G c H w)(ht:vt H v ob H')(hg:jq w w')(L:Loc)
  (hL:L.iM=false→w.heap.size≤L.b∧L.b<w'.heap.size) (gg:ob.alive=true) (gA:gd (c.set v ob.gen L) w' (some L) ob):e9 G (c.set v ob.gen L) H' w':=by
 have hs:=Jt h ht hg L hL
 have hr:∀ u d,eJ c w u d→eJ (c.set v ob.gen L) w' u d:=fun u d hd=>hd.pd h.toHeapOK hs
 have fq:∀ u l,kN c H u l→l.iM=false→l.b<w.heap.size:=fun u l hl hv=>h.lt _ ⟨u,l,hl,hv,rfl⟩
 have YT:v<H'.length:=by
  have:=ht.get v
  rw[if_pos rfl]at this
  exact(af.1 this).1
 exact{
  inj:=by
   intro u u' l l' h1 h2 h5 h6 he
   rcases Ax ht h1 with⟨rfl,rfl⟩|⟨_,b⟩<;>rcases Ax ht h2 with⟨rfl,rfl⟩|⟨_,b'⟩
   ·rfl
   ·have:=(hL h5).1;have:=fq _ _ b' h6;omega
   ·have:=(hL h6).1;have:=fq _ _ b h5;omega
   ·exact h.inj u u' l l' b b' h5 h6 he
  lt:=fun b hb=>by
   obtain⟨u,l,hl,hv,e⟩:=hb
   rcases Ax ht hl with⟨_,rfl⟩|⟨_,hl⟩
   ·exact e▸(hL hv).2
   ·exact e▸aK (fq u l hl hv) hg.size
  nF:=fun b hb hF=>by
   obtain⟨u,l,hl,hv,e⟩:=hb
   rcases Ax ht hl with⟨_,rfl⟩|⟨_,hl⟩
   ·have:=h.jG b hF;have:=(hL hv).1;omega
   ·exact h.nF b ⟨u,l,hl,hv,e⟩ hF
  jG:=fun b hb=>aK (h.jG b hb) hg.size
  out:=fun u k hu=>by
   rw[Ctx.sM _ _ (by rintro⟨rfl,_⟩;omega)]
   exact h.out u k (Nat.le_trans ht.len hu)
  lk:=fun u o k ho hk=>by
   rw[ht.get]at ho
   split at ho
   ·rename_i e
    cases ho;subst e
    rcases hk with rfl|⟨_,hk⟩
    ·cases gg
    ·rw[Ctx.sM _ _ (by rintro⟨_,rfl⟩;omega)];exact Tb h ht k (by omega)
   ·rename_i e
    rw[Ctx.sM _ _ (fun h=>e h.1)]
    exact h.lk u o k ho hk
  ob:=fun u o ho=>by
   rw[ht.get]at ho
   split at ho
   ·rename_i e
    cases ho;subst e
    rw[Ctx.rh];exact gA
   ·rename_i e
    rw[Ctx.sM _ _ (fun h=>e h.1)]
    exact gd.pY (c:=c) (c':=c.set v ob.gen L) rfl hr (fun l hl hv hd=>hg.kept _ (fq u l ⟨o,ho,hd,hl⟩ hv)) (h.ob u o ho)
  gl:=fun g cs xE=>let ⟨a,b⟩:=h.gl g cs xE;⟨a,hr _ _ b⟩
  rt:=h.rt }
structure Cells(c:Ctx)(w:World)(vs:List Value)(cs:List D):Prop where
 len:vs.length=cs.length
 one:∀ v∈vs,v.oneCell'=true
 rep:∀ (i:Nat) (v:Value) (d:D),vs[i]? = some v→cs[i]? = some d→eJ c w v d
def CS{G:GT}{c:Ctx}{H H':U}{v gen:Nat}{w:World}(h:e9 G c H w)(w0:World)(hg:jq w w0)(t:TypeId)(vs:List Value)(cs:List D)(n:Nat)(arr:Array Value)
  (ht:vt H v (.row t gen cs) H') (hc:Cells c w vs cs) (ha:arr.toList.take n=vs) (hn:n≤arr.size) :
  ∃ L:Loc,L.iM=false∧L.b=w0.heap.size∧L.base=0∧L.top=arr.size ∧
   e9 G (c.set v gen L) H' (w0.alloc (.cells arr t))∧Step H.length c H w (c.set v gen L) H' (w0.alloc (.cells arr t)):=by
 have rH:=hg.trans (jq.alloc w0 (.cells arr t))
 refine⟨⟨w0.heap.size,0,arr.size,false⟩,rfl,rfl,rfl,rfl,?_⟩
 have hL:(⟨w0.heap.size,0,arr.size,false⟩:Loc).iM=false→w.heap.size≤(⟨w0.heap.size,0,arr.size,false⟩:Loc).b∧(⟨w0.heap.size,0,arr.size,false⟩:Loc).b<(w0.alloc (.cells arr t)).heap.size:=fun _=>⟨hg.size,by simp⟩
 have hs:=Jt h ht rH ⟨w0.heap.size,0,arr.size,false⟩ hL
 refine⟨M5 h ht rH _ hL rfl ?_,hs⟩
 have hr:∀ u d,eJ c w u d→eJ (c.set v gen ⟨w0.heap.size,0,arr.size,false⟩) (w0.alloc (.cells arr t)) u d:=fun u d hd=>hd.pd h.toHeapOK hs
 have hlen:cs.length=n:=by rw[← hc.len,← ha];simp;omega
 simp only[gd,Ob.gen]
 refine⟨arr,heap_alloc_new _ _,rfl,by simp;omega,fun i d hd=>?_⟩
 have hi:i<cs.length:=(af.1 hd).1
 have xH:i<arr.size:=by omega
 refine⟨arr[i],by simp[xH],?_,?_⟩
 ·exact hc.one _ (by rw[← ha];exact bk (i:=i) (by rw[aA];simp[hlen▸hi,xH]))
 ·exact hr _ _ (hc.rep i _ d (by rw[← ha,aA];simp[hlen▸hi,xH]) hd)
def p6{H:U}{v:Nat}{ob:Ob}(hv:v<H.length)(u:Nat):(H.set v ob)[u]? = if u=v then some ob else H[u]? := by
 rw[bO]
 split
 ·rename_i e;subst e;simp[hv]
 ·rename_i e;rw[if_neg (dx e)]
def af2{c:Ctx}{H:U}{v:Nat}{ob ob':Ob}(hv:H[v]? = some ob)(ha:ob.alive=true)(hg:ob'.gen=ob.gen){u:Nat}{l:Loc}(h:kN c (H.set v ob') u l):kN c H u l:=by
 obtain⟨o,ho,gg,eR⟩:=h
 rw[p6 (af.1 hv).1]at ho
 split at ho
 ·rename_i e;cases ho;subst e;exact⟨ob,hv,ha,by rw[← hg];exact eR⟩
 ·exact⟨o,ho,gg,eR⟩
def Tw{G:GT}{c:Ctx}{H:U}{w:World}(h:e9 G c H w){v:Nat}{ob ob':Ob}(hv:H[v]? = some ob)(ha:ob.alive=true)(qn:ob'.alive=true)(HM:ob'.gen=ob.gen){L:Loc}(eR:c.ι v ob.gen=some L)(gE:L.iM=false)
  {w':World} (pD:w'.os=w.os∧w.drawn≤w'.drawn) (LB:w'.tape=w.tape) (lX:w'.output=w.output) (Ci:w'.heap.size=w.heap.size)
  (kU:∀ b,b≠L.b→w'.heap[b]? = w.heap[b]?) (gA:(∀ u d,eJ c w u d→eJ c w' u d)→gd c w' (some L) ob') :
  e9 G c (H.set v ob') w'∧Step H.length c H w c (H.set v ob') w':=by
 have B3:kN c H v L:=⟨ob,hv,ha,eR⟩
 have vX:lj c H L.b:=⟨v,L,B3,gE,rfl⟩
 have hL:∀ u l,kN c (H.set v ob') u l→kN c H u l:=fun u l hl=>af2 hv ha HM hl
 have qk:∀ b,lj c (H.set v ob') b→lj c H b:=fun b ⟨u,l,hl,r⟩=>⟨u,l,hL u l hl,r⟩
 have hs:Step H.length c H w c (H.set v ob') w':=
  ⟨pD,LB,lX,by omega,rfl,fun _ h=>h,fun _ h=>.inl h,fun b _ hn=>kU b (fun e=>hn (e▸vX)),fun _ _ _ _ h=>h,fun b hb=>.inr (qk b hb)⟩
 have hr:∀ u d,eJ c w u d→eJ c w' u d:=fun u d hd=>hd.pd h.toHeapOK hs
 refine⟨{
  inj:=fun u u' l l' h1 h2=>h.inj u u' l l' (hL _ _ h1) (hL _ _ h2)
  lt:=fun b hb=>by rw[Ci];exact h.lt b (qk b hb)
  nF:=fun b hb=>h.nF b (qk b hb)
  jG:=fun b hb=>by rw[Ci];exact h.jG b hb
  out:=fun u k hu=>h.out u k (by simpa using hu)
  lk:=fun u o k ho hk=>by
   rw[p6 (af.1 hv).1]at ho
   split at ho
   ·rename_i e;cases ho;subst e
    rcases hk with rfl|⟨_,hk⟩
    ·cases qn
    ·exact h.lk u ob k hv (.inr ⟨ha,by omega⟩)
   ·exact h.lk u o k ho hk
  ob:=fun u o ho=>by
   rw[p6 (af.1 hv).1]at ho
   split at ho
   ·rename_i e
    cases ho;subst e
    rw[HM,eR]
    exact gA hr
   ·rename_i gw
    exact(h.ob u o ho).pY rfl hr fun l hl lA hd=>kU _ fun e=>gw (h.inj u v l L ⟨o,ho,hd,hl⟩ B3 lA gE e)
  gl:=fun g cs xE=>let ⟨a,b⟩:=h.gl g cs xE;⟨a,hr _ _ b⟩
  rt:=h.rt },hs⟩
def DJ{G:GT}{c:Ctx}{H:U}{w:World}(h:e9 G c H w){v g:Nat}{t:TypeId}{cs:List D}(hv:H[v]? = some (.row t g cs)){L:Loc}(eR:c.ι v g=some L)(gE:L.iM=false)
  {arr:Array Value} (my:w.heap[L.b]? = some (.cells arr t (0,0))) (nH:Array Value) (gH:nH.size=arr.size) (lY:L.top=arr.size) (mu:List D) (hlen:L.base+mu.length≤L.top)
  (hc:∀ (i:Nat) (d:D),mu[i]? = some d→∃ u,nH[L.base+i]? = some u∧u.oneCell'=true∧eJ c w u d) :
  e9 G c (H.set v (.row t g mu)) (w.setRow L.b nH)∧Step H.length c H w c (H.set v (.row t g mu)) (w.setRow L.b nH):=by
 refine Tw (w':=w.setRow L.b nH) (ob':=.row t g mu) h hv rfl rfl rfl eR gE ⟨rfl,Nat.le_refl _⟩ rfl rfl (by simp[World.setRow]) (fun b hb=>by simp only[World.setRow,bL];rw[if_neg (dx hb)]) fun hr=>?_
 simp only[gd,gE]
 refine⟨nH,setRow_heap w L.b arr _ t _ my,by rw[lY,gH],hlen,fun i d hd=>?_⟩
 obtain⟨x,o6,lJ,uT⟩:=hc i d hd
 exact⟨x,o6,lJ,hr _ _ uT⟩
def vD:Value→D
 | .slice none 0 0=>.eG
 | v=>.val v
def GX:Value→Option D
 | .slice none 0 0=>some .eG
 | .agg cs=>if cs.all (·.oneCell')then some (.agg (cs.toList.map vD))else none
 | .tuple _=>none
 | v=>some (.val v)
def cX(G:GT):Operand→Option X
 | .tmp t=>some (.t t)
 | .const v=>(GX v).map .c
 | .global g=>(G g).map fun cs=>.c (.eW cs)
 | .func f=>some (.c (.fn (.func f) [] []))
def ur(G:GT):List Operand→Option (List X)
 | []=>some []
 | x::r=>match cX G x,ur G r with
  | some a,some l=>some (a::l)
  | _,_=>none
def vC(G:GT):List (Nat×Operand)→Option (List (Nat×X))
 | []=>some []
 | (i,x)::r=>match cX G x,vC G r with
  | some a,some l=>some ((i,a)::l)
  | _,_=>none
def uq(G:GT):Option Operand→Option (Option X)
 | none=>some none
 | some x=>(cX G x).map some
def jL(P:Program)(t:TypeId):Option Nat:=(P.info? t).map (·.size)
def pg(P:Program)(t:TypeId):Option (List D):=match (P.info? t).bind (·.zero)with
 | some z=>if z.cells.all (·.oneCell')then some (z.cells.toList.map vD)else none
 | none=>none
def oz(P:Program)(t:TypeId):Option Bool:=match P.underlying t with
 | some (.struct _)|some (.array _ _)=>some true
 | some _=>some false
 | none=>none
def QW(P:Program)(t:TypeId):Bool:=match P.underlying t with
 | some (.int _)|some .string|some .bool=>true
 | _=>false
def Gx(P:Program)(t:TypeId):Bool:=match P.underlying t with
 | some .bool=>true
 | _=>false
def x4(P:Program)(t:TypeId):Option nX:=match P.underlying t with
 | some (.int _)=>some .int
 | some .string=>some .str
 | some .bool=>some .bool
 | _=>none
def Ha(P:Program):Nat→List Field→Option (List nX)
 | _,[]=>some []
 | i,f::r=>match x4 P f.type,Ha P (i+1) r with
  | some l,some ls=>if f.offset=i∧f.name≠ "_" then some (l::ls)else none
  | _,_=>none
def Hb(P:Program)(t:TypeId):Option (List nX):=match P.underlying t with
 | some (.struct fs)=>if P.stoodInHeld t=false∧P.eqGuardType P.depth t=false then Ha P 0 fs.toList else none
 | _=>none
def C0(P:Program)(fs:Array Field):List (Nat×X)→Option (List (Nat×Nat×X))
 | []=>some []
 | (i,x)::r=>match fs[i]?,C0 P fs r with
  | some f,some l=>(jL P f.type).map fun n=>(f.offset,n,x)::l
  | _,_=>none
def Pb(P:Program)(fs:Array Field):Bool:=fs.all fun f=>(jL P f.type).isSome
def qj(P:Program)(f:FuncId):Bool:=match P.funcs[f]? with
 | some fn=>fn.name != "runtime.NumGoroutine" && fn.body.isSome
 | none=>false
def tF(P:Program)(t:TypeId):Option KK:=match P.underlying t with
 | some (.int k)=>some (.int k)
 | some .string=>some .str
 | some .bool=>some .bool
 | _=>none
def Nj(P:Program)(t:TypeId):Option D:=(P.info? t).bind fun i=>i.zero.bind GX
def mr(P:Program)(G:GT)(o:Oper):Option gP:=
 match o.op with
 | .move x=>do let a ← cX G x;pure (.mv a)
 | .assign x=>do let a ← cX G x;pure (.mv a)
 | .pick c a b=>do pure (.pick (← cX G c) (← cX G a) (← cX G b))
 | .box e x=>do pure (.box e (← cX G x))
 | .alloc e=>do pure (.alloc e (← pg P e))
 | .build t ps=>do
  let z ← pg P t
  let l ← vC G ps.toList
  match P.underlying t with
  | some (.struct fs)=>if Pb P fs then do pure (.build z (← C0 P fs l))else none
  | some (.array _ e)=>do
   let sz ← jL P e
   pure (.build z (l.map fun p=>(p.1*sz,sz,p.2)))
  | _=>none
 | .buildSlice t n ps=>do
  let .slice e ← P.underlying t|none
  let z ← pg P e
  let sz ← jL P e
  let l ← vC G ps.toList
  if z.length=sz∧0<sz∧n*sz≤16777216 then pure (.buildSl e sz z n l)else none
 | .load t a=>do
  let x ← cX G a
  let n ← jL P t
  if ← oz P t then pure (.ldN n x)else pure (.ld1 x)
 | .store t a v=>do
  let x ← cX G a
  let y ← cX G v
  let n ← jL P t
  if ← oz P t then pure (.stN n x y)else if n=1 then pure (.st1 x y)else none
 | .nilCheck x=>do pure (.nilck (← cX G x))
 | .binOp op t x y _=>do
  let a ← cX G x
  let b ← cX G y
  match op with
  | .eql=>if Gx P t then pure (.eqS false [.bool] false a b)else if QW P t then pure (.arith .eql a b)else do pure (.eqS true (← Hb P t) false a b)
  | .neq=>if Gx P t then pure (.eqS false [.bool] true a b)else if QW P t then pure (.arith .neq a b)else do pure (.eqS true (← Hb P t) true a b)
  | op=>pure (.arith op a b)
 | .unOp op _ x=>do pure (.un op (← cX G x))
 | .convert s d x=>do
  let a ← cX G x
  let _ ← P.underlying s
  match P.underlying d with
  | some (.int k)=>pure (.conv k a)
  | some .string=>do
   let .slice e ← P.underlying s|none
   let .int .u8 ← P.underlying e|none
   pure (.b2s a)
  | _=>none
 | .makeFunc f first cap=>do pure (.mkfn f (← ur G first.toList) (← ur G cap.toList))
 | .makeMap t none=>do
  let .map k _ ← P.underlying t|none
  pure (.mkmap (← tF P k))
 | .lookup t x i ok=>do
  let .map k e ← P.underlying t|none
  let z ← Nj P e
  pure (.lookup (← tF P k) z ok (← cX G x) (← cX G i))
 | .mapUpdate t m k v=>do
  let .map kt _ ← P.underlying t|none
  pure (.mapUpd (← tF P kt) (← cX G m) (← cX G k) (← cX G v))
 | .insert t m k v=>do
  let .map kt _ ← P.underlying t|none
  pure (.mapUpd (← tF P kt) (← cX G m) (← cX G k) (← cX G v))
 | .makeSlice t l c=>do
  let .slice e ← P.underlying t|none
  let z ← pg P e
  let i ← P.info? e
  if z.length=i.size∧0<i.size then pure (.mksl e i.size i.bytes z (← cX G l) (← cX G c))else none
 | .slice t x lo hi none=>do
  let a ← cX G x
  let l ← uq G lo
  let h ← uq G hi
  match P.underlying t with
  | some (.slice e)=>do pure (.slc (← jL P e) a l h)
  | some .string=>pure (.slcS a l h)
  | _=>none
 | .fieldAddr t x f=>do
  let a ← cX G x
  let .struct fs ← P.underlying t|none
  let fd ← fs[f]?
  let n ← jL P fd.type
  if 0<n then pure (.fieldA fd.offset a)else none
 | .field t x f=>do
  let a ← cX G x
  let .struct fs ← P.underlying t|none
  let fd ← fs[f]?
  let n ← jL P fd.type
  pure (.field fd.offset n (← oz P fd.type) a)
 | .indexAddr t x i=>do
  let a ← cX G x
  let j ← cX G i
  match P.underlying t with
  | some (.slice e)=>do
   let n ← jL P e
   if 0<n then pure (.idxA n a j)else none
  | some (.array n e)=>do pure (.idxArr (← jL P e) n a j)
  | _=>none
 | .index t x i=>do
  let a ← cX G x
  let j ← cX G i
  match P.underlying t with
  | some (.array n e)=>do pure (.idx (← jL P e) n (← oz P e) a j)
  | some .string=>pure (.idxStr a j)
  | _=>none
 | .extract x i=>do pure (.ext (← cX G x) i)
 | .call c=>do
  let args ← ur G c.args.toList
  match c.callee with
  | .value (.func f)=>if qj P f then pure (if G.nw f then .callN f args else .call f args)else none
  | .value f=>do pure (.callv (← cX G f) args)
  | .builtin .append=>match c.argTypes.toList,args with
   | [t,u],[x,y]=>do
    let .slice e ← P.underlying t|none
    let i ← P.info? e
    let z ← pg P e
    let .slice _ ← P.underlying u|none
    if z.length=i.size∧0<i.size then pure (.app e i.size i.bytes x y)else none
   | _,_=>none
  | .builtin .copy=>match c.argTypes.toList,args with
   | [t,u],[x,y]=>do
    let .slice e ← P.underlying t|none
    let .slice _ ← P.underlying u|none
    let n ← jL P e
    if 0<n then pure (.copy n x y)else none
   | _,_=>none
  | .builtin .len=>match c.argTypes.toList,args with
   | [t],[x]=>match P.underlying t with
    | some (.slice _)=>pure (.len .slice x)
    | some .string=>pure (.len .string x)
    | some (.map _ _)=>pure (.len .map x)
    | _=>none
   | _,_=>none
  | .builtin .max=>pure (.minmax true args)
  | .builtin .min=>pure (.minmax false args)
  | _=>none
 | _=>none
end Go.AL
namespace Go.AL
open Go
def jW(c:Ctx)(w:World)(env:fQ)(a:Act):Prop:=∀ k,eJ c w (a.tmps.getD k undef) (env k)
def iv(G:GT)(c:Ctx)(H:U)(w:World)(K:iO)(v:Value)(w':World):Prop:=
 ∃ d H' c',K d H'∧e9 G c' H' w'∧eJ c' w' v d∧Step H.length c H w c' H' w'
section
variable{P:Program}{G:GT}{c:Ctx}{H:U}{w:World}{K:iO}{env:fQ}{a:Act}
def iv.plain(h:e9 G c H w){v:Value}{d:D}(hK:K d H)(hr:eJ c w v d):iv G c H w K v w:=
 ⟨d,H,c,hK,h,hr,Step.refl _ _ _ _⟩
def Sq(v:Value):eJ c w v (vD v):=by
 unfold vD
 split
 ·exact .eG
 ·exact .val _
def Sr{v:Value}{d:D}(h:GX v=some d):eJ c w v d:=by
 unfold GX at h
 split at h
 ·cases h;exact .eG
 ·rename_i cs
  split at h
  ·rename_i iF
   cases h
   have:=eJ.agg (c:=c) (w:=w) cs.toList (cs.toList.map vD) (by simp) (fun v hv=>by
    have:=bZ.1 iF v (by simpa using hv)
    exact this) (fun i v d hv hd=>by
    simp only[av,hv,bn,ar]at hd
    subst hd
    exact Sq v)
   simpa using this
  ·cases h
 ·cases h
 ·cases h;exact .val _
def gX(h:e9 G c H w)(he:jW c w env a){x:Operand}{X:X}(hx:cX G x=some X):eJ c w (a.eval x) (ev env X):=by
 cases x with
 | tmp t=>cases hx;exact he t
 | const v=>
  simp only[cX,ai]at hx
  obtain⟨d,hd,rfl⟩:=hx
  exact Sr hd
 | global g=>
  simp only[cX,ai]at hx
  obtain⟨cs,im,rfl⟩:=hx
  exact(h.gl g cs im).2
 | func f=>cases hx;exact .fn (.func f) [] [] [] [] rfl rfl (by simp) (by simp)
theorem w7(h:e9 G c H w)(he:jW c w env a):∀ (l:List Operand) {xs:List X},ur G l=some xs→iy c w (l.map a.eval) (xs.map (ev env))
 | [],xs,hx=>by cases hx;exact .nil
 | x::r,xs,hx=>by
  simp only[ur]at hx
  split at hx
  ·rename_i X l hX hl
   cases hx
   exact .cons (gX h he hX) (w7 h he r hl)
  ·cases hx
theorem iy.length{vs:List Value}{ds:List D}(h:iy c w vs ds):vs.length=ds.length:=by
 induction h with
 | nil=>rfl
 | cons _ _ ih=>simp[ih]
def iy.get{vs:List Value}{ds:List D}(h:iy c w vs ds):∀ (i:Nat) (v:Value) (d:D),vs[i]? = some v→ds[i]? = some d→eJ c w v d:=by
 induction h with
 | nil=>intro i v d hv;simp at hv
 | cons h _ ih=>
  intro i v d hv hd
  cases i with
  | zero=>simp at hv hd;subst hv;subst hd;exact h
  | succ i=>simp at hv hd;exact ih i v d hv hd
def iy.append{vs us:List Value}{ds es:List D}(h:iy c w vs ds)(k:iy c w us es):iy c w (vs++us) (ds++es):=by
 induction h with
 | nil=>exact k
 | cons h _ ih=>exact .cons h ih
theorem iy.CX:∀ {vs:List Value} {ds:List D},vs.length=ds.length→(∀ (i:Nat) (v:Value) (d:D),vs[i]? = some v→ds[i]? = some d→eJ c w v d)→iy c w vs ds
 | [],[],_,_=>.nil
 | v::vs,d::ds,hl,h=>.cons (h 0 v d rfl rfl) (iy.CX (by simpa using hl) fun i v d hv hd=>h (i+1) v d (by simpa using hv) (by simpa using hd))
theorem Cells.agg{vs:List Value}{cs:List D}(h:Cells c w vs cs):eJ c w (.agg vs.toArray) (.agg cs):=.agg vs cs h.len h.one h.rep
theorem Cells.drop{vs:List Value}{cs:List D}(h:Cells c w vs cs)(n:Nat):Cells c w (vs.drop n) (cs.drop n):=
 ⟨by simp[h.len],fun v hv=>h.one v (bV hv),fun i v d hv hd=>h.rep (n+i) v d (by simpa using hv) (by simpa using hd)⟩
theorem Cells.take{vs:List Value}{cs:List D}(h:Cells c w vs cs)(n:Nat):Cells c w (vs.take n) (cs.take n):=
 ⟨by simp[h.len],fun v hv=>h.one v (aJ hv),fun i v d hv hd=>by
  rw[aA]at hv hd
  split at hv
  ·rename_i hi;rw[if_pos hi]at hd;exact h.rep i v d hv hd
  ·cases hv⟩
def Cells.append{vs us:List Value}{cs ds:List D}(h:Cells c w vs cs)(k:Cells c w us ds):Cells c w (vs++us) (cs++ds):=
 ⟨by simp[h.len,k.len],fun v hv=>by
  rcases List.mem_append.1 hv with hv|hv
  ·exact h.one v hv
  ·exact k.one v hv,fun i v d hv hd=>by
  rw[List.getElem?_append]at hv hd
  split at hv
  ·rename_i hi;rw[if_pos (by rw[← h.len];exact hi)]at hd;exact h.rep i v d hv hd
  ·rename_i hi;rw[if_neg (by rw[← h.len];exact hi)]at hd;rw[← h.len]at hd;exact k.rep _ v d hv hd⟩
def Cells.nil:Cells c w [] []:=⟨rfl,by simp,by simp⟩
def Cells.get{vs:List Value}{cs:List D}(h:Cells c w vs cs){i:Nat}{d:D}(hd:cs[i]? = some d):∃ v,vs[i]? = some v∧v.oneCell'=true∧eJ c w v d:=by
 have hi:i<vs.length:=by rw[h.len];exact(af.1 hd).1
 exact⟨vs[i],by simp[hi],h.one _ (bJ hi),h.rep i _ d (by simp[hi]) hd⟩
def rl(c:Ctx)(w:World)(b o:Nat)(cs:List D):Prop:=∃ vs,Cells c w vs cs∧∀ (j:Nat) (v:Value),vs[j]? = some v→w.cell? ⟨b,o+j,none⟩=some v
theorem rl.drop{b o:Nat}{cs:List D}(h:rl c w b o cs)(n:Nat):rl c w b (o+n) (cs.drop n):=by
 obtain⟨vs,hc,hv⟩:=h
 exact⟨vs.drop n,hc.drop n,fun j v hj=>by rw[aD]at hj;have:=hv _ _ hj;rwa [a7]⟩
theorem rl.take{b o:Nat}{cs:List D}(h:rl c w b o cs)(n:Nat):rl c w b o (cs.take n):=by
 obtain⟨vs,hc,hv⟩:=h
 refine⟨vs.take n,hc.take n,fun j v hj=>?_⟩
 rw[aA]at hj
 split at hj
 ·exact hv _ _ hj
 ·cases hj
def wA(h:e9 G c H w){v g:Nat}{t:TypeId}{cs:List D}(hv:H[v]? = some (.row t g cs)){L:Loc}(eR:c.ι v g=some L)(gE:L.iM=false) :
  ∃ arr:Array Value,w.heap[L.b]? = some (.cells arr t (0,0))∧L.top=arr.size∧L.base+cs.length≤L.top∧Cells c w ((arr.toList.drop L.base).take cs.length) cs:=by
 have h0:=h.ob v _ hv
 simp only[Ob.gen]at h0
 rw[eR]at h0
 simp only[gd,gE]at h0
 obtain⟨arr,h1,h2,h3,h4⟩:=h0
 refine⟨arr,h1,h2,h3,⟨by simp;omega,fun u hu=>?_,fun i u d hu hd=>?_⟩⟩
 ·obtain⟨i,hi⟩:=aF.1 hu
  rw[aA]at hi
  split at hi
  ·rename_i fq
   rw[aD]at hi
   obtain⟨x,hx,h5,_⟩:=h4 i cs[i] (by simp[fq])
   have:arr[L.base+i]? = some u:=by simpa using hi
   rw[hx]at this
   cases this
   exact h5
  ·cases hi
 ·rw[aA]at hu
  split at hu
  ·rw[aD]at hu
   obtain⟨x,hx,_,h6⟩:=h4 i d hd
   have:arr[L.base+i]? = some u:=by simpa using hu
   rw[hx]at this
   cases this
   exact h6
  ·cases hu
def GJ(h:e9 G c H w){v g o:Nat}{t:TypeId}{cs:List D}(hv:H[v]? = some (.row t g cs)){u:Value}(hr:eJ c w u (.ptr v g o)) :
  ∃ b p,u = .pointer (some ⟨b,p,none⟩)∧rl c w b p (cs.drop o):=by
 cases hr with
 | ptr _ _ _ L eR gE=>
  obtain⟨arr,h1,h2,h3,h4⟩:=wA h hv eR gE
  refine⟨L.b,L.base+o,rfl,?_⟩
  refine rl.drop ⟨_,h4,fun j x hx=>?_⟩ o
  rw[aA]at hx
  split at hx
  ·rw[aD]at hx
   simp[World.cell?,h1]
   simpa using hx
  ·cases hx
def w9{u:Value}{cs:List D}(hr:eJ c w u (.eW cs)):∃ b p,u = .pointer (some ⟨b,p,none⟩)∧c.F b∧rl c w b p cs:=by
 cases hr with
 | eW b o _ g hF hc hr=>
  refine⟨b,o,rfl,hF,(List.range cs.length).map g,⟨by simp,fun v hv=>?_,fun i v d hv hd=>?_⟩,fun j v hv=>?_⟩
  ·simp only[ao,aY]at hv
   obtain⟨j,hj,rfl⟩:=hv
   exact(hc j cs[j] (by simp[hj])).2
  ·simp only[av,ai,bX (af.1 hd).1]at hv
   obtain⟨_,e,rfl⟩:=hv
   cases e
   exact hr i d hd
  ·have hj:j<cs.length:=by have:=(af.1 hv).1;simpa using this
   simp only[av,bX hj,bn,ar]at hv
   subst hv
   exact(hc j cs[j] (by simp[hj])).1
def Kr{b o:Nat}{cs:List D}(hF:c.F b)(h:rl c w b o cs):eJ c w (.pointer (some ⟨b,o,none⟩)) (.eW cs):=by
 obtain⟨vs,hc,hv⟩:=h
 refine .eW b o cs (fun j=>vs.getD j undef) hF (fun j d hd=>?_) (fun j d hd=>?_)
 ·obtain⟨u,hu,h1,_⟩:=hc.get hd
  simp only[List.getD,hu,aW]
  exact⟨hv j u hu,h1⟩
 ·obtain⟨u,hu,_,h1⟩:=hc.get hd
  simp only[List.getD,hu,aW]
  exact h1
def Di{t:TypeId}{b:Bool}(h:oz P t=some b)(w:World):(isAgg t).run P w = .ok b w:=by
 unfold oz at h
 unfold isAgg
 cases hu:P.underlying t with
 | none=>simp[hu]at h
 | some d=>cases d<;>simp[hu]at h<;>subst h<;>simp[run_underlying hu]
def qz{t:TypeId}{n:Nat}(h:jL P t=some n)(w:World):(sizeOf t).run P w = .ok n w:=by
 simp only[jL,ai]at h
 obtain⟨i,hi,rfl⟩:=h
 simp[sizeOf,typeInfo,hi]
def run_typeInfo{t:TypeId}{i:TypeInfo}(h:P.info? t=some i)(w:World):(typeInfo t).run P w = .ok i w:=by simp[typeInfo,h]
def wC{t:TypeId}{z:List D}(h:pg P t=some z)(w:World):∃ v:Value,(zeroValue t).run P w = .ok v w∧(P.info? t).bind (·.zero)=some v ∧
  ∀ c w,Cells c w v.cells.toList z:=by
 unfold pg at h
 cases hi:P.info? t with
 | none=>simp[hi]at h
 | some i=>
  simp only[hi,Option.bind_some]at h
  cases hz:i.zero with
  | none=>simp[hz]at h
  | some v=>
   simp only[hz]at h
   split at h
   ·rename_i iF
    cases h
    refine⟨v,by simp[zeroValue,run_typeInfo hi,hz],by simp[hz],fun c w=>⟨by simp,fun u hu=>?_,fun i u d hu hd=>?_⟩⟩
    ·exact bZ.1 iF u (by simpa using hu)
    ·simp only[av,hu,bn,ar]at hd
     subst hd
     exact Sq u
   ·cases h
def Jb{t:TypeId}(ha:oz P t=some false){b o:Nat}{cs:List D}(hc:rl c w b o cs){d:D}(hd:cs[0]? = some d) :
  ∃ u,(Instr.loadAt t (.pointer (some ⟨b,o,none⟩))).run P w = .ok u w∧u.oneCell'=true∧eJ c w u d:=by
 obtain⟨vs,im,hv⟩:=hc
 obtain⟨u,hu,h1,h2⟩:=im.get hd
 have:=hv 0 u hu
 exact⟨u,by simp[Instr.loadAt,Instr.sureAddr,loadVar,Di ha];simp at this;simp[this],h1,h2⟩
def Jc{t:TypeId}{n:Nat}(ha:oz P t=some true)(hs:jL P t=some n){b o:Nat}{cs:List D}(hc:rl c w b o cs)(hn:n≤cs.length) :
  ∃ u,(Instr.loadAt t (.pointer (some ⟨b,o,none⟩))).run P w = .ok u w∧eJ c w u (.agg (cs.take n)):=by
 obtain⟨vs,im,hv⟩:=hc.take n
 have hl:vs.length=n:=by rw[im.len];simp;omega
 have:=run_loadCells_list (P:=P) w ⟨b,o,none⟩ vs (fun j v hj=>by rw[Addr.add_lit];exact hv j v hj)
 rw[hl]at this
 exact⟨.agg vs.toArray,by simp[Instr.loadAt,Instr.sureAddr,loadVar,Di ha,qz hs,this],im.agg⟩
def rW{v g:Nat}{x:TypeId×List D}(h:rowAt H v g=some x):H[v]? = some (.row x.1 g x.2):=by
 unfold rowAt at h
 split at h
 ·split at h
  ·rename_i e;subst e;cases h;assumption
  ·cases h
 ·cases h
def aeX(h:e9 G c H w){t:TypeId}(ha:oz P t=some false){x:D}{u:Value}(hr:eJ c w u x)(hk:CB x H K) :
  ∃ v,(Instr.loadAt t u).run P w = .ok v w∧iv G c H w K v w:=by
 unfold CB at hk
 split at hk
 ·rename_i v g o
  split at hk
  ·rename_i t' cs gq
   have hv:=rW gq
   split at hk
   ·rename_i d hd
    obtain⟨b,p,rfl,hc⟩:=GJ h hv hr
    obtain⟨u,hu,_,h2⟩:=Jb ha hc (d:=d) (by simpa using hd)
    exact⟨u,hu,.plain h hk h2⟩
   ·exact hk.elim
  ·exact hk.elim
 ·rename_i cs
  split at hk
  ·rename_i d hd
   obtain⟨b,p,rfl,_,hc⟩:=w9 hr
   obtain⟨u,hu,_,h2⟩:=Jb ha hc hd
   exact⟨u,hu,.plain h hk h2⟩
  ·exact hk.elim
 ·exact hk.elim
def aeY(h:e9 G c H w){t:TypeId}{n:Nat}(ha:oz P t=some true)(hs:jL P t=some n){x:D}{u:Value}(hr:eJ c w u x)(hk:CD n x H K) :
  ∃ v,(Instr.loadAt t u).run P w = .ok v w∧iv G c H w K v w:=by
 unfold CD at hk
 split at hk
 ·rename_i v g o
  split at hk
  ·rename_i t' cs gq
   have hv:=rW gq
   obtain⟨b,p,rfl,hc⟩:=GJ h hv hr
   obtain⟨u,hu,h2⟩:=Jc (n:=n) ha hs hc (by simp;omega)
   exact⟨u,hu,.plain h hk.2 h2⟩
  ·exact hk.elim
 ·rename_i cs
  obtain⟨b,p,rfl,_,hc⟩:=w9 hr
  obtain⟨u,hu,h2⟩:=Jc (n:=n) ha hs hc hk.1
  exact⟨u,hu,.plain h hk.2 h2⟩
 ·exact hk.elim
def ae5(h:e9 G c H w){x y z:D}{u v t:Value}(h1:eJ c w u x)(h2:eJ c w v y)(h3:eJ c w t z)(hk:CZ x y z H K) :
  ∃ b,u = .bool b∧iv G c H w K (if b then v else t) w:=by
 unfold CZ at hk
 split at hk
 ·rename_i b
  cases h1
  refine⟨b,rfl,.plain h hk ?_⟩
  cases b
  ·exact h3
  ·exact h2
 ·exact hk.elim
end
end Go.AL
namespace Go.AL
open Go
section
variable{P:Program}{G:GT}{c:Ctx}{H:U}{w:World}{K:iO}{env:fQ}{a:Act}
def wrap_i64{n:Int}(h:mK n):IntKind.i64.wrap n=n:=by
 unfold mK at h
 simp only[IntKind.wrap,IntKind.signed,IntKind.bits]
 simp
 omega
theorem iv.val(h:e9 G c H w){v:Value}(hK:K (.val v) H):iv G c H w K v w:=.plain h hK (.val _)
def aeF(h:e9 G c H w){op:BinOp}{k:IntKind}{x y:Int}(hk:Bb op k x y H K)(hs:op≠.shl∧op≠.shr)(t:TypeId)(xo yo:Operand) :
  ∃ v,(do eqGuard op t xo yo (.int k x) (.int k y);binOp op t (.int k x) (.int k y)).run P w = .ok v w∧iv G c H w K v w:=by
 have hg:(eqGuard op t xo yo (.int k x) (.int k y)).run P w = .ok () w:=by
  cases op<;>simp[eqGuard]
 simp only[Sem.run_bind,hg,Result.andThen_ok]
 cases op<;>simp only[Bb]at hk
 case add=>
  by_cases e:k = .i64
  ·subst e
   simp only[if_true]at hk
   exact⟨_,by simp[binOp,Op.intArith,wrap_i64 hk.1]<;>rfl,.val h hk.2⟩
  ·rw[if_neg e]at hk
   exact⟨_,by simp[binOp,Op.intArith]<;>rfl,.val h hk⟩
 case sub=>
  by_cases e:k = .i64
  ·subst e
   simp only[if_true]at hk
   exact⟨_,by simp[binOp,Op.intArith,wrap_i64 hk.1]<;>rfl,.val h hk.2⟩
  ·rw[if_neg e]at hk
   exact⟨_,by simp[binOp,Op.intArith]<;>rfl,.val h hk⟩
 case mul=>
  by_cases e:k = .i64
  ·subst e
   simp only[if_true]at hk
   exact⟨_,by simp[binOp,Op.intArith,wrap_i64 hk.1]<;>rfl,.val h hk.2⟩
  ·rw[if_neg e]at hk
   exact⟨_,by simp[binOp,Op.intArith]<;>rfl,.val h hk⟩
 case quo=>exact⟨_,by simp[binOp,Op.intDiv,hk.1]<;>rfl,.val h hk.2⟩
 case rem=>exact⟨_,by simp[binOp,Op.intDiv,hk.1]<;>rfl,.val h hk.2⟩
 case and=>exact⟨_,by simp[binOp,Op.intBits]<;>rfl,.val h (by simpa[bits]using hk)⟩
 case or=>exact⟨_,by simp[binOp,Op.intBits]<;>rfl,.val h (by simpa[bits]using hk)⟩
 case xor=>exact⟨_,by simp[binOp,Op.intBits]<;>rfl,.val h (by simpa[bits]using hk)⟩
 case andNot=>exact⟨_,by simp[binOp,Op.intBits]<;>rfl,.val h (by simpa[bits]using hk)⟩
 case eql=>exact⟨_,by simp[binOp,Op.intCmp]<;>rfl,.val h hk⟩
 case neq=>exact⟨_,by simp[binOp,Op.intCmp]<;>rfl,.val h hk⟩
 case lss=>exact⟨_,by simp[binOp,Op.intCmp]<;>rfl,.val h hk⟩
 case leq=>exact⟨_,by simp[binOp,Op.intCmp]<;>rfl,.val h hk⟩
 case gtr=>exact⟨_,by simp[binOp,Op.intCmp]<;>rfl,.val h hk⟩
 case geq=>exact⟨_,by simp[binOp,Op.intCmp]<;>rfl,.val h hk⟩
 all_goals exact absurd rfl (by first|exact hs.1|exact hs.2)
def Mt(h:e9 G c H w){op:BinOp}{x y:D}{u v:Value}(h1:eJ c w u x)(h2:eJ c w v y)(hk:Bf op x y H K)(t:TypeId)(xo yo:Operand) :
  ∃ r,(do eqGuard op t xo yo u v;binOp op t u v).run P w = .ok r w∧iv G c H w K r w:=by
 unfold Bf at hk
 split at hk
 ·cases h1;cases h2
  split at hk
  ·have key:∀ op,o7 op=true→op = .shl∨op = .shr:=fun op ho=>by cases op<;>simp[o7]at ho<;>simp
   rename_i hs
   rcases key op hs with rfl|rfl
   ·simp only[Dn]at hk
    have hn:=hk.1
    exact⟨_,by simp[eqGuard,binOp,Op.shift,eB.2 hn]<;>rfl,.val h hk.2⟩
   ·simp only[Dn]at hk
    have hn:=hk.1
    exact⟨_,by simp[eqGuard,binOp,Op.shift,eB.2 hn]<;>rfl,.val h hk.2⟩
  ·rename_i hs
   obtain⟨rfl,hk⟩:=hk
   exact aeF h hk ⟨fun e=>by subst e;exact hs rfl,fun e=>by subst e;exact hs rfl⟩ t xo yo
 ·cases h1;cases h2
  rename_i p q
  cases op<;>simp only[Jo]at hk
  case add=>exact⟨.string (p++q),by simp[eqGuard,binOp,run_string_add_sum w p q (by have:=hk.1;omega)],.val h hk.2⟩
  case eql=>exact⟨_,by simp[eqGuard,binOp,Op.stringOp,ByteArray.toList_eq]<;>rfl,.val h (by simpa using hk)⟩
  case neq=>exact⟨_,by simp[eqGuard,binOp,Op.stringOp,ByteArray.toList_eq]<;>rfl,.val h (by simpa using hk)⟩
 ·exact hk.elim
def afb(h:e9 G c H w){op:UnOp}{x:D}{u:Value}(h1:eJ c w u x)(hk:DE op x H K) :
  ∃ r,(Op.unary op u).run P w = .ok r w∧iv G c H w K r w:=by
 unfold DE at hk
 split at hk
 ·cases h1;exact⟨_,by simp[Op.unary]<;>rfl,.val h hk⟩
 ·cases h1
  rename_i n
  have:(0-n) = -n:=by omega
  exact⟨_,by simp[Op.unary,Op.intArith,wrap_i64 hk.1]<;>rfl,.val h hk.2⟩
 ·cases h1;exact⟨_,by simp[Op.unary,Op.intBits]<;>rfl,.val h (by simpa[bits]using hk)⟩
 ·exact hk.elim
def za{d:D}{v:Value}{cs:List D}(hr:eJ c w v d)(hc:cellsOf d=some cs):Cells c w v.cells.toList cs:=by
 have key:∀ {v:Value} {d:D},eJ c w v d→v.oneCell'=true→v.cells = #[v]→Cells c w v.cells.toList [d]:=fun{v d} hr h1 hv=>by
  rw[hv]
  exact⟨rfl,by simpa using h1,fun i u e hu he=>by
   cases i with
   | zero=>simp at hu he;subst hu;subst he;exact hr
   | succ i=>simp at hu⟩
 cases hr with
 | any v=>simp[cellsOf]at hc
 | val v=>
  simp only[cellsOf]at hc
  split at hc
  ·rename_i h1
   cases hc
   refine key (.val v) h1 ?_
   cases v<;>first|rfl|(simp[Value.oneCell']at h1)
  ·cases hc
 | agg vs ds hl h1 h=>
  simp only[cellsOf,ar]at hc
  subst hc
  exact⟨by simpa[Value.cells]using hl,by simpa[Value.cells]using h1,fun i v d hv hd=>h i v d (by simpa[Value.cells]using hv) hd⟩
 | tup=>simp[cellsOf]at hc
 | sl a len cap sz es g h1 h2 h3 h4 h5 h6 h7=>simp only[cellsOf,ar]at hc;subst hc;exact key (.sl a len cap sz es g h1 h2 h3 h4 h5 h6 h7) rfl rfl
 | eG=>simp only[cellsOf,ar]at hc;subst hc;exact key .eG rfl rfl
 | eF v k sz off len cap L h1 h2 h3 h4 h5=>simp only[cellsOf,ar]at hc;subst hc;exact key (.eF v k sz off len cap L h1 h2 h3 h4 h5) rfl rfl
 | mm v k sz off L h1 a=>simp only[cellsOf,ar]at hc;subst hc;exact key (.mm v k sz off L h1 a) rfl rfl
 | ptr v k off L h1 h2=>simp only[cellsOf,ar]at hc;subst hc;exact key (.ptr v k off L h1 h2) rfl rfl
 | eW b o cs g h1 h2 h3=>simp only[cellsOf,ar]at hc;subst hc;exact key (.eW b o cs g h1 h2 h3) rfl rfl
 | fE v L h1 h2=>simp only[cellsOf,ar]at hc;subst hc;exact key (.fE v L h1 h2) rfl rfl
 | fn f fs cs df dc h1 h2 h3 h4=>simp only[cellsOf,ar]at hc;subst hc;exact key (.fn f fs cs df dc h1 h2 h3 h4) rfl rfl
 | ic v L h1 h2=>simp only[cellsOf,ar]at hc;subst hc;exact key (.ic v L h1 h2) rfl rfl
def afc{d:D}(h:one d=true):cellsOf d=some [d]:=by
 cases d<;>first|rfl|(simp[one]at h;done)|skip
 rename_i v
 simp only[one]at h
 simp[cellsOf,h]
def afo{L:Loc}(hv:L.iM=false)(h0:L.base=0)(v g:Nat):eJ (c.set v g L) w (.pointer (some ⟨L.b,0,none⟩)) (.ptr v g 0):=by
 have:=eJ.ptr (c:=c.set v g L) (w:=w) v g 0 L (Ctx.rh _ _ _ _) hv
 simpa[h0]using this
def RY(h:e9 G c H w){al:Al}(gg:ma H al)(t:TypeId){v:Value}{cs:List D}(hc:Cells c w v.cells.toList cs)(hk:K (.ptr al.1 0 0) (al.2 (.row t 0 cs))) :
  ∃ w',(newVar t v).run P w = .ok ⟨w.heap.size,0,none⟩ w'∧iv G c H w K (.pointer (some ⟨w.heap.size,0,none⟩)) w':=by
 obtain⟨L,h1,h2,h3,h4,h5,h6⟩:=CS h w (jq.refl w) t v.cells.toList cs v.cells.size v.cells (gg _).rX hc (by rw[← cM,dv]) (Nat.le_refl _)
 refine⟨w.alloc (.cells v.cells t),by simp[newVar,newRow],?_⟩
 have hp:=afo (c:=c) (w:=w.alloc (.cells v.cells t)) h1 h3 al.1 0
 rw[h2]at hp
 exact⟨_,_,_,hk,h5,hp,h6⟩
def aeH(h:e9 G c H w){al:Al}(gg:ma H al)(t:TypeId){x:D}{u:Value}(h1:eJ c w u x)(hk:Bh t x al K) :
  ∃ r w',(Instr.box t u).run P w = .ok r w'∧iv G c H w K r w':=by
 unfold Bh at hk
 split at hk
 ·rename_i cs im
  obtain⟨w',hr,hp⟩:=RY (P:=P) h gg t (za h1 im) hk
  exact⟨_,w',by simp[Instr.box,hr],hp⟩
 ·exact hk.elim
def aeC(h:e9 G c H w){al:Al}(gg:ma H al){t:TypeId}{z:List D}(hz:pg P t=some z)(hk:K (.ptr al.1 0 0) (al.2 (.row t 0 z))) :
  ∃ r w',(Instr.alloc t true (.tuple #[])).run P w = .ok r w'∧iv G c H w K r w':=by
 obtain⟨v,hv,_,hc⟩:=wC hz w
 obtain⟨w',hr,hp⟩:=RY (P:=P) h gg t (hc c w) hk
 exact⟨_,w',by simp[Instr.alloc,hv,hr],hp⟩
def Cells.p7{vs us:List Value}{cs ds:List D}(h:Cells c w vs cs)(k:Cells c w us ds)(o:Nat):Cells c w (vs.take o++us++vs.drop (o+us.length)) (cs.take o++ds++cs.drop (o+ds.length)):=by
 rw[k.len]
 exact((h.take o).append k).append (h.drop _)
def Wb(l:List Value):∀ (off:Nat) (cs:Array Value),off+l.length≤cs.size →
  ((l.zipIdx off).foldl (fun(cs:Array Value) (x:Value×Nat)=>cs.setIfInBounds x.2 x.1) cs).toList=cs.toList.take off++l++cs.toList.drop (off+l.length):=by
 induction l with
 | nil=>intro off cs _;simp
 | cons v r ih=>
  intro off cs h
  simp only[aI]at h
  simp only[List.zipIdx_cons,cz]
  rw[ih (off+1) _ (by simp;omega)]
  simp only[Array.toList_setIfInBounds]
  have:=list_seg_step cs.toList off v r (by simp;omega)
  simpa[a7,cK 1]using this
def V4(cs:Array Value)(l:Array Value)(off:Nat)(h:off+l.size≤cs.size) :
  (l.zipIdx.foldl (fun(cs:Array Value) (x:Value×Nat)=>match x with|(c,j)=>cs.setIfInBounds (off+j) c) cs).toList=cs.toList.take off++l.toList++cs.toList.drop (off+l.size):=by
 have:=Wb l.toList off cs (by simpa using h)
 rw[← Array.foldl_toList,Array.toList_zipIdx]
 have e:(l.toList.zipIdx off)=(l.toList.zipIdx 0).map fun x=>(x.1,off+x.2):=by
  rw[List.zipIdx_eq_map_add]
  first|done|(simp only[cK])
 rw[e,List.foldl_map]at this
 exact this
theorem Hg(place:Nat→Option (Nat×Nat)):∀ (vs:List (Nat×Value)) (ps:List (Nat×Nat×List D)) (arr:Array Value) (cs rs:List D),
  Cells c w arr.toList cs→vs.length=ps.length →
  (∀ (i:Nat) (v:Nat×Value) (p:Nat×Nat×List D),vs[i]? = some v→ps[i]? = some p→place v.1=some (p.1,p.2.1)∧Cells c w v.2.cells.toList p.2.2) →
  lay ps cs=some rs→∃ nH,Instr.fill place arr vs=some nH∧Cells c w nH.toList rs
 | [],[],arr,cs,rs,hc,_,_,hl=>by simp[lay]at hl;subst hl;exact⟨arr,rfl,hc⟩
 | (i,v)::vs,(o,n,xs)::ps,arr,cs,rs,hc,hlen,h,hl=>by
  obtain⟨hp,hx⟩:=h 0 (i,v) (o,n,xs) rfl rfl
  simp only[lay]at hl
  split at hl
  ·rename_i iG
   have gH:v.cells.size=n:=by rw[← iG.1,← hx.len];simp
   have lV:o+v.cells.size≤arr.size:=by rw[gH];have:=hc.len;simp at this;omega
   simp only[Instr.fill,hp]
   rw[if_neg (by simp;omega)]
   have rP:=V4 arr v.cells o lV
   refine Hg place vs ps _ _ rs ?_ (by simpa using hlen) (fun i v p hv hp=>h (i+1) v p (by simpa using hv) (by simpa using hp)) hl
   rw[rP]
   have:=hc.p7 hx o
   rw[iG.1]at this
   simpa[gH]using this
  ·cases hl
theorem GC(h:e9 G c H w)(he:jW c w env a):∀ (l:List (Nat×Operand)) {ps:List (Nat×X)},vC G l=some ps →
  ps.length=l.length∧∀ (i:Nat) (x:Nat×Operand) (p:Nat×X),l[i]? = some x→ps[i]? = some p→p.1=x.1∧eJ c w (a.eval x.2) (ev env p.2)
 | [],ps,hx=>by cases hx;simp
 | (i,x)::r,ps,hx=>by
  simp only[vC]at hx
  split at hx
  ·rename_i X l hX hl
   cases hx
   obtain⟨pX,qU⟩:=GC h he r hl
   refine⟨by simp[pX],fun j y p hy hp=>?_⟩
   cases j with
   | zero=>simp at hy hp;subst hy;subst hp;exact⟨rfl,gX h he hX⟩
   | succ j=>simp at hy hp;exact qU j y p hy hp
  ·cases hx
theorem Sd{fs:Array Field}:∀ {ps:List (Nat×X)} {qs:List (Nat×Nat×X)},C0 P fs ps=some qs →
  qs.length=ps.length∧∀ (i:Nat) (p:Nat×X) (q:Nat×Nat×X),ps[i]? = some p→qs[i]? = some q→q.2.2=p.2∧∃ f,fs[p.1]? = some f∧q.1=f.offset∧jL P f.type=some q.2.1
 | [],qs,h=>by cases h;simp
 | (i,x)::r,qs,h=>by
  simp only[C0]at h
  split at h
  ·rename_i f l hf hl
   simp only[ai]at h
   obtain⟨n,hn,rfl⟩:=h
   obtain⟨pX,qU⟩:=Sd hl
   refine⟨by simp[pX],fun j p q hp hq=>?_⟩
   cases j with
   | zero=>simp at hp hq;subst hp;subst hq;exact⟨rfl,f,hf,rfl,hn⟩
   | succ j=>simp at hp hq;exact qU j p q hp hq
  ·cases h
def My{l:List (Nat×Nat×X)}{r:List (Nat×Nat×List D)}(h:partsOf env l=some r) :
  r.length=l.length∧∀ (i:Nat) (p:Nat×Nat×X) (q:Nat×Nat×List D),l[i]? = some p→r[i]? = some q→q.1=p.1∧q.2.1=p.2.1∧cellsOf (ev env p.2.2)=some q.2.2:=by
 induction l generalizing r with
 | nil=>simp[partsOf]at h;subst h;simp
 | cons p l ih=>
  obtain⟨o,n,x⟩:=p
  simp only[partsOf]at h
  split at h
  ·rename_i cs l' im hl
   cases h
   obtain⟨pX,qU⟩:=ih hl
   refine⟨by simp[pX],fun j p q hp hq=>?_⟩
   cases j with
   | zero=>simp at hp hq;subst hp;subst hq;exact⟨rfl,rfl,im⟩
   | succ j=>simp at hp hq;exact qU j p q hp hq
  ·cases h
def Hr{α:Type}{l:List α}{n i:Nat}(hl:l.length=n)(hi:i<n):∃ x,l[i]? = some x:=⟨l[i],by simp[hl▸hi]⟩
def aeI(h:e9 G c H w)(he:jW c w env a){t:TypeId}{z:List D}{ops:Array (Nat×Operand)}{ps:List (Nat×X)}{qs:List (Nat×Nat×X)}{fs:Array Field}
  (hz:pg P t=some z) (hp:vC G ops.toList=some ps) (hu:P.underlying t=some (.struct fs)) (hf:Pb P fs=true) (hq:C0 P fs ps=some qs)
  (hk:wZ env z qs H K):∃ r,(Instr.build t (ops.map fun(i,x)=>(i,a.eval x))).run P w = .ok r w∧iv G c H w K r w:=by
 unfold wZ at hk
 split at hk
 ·rename_i l hl
  split at hk
  ·rename_i cs im
   obtain⟨v,hv,_,hc⟩:=wC hz w
   obtain⟨p1,p2⟩:=GC h he ops.toList hp
   obtain⟨q1,q2⟩:=Sd hq
   obtain⟨r1,r2⟩:=My hl
   have Yl:∃ places:Array (Nat×Nat),(fs.mapM fun f=>do pure (f.offset,← sizeOf f.type):Sem (Array (Nat×Nat))).run P w = .ok places w∧∀ (i:Nat) (f:Field) (n:Nat),fs[i]? = some f→jL P f.type=some n→places[i]? = some (f.offset,n):=by
    have key:∀ (l:List Field),(∀ f∈l,(jL P f.type).isSome=true)→∃ pl:List (Nat×Nat),(l.mapM fun f=>do pure (f.offset,← sizeOf f.type):Sem (List (Nat×Nat))).run P w = .ok pl w∧∀ (i:Nat) (f:Field) (n:Nat),l[i]? = some f→jL P f.type=some n→pl[i]? = some (f.offset,n):=by
     intro l
     induction l with
     | nil=>intro _;exact⟨[],by simp,by simp⟩
     | cons f l ih=>
      intro iF
      obtain⟨pl,gK,hJ⟩:=ih (fun g hg=>iF g (by simp[hg]))
      obtain⟨n,hn⟩:=da.1 (iF f (by simp))
      refine⟨(f.offset,n)::pl,?_,fun i g m hg hm=>?_⟩
      ·simp only[dE,Sem.run_bind,qz hn,Result.andThen_ok,Sem.run_pure,gK]
      ·cases i with
       | zero=>simp at hg;subst hg;rw[hn]at hm;cases hm;rfl
       | succ i=>simp at hg ⊢;exact hJ i g m hg hm
    obtain⟨pl,gK,hJ⟩:=key fs.toList (fun f Xl=>bZ.1 hf f (by simpa using Xl))
    refine⟨pl.toArray,?_,fun i f n hi hn=>by simpa using hJ i f n (by simpa using hi) hn⟩
    rw[dR,Sem.run_map,gK]
    rfl
   obtain⟨places,gK,hJ⟩:=Yl
   obtain⟨nH,vT,oX⟩:=Hg (c:=c) (w:=w) (places[·]?) (ops.toList.map fun x=>(x.1,a.eval x.2)) l v.cells z cs (hc c w) (by simp[r1,q1,p1]) (fun i x q hx Cd=>by
    simp only[av,ai]at hx
    obtain⟨y,hy,rfl⟩:=hx
    have hi:i<ops.toList.length:=(af.1 hy).1
    obtain⟨p,tz⟩:=Hr p1 hi
    obtain⟨s,Qx⟩:=Hr (q1.trans p1) hi
    obtain⟨e1,e2⟩:=p2 i y p hy tz
    obtain⟨e3,f,PW,Xm,PX⟩:=q2 i p s tz Qx
    obtain⟨e4,e5,e6⟩:=r2 i s q Qx Cd
    refine⟨?_,?_⟩
    ·rw[e1]at PW
     have:=hJ _ f _ PW PX
     simp[this,e4,e5,Xm]
    ·rw[e3]at e6
     exact za e2 e6) im
   refine⟨.agg nH,?_,?_⟩
   ·simp only[Instr.build,Sem.run_bind,hv,Result.andThen_ok,run_underlying hu,gK]
    have:(Array.map (fun x=>(x.fst,a.eval x.snd)) ops).toList=ops.toList.map fun x=>(x.1,a.eval x.2):=by simp
    simp only[this,vT]
    rfl
   ·have:=oX.agg
    exact .plain h hk (by simpa using this)
  ·exact hk.elim
 ·exact hk.elim
def aeJ(h:e9 G c H w)(he:jW c w env a){t e:TypeId}{n sz:Nat}{z:List D}{ops:Array (Nat×Operand)}{ps:List (Nat×X)}
  (hz:pg P t=some z) (hp:vC G ops.toList=some ps) (hu:P.underlying t=some (.array n e)) (hs:jL P e=some sz)
  (hk:wZ env z (ps.map fun p=>(p.1*sz,sz,p.2)) H K):∃ r,(Instr.build t (ops.map fun(i,x)=>(i,a.eval x))).run P w = .ok r w∧iv G c H w K r w:=by
 unfold wZ at hk
 split at hk
 ·rename_i l hl
  split at hk
  ·rename_i cs im
   obtain⟨v,hv,_,hc⟩:=wC hz w
   obtain⟨p1,p2⟩:=GC h he ops.toList hp
   obtain⟨r1,r2⟩:=My hl
   obtain⟨nH,vT,oX⟩:=Hg (c:=c) (w:=w) (fun i=>some (i*sz,sz)) (ops.toList.map fun x=>(x.1,a.eval x.2)) l v.cells z cs (hc c w) (by simp[r1,p1]) (fun i x q hx Cd=>by
    simp only[av,ai]at hx
    obtain⟨y,hy,rfl⟩:=hx
    have hi:i<ops.toList.length:=(af.1 hy).1
    obtain⟨p,tz⟩:=Hr p1 hi
    obtain⟨e1,e2⟩:=p2 i y p hy tz
    obtain⟨e4,e5,e6⟩:=r2 i (p.1*sz,sz,p.2) q (by simp[tz]) Cd
    exact⟨by simp[e4,e5,e1],za e2 e6⟩) im
   refine⟨.agg nH,?_,?_⟩
   ·simp only[Instr.build,Sem.run_bind,hv,Result.andThen_ok,run_underlying hu,qz hs]
    have:(Array.map (fun x=>(x.fst,a.eval x.snd)) ops).toList=ops.toList.map fun x=>(x.1,a.eval x.2):=by simp
    simp only[this,vT]
    rfl
   ·have:=oX.agg
    exact .plain h hk (by simpa using this)
  ·exact hk.elim
 ·exact hk.elim
end
end Go.AL
namespace Go.AL
open Go
section
variable{P:Program}{G:GT}{c:Ctx}{H:U}{w:World}{K:iO}{env:fQ}{a:Act}
def IP{L:Loc}(hv:L.iM=false)(h0:L.base=0)(v k sz len cap:Nat)(ht:L.top=cap*sz)(hc:len≤cap)(hm:cap≤maxLen) :
  eJ (c.set v k L) w (.slice (some ⟨L.b,0,none⟩) len cap) (.eF v k sz 0 len):=by
 have:=eJ.eF (c:=c.set v k L) (w:=w) v k sz 0 len cap L (Ctx.rh _ _ _ _) hv hc hm (by simp[h0,ht])
 simpa[h0]using this
def Hl(zs:List Value)(z:List D)(hz:∀ c w,Cells c w zs z)(n:Nat):Cells c w (List.replicate n zs).flatten (List.replicate n z).flatten:=by
 induction n with
 | zero=>exact Cells.nil
 | succ n ih=>rw[bK,bK,aL,aL];exact(hz c w).append ih
def IV(zs:Array Value)(n:Nat)(h0:0<zs.size:=by omega):((Array.range (n*zs.size)).map (fun i=>zs[i % zs.size]!)).toList=(List.replicate n zs.toList).flatten:=by
 apply bP
 intro i
 simp only[Array.toList_map,Array.toList_range,av]
 by_cases hi:i<n*zs.size
 ·rw[bX hi]
  have key:∀ (n i:Nat),i<n*zs.size→(List.replicate n zs.toList).flatten[i]? = some (zs[i % zs.size]!):=by
   intro n
   induction n with
   | zero=>intro i hi;simp at hi
   | succ n ih=>
    intro i hi
    rw[bK,aL]
    by_cases hl:i<zs.size
    ·rw[ag (by simpa using hl),dT hl]
     simp[hl]
    ·rw[ak (by simpa using hl)]
     have:i-zs.size<n*zs.size:=by rw[bg]at hi;omega
     rw[show i-zs.toList.length=i-zs.size by simp,ih _ this,← Nat.mod_eq_sub_mod (by omega)]
  rw[key n i hi]
  rfl
 ·rw[aO (by simp;omega)]
  rw[aO (by simp;omega)]
  rfl
def aeK(h:e9 G c H w){al:Al}(gg:ma H al)(he:jW c w env a){t e:TypeId}{sz n:Nat}{z:List D}{ops:Array (Nat×Operand)}{ps:List (Nat×X)}
  (hu:P.underlying t=some (.slice e)) (hz:pg P e=some z) (hs:jL P e=some sz) (hp:vC G ops.toList=some ps) (uU:z.length=sz) (jm:0<sz) (lV:n*sz≤16777216)
  (hk:Bi env e sz z n ps al K):∃ r w',(Instr.buildSlice t n (ops.map fun(i,x)=>(i,a.eval x))).run P w = .ok r w'∧iv G c H w K r w':=by
 unfold Bi at hk
 split at hk
 ·rename_i l hl
  split at hk
  ·rename_i cs im
   obtain⟨zv,uV,_,qT⟩:=wC hz w
   obtain⟨p1,p2⟩:=GC h he ops.toList hp
   obtain⟨r1,r2⟩:=My hl
   have tD:zv.cells.size=sz:=by have:=(qT c w).len;simp at this;omega
   have QB:Cells c w ((Array.range (n*sz)).map (fun i=>zv.cells[i % zv.cells.size]!)).toList (List.replicate n z).flatten:=by
    rw[← tD,IV zv.cells n]
    exact Hl _ _ qT n
   obtain⟨nH,vT,oX⟩:=Hg (c:=c) (w:=w) (fun i=>some (i*sz,sz)) (ops.toList.map fun x=>(x.1,a.eval x.2)) l _ _ cs QB (by simp[r1,p1]) (fun i x q hx Cd=>by
    simp only[av,ai]at hx
    obtain⟨y,hy,rfl⟩:=hx
    have hi:i<ops.toList.length:=(af.1 hy).1
    obtain⟨p,tz⟩:=Hr p1 hi
    obtain⟨e1,e2⟩:=p2 i y p hy tz
    obtain⟨e4,e5,e6⟩:=r2 i (p.1*sz,sz,p.2) q (by simp[tz]) Cd
    exact⟨by simp[e4,e5,e1],za e2 e6⟩) im
   have hlen:nH.size=n*sz:=by
    have h1:=oX.len
    have h2:cs.length=(List.replicate n z).flatten.length:=by
     clear hk oX vT h1 QB
     have key:∀ (ps:List (Nat×Nat×List D)) (cs rs:List D),lay ps cs=some rs→rs.length=cs.length:=by
      intro ps
      induction ps with
      | nil=>intro cs rs h;simp[lay]at h;subst h;rfl
      | cons p ps ih=>
       intro cs rs h
       obtain⟨o,m,xs⟩:=p
       simp only[lay]at h
       split at h
       ·rw[ih _ _ h];simp;omega
       ·cases h
     exact key _ _ _ im
    rw[h2]at h1
    simp[uU]at h1
    exact h1
   obtain⟨L,h1,h2,h3,h4,h5,h6⟩:=CS h w (jq.refl w) e nH.toList cs nH.size nH (gg _).rX oX (by rw[← cM,dv]) (Nat.le_refl _)
   refine⟨.slice (some ⟨w.heap.size,0,none⟩) n n,w.alloc (.cells nH e),?_,?_⟩
   ·have YK:¬ n*sz>2 ^ 24:=by omega
    simp only[Instr.buildSlice,Sem.run_bind,run_underlying hu,Result.andThen_ok,qz hs,Sem.run_ite]
    rw[if_neg YK]
    have Qb:(Array.map (fun x=>(x.fst,a.eval x.snd)) ops).toList=ops.toList.map fun x=>(x.1,a.eval x.2):=by simp
    by_cases h0:n*sz=0
    ·have hn:n=0:=by
      rcases Nat.mul_eq_zero.1 h0 with h|h<;>omega
     subst hn
     simp only[cw]at vT
     simp only[cw,if_true,Sem.run_pure,Result.andThen_ok,Qb]
     have e0:(Array.map (fun x=>(#[]:Array Value)[x % (#[]:Array Value).size]!) (Array.range 0))=Array.map (fun i=>zv.cells[i % zv.cells.size]!) (Array.range 0):=by simp
     rw[e0,vT]
     simp[newRow]
    ·rw[if_neg h0]
     simp only[Sem.run_bind,uV,Result.andThen_ok,Sem.run_pure,Qb,vT]
     simp[newRow]
   ·have hp:=IP (c:=c) (w:=w.alloc (.cells nH e)) h1 h3 al.1 0 sz n n (by rw[h4,hlen]) (Nat.le_refl _) (by
     have:n≤n*sz:=Nat.le_mul_of_pos_right n jm
     unfold maxLen;omega)
    rw[h2]at hp
    exact⟨_,_,_,hk,h5,hp,h6⟩
  ·exact hk.elim
 ·exact hk.elim
def afY{t:TypeId}{n:Nat}(hs:jL P t=some n){v:Value}(hv:v.cells.size=n)(b o:Nat) :
  (Instr.storeAt t (.pointer (some ⟨b,o,none⟩)) v).run P w=(storeCells ⟨b,o,none⟩ v.cells.toList).run P w:=by
 simp[Instr.storeAt,Instr.sureAddr,storeVar,qz hs,hv]
def R3(h:e9 G c H w){v g o:Nat}{t t':TypeId}{cs xs:List D}(hv:H[v]? = some (.row t' g cs)){u x:Value}(hu:eJ c w u (.ptr v g o)){n:Nat}(hs:jL P t=some n)
  (hx:Cells c w x.cells.toList xs) (hn:xs.length=n) (lV:o+n≤cs.length) (hk:K .any (H.set v (.row t' g (cs.take o++xs++cs.drop (o+n))))) :
  ∃ w',(Instr.storeAt t u x).run P w = .ok () w'∧iv G c H w K undef w':=by
 cases hu with
 | ptr _ _ _ L eR gE=>
  obtain⟨arr,h1,h2,h3,h4⟩:=wA h hv eR gE
  have oK:x.cells.size=n:=by have:=hx.len;simp at this;omega
  have eX:=run_storeCells_at P L.b (L.base+o) t' x.cells.toList 0 arr w h1 (by simp;omega) hx.one
  simp only[cc]at eX
  have hw:=DJ h hv eR gE h1 (arr.toList.take (L.base+o)++x.cells.toList++arr.toList.drop (L.base+o+x.cells.toList.length)).toArray
   (by simp;omega) h2 (cs.take o++xs++cs.drop (o+n)) (by simp;omega) (fun i d hd=>by
    have H8:=h4.p7 hx o
    rw[hn]at H8
    obtain⟨y,hy,h5,h6⟩:=H8.get hd
    refine⟨y,?_,h5,h6⟩
    rw[← hy]
    simp only[cT]
    have Y0:x.cells.toList.length=n:=by simpa using oK
    have iR:(List.take (L.base+o) arr.toList).length=L.base+o:=by simp;omega
    have iA:(List.take o (List.take cs.length (List.drop L.base arr.toList))).length=o:=by simp;omega
    by_cases c1:i<o
    ·rw[ag (by simp;omega),ag (by rw[iR];omega),ag (by simp;omega),ag (by rw[iA];omega)]
     simp only[aA,aD]
     rw[if_pos (by omega),if_pos c1,if_pos (by omega)]
    ·by_cases c2:i<o+n
     ·rw[ag (by simp;omega),ak (by rw[iR];omega),ag (by simp;omega),ak (by rw[iA];omega),iR,iA]
      congr 1
      omega
     ·have nO:i<cs.length:=by have:=(af.1 hd).1;simp at this;omega
      rw[ak (by simp;omega),ak (by simp;omega)]
      simp only[aD,aA,ay,iR,iA,Y0]
      rw[if_pos (by omega)]
      congr 1
      omega)
  exact⟨_,by rw[afY hs oK];exact eX,.any,_,c,hk,hw.1,.any _,hw.2⟩
def ae9(h:e9 G c H w){t:TypeId}(hs:jL P t=some 1){p x:D}{u v:Value}(h1:eJ c w u p)(h2:eJ c w v x)(hk:Ds p x H K) :
  ∃ w',(Instr.storeAt t u v).run P w = .ok () w'∧iv G c H w K undef w':=by
 unfold Ds at hk
 split at hk
 ·rename_i v0 g0 o
  split at hk
  ·rename_i t' cs gq
   obtain⟨fq,Lp,hk⟩:=hk
   have hv:=rW gq
   dsimp only at hv
   refine R3 h hv h1 hs (za h2 (afc Lp)) rfl (by omega) ?_
   have e:cs.take o ++ [x]++cs.drop (o+1)=cs.set o x:=by
    rw[cH,if_pos fq]
    simp
   rw[e]
   exact hk
  ·exact hk.elim
 ·exact hk.elim
def afa(h:e9 G c H w){t:TypeId}{n:Nat}(hs:jL P t=some n){p x:D}{u v:Value}(h1:eJ c w u p)(h2:eJ c w v x)(hk:Dt n p x H K) :
  ∃ w',(Instr.storeAt t u v).run P w = .ok () w'∧iv G c H w K undef w':=by
 unfold Dt at hk
 split at hk
 ·rename_i v' g' o xs LL
  split at hk
  ·rename_i t' cs gq
   obtain⟨hn,lV,hk⟩:=hk
   exact R3 h (rW gq) h1 hs (za h2 LL) hn lV hk
  ·exact hk.elim
 ·exact hk.elim
def aeS(h:e9 G c H w){t:TypeId}{f n:Nat}{fs:Array Field}{fd:Field}(hu:P.underlying t=some (.struct fs))(hf:fs[f]? = some fd)(hs:jL P fd.type=some n)(hn:0<n)
  {x:D} {u:Value} (h1:eJ c w u x) (hk:BG fd.offset x H K):∃ r,(Instr.fieldAt t u f).run P w = .ok r w∧iv G c H w K r w:=by
 have ig:∀ b o,(Instr.fieldAt t (.pointer (some ⟨b,o,none⟩)) f).run P w = .ok (.pointer (some ⟨b,o+fd.offset,none⟩)) w:=fun b o=>by
  simp only[Instr.fieldAt,Sem.run_bind,run_underlying hu,Result.andThen_ok,hf]
  simp only[Instr.sureAddr,Sem.run_pure,Result.andThen_ok,fieldPlace,Sem.run_bind,qz hs,Sem.run_ite]
  rw[if_neg (by omega)]
  simp[Addr.add_lit]
 unfold BG at hk
 split at hk
 ·rename_i v g o
  cases h1 with
  | ptr _ _ _ L eR hv=>
   refine⟨_,ig _ _,.plain h hk ?_⟩
   have:=eJ.ptr (c:=c) (w:=w) v g (o+fd.offset) L eR hv
   rwa [← a7]at this
 ·obtain⟨b,p,rfl,hF,hc⟩:=w9 h1
  exact⟨_,ig _ _,.plain h hk (Kr hF (hc.drop _))⟩
 ·exact hk.elim
def R2(h:e9 G c H w){t:TypeId}{n:Nat}{b:Bool}(ha:oz P t=some b)(hs:jL P t=some n){vs:List Value}{cs:List D}(hc:Cells c w vs cs){off:Nat}
  (hk:xl off n b (.agg cs) H K):∃ r,(part t vs.toArray off).run P w = .ok r w∧iv G c H w K r w:=by
 simp only[xl]at hk
 cases b with
 | true=>
  simp only[if_true]at hk
  refine⟨.agg ((vs.drop off).take n).toArray,?_,.plain h hk.2 ((hc.drop off).take n).agg⟩
  simp[part,Di ha,qz hs,List.extract_toArray,List.take_drop]
 | false=>
  simp only[bG,if_false]at hk
  split at hk
  ·rename_i d hd
   obtain⟨v,hv,_,hr⟩:=hc.get hd
   refine⟨v,?_,.plain h hk hr⟩
   simp[part,Di ha,hv]
  ·exact hk.elim
def aeR(h:e9 G c H w){t:TypeId}{f n:Nat}{b:Bool}{fs:Array Field}{fd:Field}(hu:P.underlying t=some (.struct fs))(hf:fs[f]? = some fd)(ha:oz P fd.type=some b)(hs:jL P fd.type=some n)
  {x:D} {u:Value} (h1:eJ c w u x) (hk:xl fd.offset n b x H K):∃ r,(Instr.field t u f).run P w = .ok r w∧iv G c H w K r w:=by
 have hx:∃ cs,x = .agg cs:=by cases x<;>first|exact⟨_,rfl⟩|exact(show False from hk).elim
 obtain⟨cs,rfl⟩:=hx
 cases h1 with
 | agg vs _ hl h1 h2=>
  obtain⟨r,hr,hp⟩:=R2 h ha hs ⟨hl,h1,h2⟩ hk
  exact⟨r,by simp[Instr.field,run_underlying hu,hf,asAgg,hr],hp⟩
def aeU(h:e9 G c H w){t e:TypeId}{sz:Nat}(hu:P.underlying t=some (.slice e))(hs:jL P e=some sz)(jm:0<sz){x i:D}{u v:Value}(h1:eJ c w u x)(h2:eJ c w v i)(hk:Cs sz x i H K) :
  ∃ r,(Instr.indexAt t u v).run P w = .ok r w∧iv G c H w K r w:=by
 have ig:∀ (ad:Addr) (len cap:Nat) (k:IntKind) (n:Int),0≤n∧n<len→(Instr.indexAt t (.slice (some ad) len cap) (.int k n)).run P w = .ok (.pointer (some (ad.add (n.toNat*sz)))) w:=fun ad len cap k n hn=>by
  simp only[Instr.indexAt,Sem.run_bind,asIntOf,Sem.run_pure,Result.andThen_ok,run_underlying hu,qz hs,Sem.run_ite]
  rw[if_pos hn]
 unfold Cs at hk
 split at hk
 ·rename_i fV es k n
  obtain⟨rfl,hn,hk⟩:=hk
  cases h2
  cases h1 with
  | sl ad len cap _ _ g hlen js jO gH oo hc hr=>
   have hi:n.toNat<es.length:=by omega
   cases ad with
   | none=>have:=oo rfl;omega
   | some ad=>
    refine⟨_,ig ad len cap k n ⟨hn.1,by omega⟩,.plain h hk ?_⟩
    have hJ:es[n.toNat]? = some es[n.toNat]:=by simp[hi]
    have Xt:es.getD n.toNat []=es[n.toNat]:=by simp[hi]
    rw[Xt]
    have hl:es[n.toNat].length=fV:=gH _ (bJ hi)
    obtain⟨d0,jV⟩:∃ d0,es[n.toNat][0]? = some d0:=⟨es[n.toNat][0]'(by omega),by simp⟩
    obtain⟨b,o,e,hF,_,_⟩:=hc n.toNat _ 0 d0 hJ jV
    cases e
    rw[Addr.add_lit]
    refine .eW b (o+n.toNat*fV) _ (g n.toNat) hF (fun j d hd=>?_) (fun j d hd=>hr _ _ j d hJ hd)
    obtain⟨b',o',e,_,h3,h4⟩:=hc n.toNat _ j d hJ hd
    cases e
    exact⟨by rw[a7];exact h3,h4⟩
 ·rename_i v0 g0 fV off len k n
  obtain⟨rfl,hn,hk⟩:=hk
  cases h2
  cases h1 with
  | eF _ _ _ _ _ cap L eR hv js jO lY=>
   refine⟨_,ig _ len cap k n hn,.plain h hk ?_⟩
   rw[Addr.add_lit,a7,← bg]
   exact .ptr _ _ _ L eR hv
  | mm=>omega
 ·exact hk.elim
