/- Part 1 of TableHurry. -/
import Derived.RangeFuncIn
import Derived.TacticsIn
import Derived.OrdersIn
import Derived.Laws.CopyRow
import Derived.Laws.AppendOwn
import Derived.Laws.OwnMore
import Derived.Laws.Concat
import Derived.Laws.Strings
import Derived.Laws.Slices
import Derived.Laws.StructEq
import Derived.Laws.BytesString
set_option linter.all false
namespace Go.AL
open Go
def ae:=@Option.bind_eq_some_iff
def af:=@List.getElem?_eq_some_iff
def ag:=@List.getElem?_append_left
def ah:=@Bool.and_eq_true
def ai:=@Option.map_eq_some_iff
def aj:=@List.getElem?_append_right
def ak:=@List.map_congr_left
def ao:=@List.all_eq_true
def aq:=@Option.some.injEq
def ar:=@List.getElem?_map
def au:=@Option.bind_eq_bind
def av:=@List.append_nil
def aw:=@List.mem_map
def ax:=@List.mem_cons
def ay:=@List.getElem?_take
def az:=@List.length_append
def aA:=@List.length_eq_zero_iff
def aB:=@List.length_pos_iff
def aC:=@List.getElem?_drop
def aD:=@List.mem_iff_getElem?
def aF:=@Option.pure_def
def aG:=@List.take_of_length_le
def aH:=@Nat.lt_of_lt_of_le
def aI:=@Array.getElem?_eq_some_iff
def aJ:=@List.length_cons
def aK:=@List.getElem?_eq_none
def aL:=@List.flatten_cons
def aM:=@List.mem_flatten
def aN:=@List.mem_of_mem_take
def aO:=@List.mem_cons_of_mem
def aP:=@List.length_take
def aQ:=@List.map_id
def aR:=@Option.getD_some
def aS:=@List.mem_append_left
def aT:=@List.mem_filter
def aU:=@List.eq_nil_of_length_eq_zero
def aV:=@Nat.add_mul
def aW:=@Nat.lt_or_ge
def aX:=@Nat.zero_add
def aY:=@List.mem_of_getElem?
def aZ:=@List.drop_of_length_le
def a7:=@List.pairwise_cons
def a8:=@Option.map_some
def bf:=@Nat.add_assoc
def bg:=@List.append_assoc
def bh:=@Nat.mul_le_mul_right
def bj:=@List.pairwise_iff_getElem
def bk:=@List.length_drop
def bn:=@List.mem_flatMap
def bp:=@List.flatMap_append
def bq:=@Array.getElem?_toList
def br:=@List.mem_append_right
def bt:=@Array.getElem?_setIfInBounds_ne
def bw:=@Bool.false_eq_true
def bx:=@Array.toArray_toList
def bz:=@List.getElem_mem
def bA:=@List.take_append_of_le_length
def bB:=@List.replicate_succ
def bC:=@Array.getElem?_modify
def bE:=@Array.getD_eq_getD_getElem?
def bF:=@List.pairwise_append
def bG:=@List.mem_range
def bH:=@List.getElem?_set
def bI:=@List.ext_getElem?
def bJ:=@List.nil_append
def bK:=@List.take_append_drop
def bL:=@Classical.choose_spec
def bM:=@Nat.succ_mul
def bN:=@List.mem_of_mem_drop
def bO:=@List.getElem?_range
def bP:=@Array.getElem?_append_left
def bQ:=@Array.all_eq_true_iff_forall_mem
def bR:=@List.mem_filterMap
def bS:=@Int.emod_lt_of_pos
def bT:=@Array.getElem?_eq_getElem
def bU:=@List.drop_eq_getElem_cons
def bV:=@List.length_set
def bW:=@Bool.or_eq_true
def bX:=@Nat.pow_le_pow_right
def bY:=@Int.emod_nonneg
def bZ:=@Int.add_assoc
def b7:=@Int.toNat_of_nonneg
def b8:=@List.countP_cons
def b9:=@Nat.zero_mul
def cc:=@Nat.add_zero
def cd:=@List.countP_append
def cg:=@List.foldl_cons
def cj:=@Array.size_append
def cm:=@List.nodup_append
def cp:=@List.set_eq_take_append_cons_drop
def cr:=@List.isEmpty_iff
def ct:=@List.range'_succ
def cu:=@List.cons_append
def cv:=@Array.length_toList
def cw:=@List.length_nil
def cy:=@List.eq_nil_iff_forall_not_mem
def cz:=@List.cons.injEq
def cA:=@Nat.eq_of_beq_eq_true
def cB:=@List.getElem?_toArray
def cD:=@List.map_map
def cE:=@List.contains_iff_mem
def cF:=@List.countP_le_length
def cG:=@List.not_mem_nil
def cH:=@List.flatten_nil
def cI:=@Array.toList_append
def cJ:=@Option.some.inj
def cK:=@Option.isSome_iff_exists
def cL:=@List.mem_cons_self
def cM:=@List.Sublist.append_left
def cN:=@Nat.mul_comm
def cO:=@Int.add_sub_cancel
def cP:=@List.length_filterMap_le
def cQ:=@Int.le_trans
def cS:=@List.drop_drop
def cT:=@List.take_take
def cU:=@Iff.rfl
def cV:=@List.getElem?_replicate
def cW:=@List.size_toArray
def cY:=@List.findIdx?_eq_some_iff_getElem
def cZ:=@Array.getElem?_eq_none
def c6:=@List.sublist_cons_self
def c7:=@List.filter_eq_nil_iff
def c8:=@List.drop_eq_nil_of_le
def c9:=@List.append_eq_nil_iff
def da:=@Int.le_refl
def db:=@List.take_length
def de:=@Array.mem_filter
def dg:=@Ne.symm
def dh:=@Nat.le_of_ble_eq_true
def di:=@Nat.add_comm
def dj:=@List.range_eq_range'
def dm:=@Nat.pow_succ
def dp:=@List.drop_append_of_le_length
def dq:=@Nat.mul_le_mul_left
def dt:=@List.mapM_cons
def du:=@List.take_zero
def dv:=@Nat.eq_zero_or_pos
def dw:=@Bool.false_or
def dx:=@Prod.mk.injEq
def dy:=@List.exists_cons_of_ne_nil
def dz:=@Function.comp_def
def dA:=@Int.toNat_natCast
def dB:=@Array.mapM_eq_mapM_toList
def dC:=@Array.ext'
def dD:=@List.findIdx?_eq_none_iff
def dE:=@List.mem_take_iff_getElem
def dF:=@Nat.mod_eq_of_lt
def dH:=@Nat.mul_le_mul_right_iff
def dJ:=@List.length_erase_of_mem
def dK:=@Array.toList_inj
def dL:=@List.getElem?_cons_succ
def dM:=@Bool.decide_and
def dO:=@List.append_inj
def dQ:=@List.length_pos_of_mem
def dR:=@Array.getElem?_mapIdx
def dS:=@List.singleton_append
def dT:=@Bool.decide_or
def dV:=@List.drop_zero
def dX:=@List.Pairwise.sublist
def dY:=@List.perm_append_comm
def dZ:=@Int.not_lt
def ea:=@Nat.not_lt
def ec:=@List.map_drop
def ef:=@Nat.mul_assoc
def eo:=@Nat.min_zero
inductive D where
 | any
 | val (v:Value)
 | agg (cs:List D)
 | tup (cs:List D)
 | sl (sz:Nat) (es:List (List D))
 | U
 | eu (v g sz off len:Nat)
 | ptr (v g off:Nat)
 | eG (cs:List D)
 | fC (v:Nat)
 | fn (fn:Fn) (first captured:List D)
 | gy (v:Nat)
 deriving Inhabited
abbrev D.i(n:Int):D:=.val (.int .i64 n)
abbrev D.b(x:Bool):D:=.val (.bool x)
abbrev Env:=List (Nat×D)
def Env.get:Env→Nat→D
 | [],_=>.any
 | (k,d)::r,j=>match Nat.beq k j with
  | true=>d
  | false=>Env.get r j
theorem Env.qj(k:Nat)(d:D)(r:Env)(j:Nat):Env.get ((k,d)::r) j=if k=j then d else Env.get r j:=by
 simp only[Env.get]
 by_cases h:k=j
 ·rw[if_pos h,h,Nat.beq_refl]
 ·have:Nat.beq k j=false:=by
   cases hb:Nat.beq k j with
   | false=>rfl
   | true=>exact absurd (cA hb) h
  rw[if_neg h,this]
structure Loc where
 b:Nat
 base:Nat
 top:Nat
 gP:Bool:=false
structure Ctx where
 ι:Nat→Nat→Option Loc
 F:Nat→Prop
 RT:Nat→Option (Nat×Array Tmp×Code×Code)
inductive ew(c:Ctx)(w:World):Value→D→Prop
 | any (v:Value):ew c w v .any
 | val (v:Value):ew c w v (.val v)
 | agg (vs:List Value) (ds:List D) (hl:vs.length=ds.length) (h1:∀ v∈vs,v.oneCell'=true)
   (h:∀ (i:Nat) (v:Value) (d:D),vs[i]? = some v→ds[i]? = some d→ew c w v d):ew c w (.agg vs.toArray) (.agg ds)
 | tup (vs:List Value) (ds:List D) (hl:vs.length=ds.length)
   (h:∀ (i:Nat) (v:Value) (d:D),vs[i]? = some v→ds[i]? = some d→ew c w v d):ew c w (.tuple vs.toArray) (.tup ds)
 | sl (a:Option Addr) (len cap sz:Nat) (es:List (List D)) (g:Nat→Nat→Value)
   (hlen:es.length=len) (ik:len≤cap) (iJ:cap≤maxLen) (fO:∀ e∈es,e.length=sz)
   (lS:a=none→cap=0)
   (hc:∀ (i:Nat) (e:List D) (j:Nat) (d:D),es[i]? = some e→e[j]? = some d→∃ b o,a=some ⟨b,o,none⟩∧c.F b∧w.cell? ⟨b,o+(i*sz+j),none⟩=some (g i j)∧(g i j).oneCell'=true)
   (hr:∀ (i:Nat) (e:List D) (j:Nat) (d:D),es[i]? = some e→e[j]? = some d→ew c w (g i j) d):ew c w (.slice a len cap) (.sl sz es)
 | U:ew c w (.slice none 0 0) .U
 | eu (v k sz off len cap:Nat) (L:Loc) (eD:c.ι v k=some L) (hv:L.gP=false) (ik:len≤cap) (iJ:cap≤maxLen)
   (jV:L.base+(off+cap)*sz=L.top):ew c w (.slice (some ⟨L.b,L.base+off*sz,none⟩) len cap) (.eu v k sz off len)
 | kl (v k sz off:Nat) (L:Loc) (eD:c.ι v k=some L) (a:Option Addr):ew c w (.slice a 0 0) (.eu v k sz off 0)
 | ptr (v k off:Nat) (L:Loc) (eD:c.ι v k=some L) (hv:L.gP=false):ew c w (.pointer (some ⟨L.b,L.base+off,none⟩)) (.ptr v k off)
 | eG (b o:Nat) (cs:List D) (g:Nat→Value) (hF:c.F b)
   (hc:∀ (j:Nat) (d:D),cs[j]? = some d→w.cell? ⟨b,o+j,none⟩=some (g j)∧(g j).oneCell'=true)
   (hr:∀ (j:Nat) (d:D),cs[j]? = some d→ew c w (g j) d):ew c w (.pointer (some ⟨b,o,none⟩)) (.eG cs)
 | fC (v:Nat) (L:Loc) (eD:c.ι v 0=some L) (hv:L.gP=false):ew c w (.map (some L.b)) (.fC v)
 | fn (fn:Fn) (fs cs:List Value) (df dc:List D) (iP:fs.length=df.length) (il:cs.length=dc.length)
   (h1:∀ (i:Nat) (v:Value) (d:D),fs[i]? = some v→df[i]? = some d→ew c w v d)
   (h2:∀ (i:Nat) (v:Value) (d:D),cs[i]? = some v→dc[i]? = some d→ew c w v d):ew c w (.func fn fs.toArray cs.toArray) (.fn fn df dc)
 | gy (v:Nat) (L:Loc) (eD:c.ι v 0=some L) (hv:L.gP=false):ew c w (.func (.yield L.b) #[] #[]) (.gy v)
inductive KK where
 | int (k:IntKind)
 | str
 | bool
 | ints (l:List IntKind)
 deriving Inhabited,DecidableEq
def Mh:List IntKind→List Value→Bool
 | [],[]=>true
 | k::ks,.int k' _::vs=>k == k'&&Mh ks vs
 | _,_=>false
def KK.has:KK→Value→Bool
 | .int k,.int k' _=>k == k'
 | .str,.string _=>true
 | .bool,.bool _=>true
 | .ints l,.agg cs=>Mh l cs.toList
 | _,_=>false
inductive nV where
 | ready|busy|tG|sw (id:Nat)
 deriving Inhabited,DecidableEq
inductive Ob where
 | row (t:TypeId) (g:Nat) (cs:List D)
 | map (kk:KK) (es:List (Value×D))
 | fE (rf:Nat) (env:Env) (st:nV)
 | nR (s:ByteArray) (pos:Nat)
 | jK (m:D) (since:Nat) (seen:List Nat)
 | jA
 | dead
 | jn
 deriving Inhabited
def Ob.alive:Ob→Bool
 | .dead | .jn=>false
 | _=>true
def Ob.gen:Ob→Nat
 | .row _ g _=>g
 | _=>0
abbrev et:=List Ob
def jg(c:Ctx)(H:et)(v:Nat)(L:Loc):Prop:=∃ o,H[v]? = some o∧o.alive=true∧c.ι v o.gen=some L
def jz(c:Ctx)(H:et)(b:Nat):Prop:=∃ v L,jg c H v L∧L.gP=false∧L.b=b
def xk(c:Ctx)(w:World)(arr:Array MapEntry)(clock:Nat)(es:List (Value×D)):Prop:=
 arr.size=es.length∧(∀ (i:Nat) (e:MapEntry) (x:Value×D),arr[i]? = some e→es[i]? = some x→e.key=x.1∧ew c w e.val x.2∧e.born=i)∧clock=es.length
def nV.is:nV→Loop→Prop
 | .ready,r=>r.state = .ready∧r.pending=none
 | .busy,r=>r.state = .busy
 | .tG,r=>r.state = .done∧r.pending=some .ret
 | .sw id,r=>r.state = .done∧r.pending=some (.exit id)
def fr(c:Ctx)(w:World):Option Loc→Ob→Prop
 | _,.dead=>True
 | L,.jn=>L=none
 | none,_=>False
 | some L,.row t _ cs=>if L.gP then cs = []else
   ∃ arr:Array Value,w.heap[L.b]? = some (.cells arr t (0,0))∧L.top=arr.size∧L.base+cs.length≤L.top ∧
    ∀ (i:Nat) (d:D),cs[i]? = some d→∃ v,arr[L.base+i]? = some v∧v.oneCell'=true∧ew c w v d
 | some L,.map kk es=>L.gP=false∧(∀ x∈es,kk.has x.1=true)∧∃ arr clock,w.heap[L.b]? = some (.map arr clock)∧xk c w arr clock es
 | some L,.fE rf env st=>L.gP=false∧∃ r:Loop,w.heap[L.b]? = some (.loop r)∧(∀ k,ew c w (r.tmps.getD k undef) (env.get k)) ∧
   (∃ N,c.RT rf=some (N,r.params,r.assign,r.body)∧N≤r.tmps.size)∧st.is r
 | some L,.nR s p=>L.gP=false∧L.base=0∧w.heap[L.b]? = some (.stringIter s p)
 | some L,.jK m since seen=>L.gP=false∧L.base=0∧∃ bm:Nat,ew c w (.map (some bm)) m∧w.heap[L.b]? = some (.mapIter (some bm) since seen.toArray since)
 | some L,.jA=>L.gP=true∨w.heap[L.b]? = some (.deferred (some []))
structure HeapOK(c:Ctx)(H:et)(w:World):Prop where
 inj:∀ v v' L L',jg c H v L→jg c H v' L'→L.gP=false→L'.gP=false→L.b=L'.b→v=v'
 lt:∀ b,jz c H b→b<w.heap.size
 nF:∀ b,jz c H b→¬ c.F b
 iD:∀ b,c.F b→b<w.heap.size
 out:∀ v k,H.length≤v→c.ι v k=none
 jD:∀ v o k,H[v]? = some o→(o = .jn∨(o.alive=true∧o.gen<k))→c.ι v k=none
 ob:∀ (v:Nat) (o:Ob),H[v]? = some o→fr c w (c.ι v o.gen) o
structure Step(n:Nat)(c:Ctx)(H:et)(w:World)(c':Ctx)(H':et)(w':World):Prop where
 os:w'.os=w.os∧w.drawn≤w'.drawn
 tape:w'.tape=w.tape
 output:w'.output=w.output
 size:w.heap.size≤w'.heap.size
 RT:c'.RT=c.RT
 Fm:∀ b,c.F b→c'.F b
 Fn:∀ b,c'.F b→c.F b∨w.heap.size≤b∨jz c H b
 kept:∀ b,b<w.heap.size→¬ jz c H b→w'.heap[b]? = w.heap[b]?
 old:∀ v k L,v<n→c.ι v k=some L→c'.ι v k=some L
 own:∀ b,jz c' H' b→w.heap.size≤b∨jz c H b
theorem Step.refl(n:Nat)(c:Ctx)(H:et)(w:World):Step n c H w c H w:=
 ⟨⟨rfl,Nat.le_refl _⟩,rfl,rfl,Nat.le_refl _,rfl,fun _ h=>h,fun _ h=>.inl h,fun _ _ _=>rfl,fun _ _ _ _ h=>h,fun _ h=>.inr h⟩
theorem Step.trans{n m:Nat}{c c1 c2:Ctx}{H H1 H2:et}{w w1 w2:World}(h1:Step n c H w c1 H1 w1)(h2:Step m c1 H1 w1 c2 H2 w2)(hm:n≤m) :
  Step n c H w c2 H2 w2 where
 os:=⟨h2.os.1.trans h1.os.1,Nat.le_trans h1.os.2 h2.os.2⟩
 tape:=h2.tape.trans h1.tape
 output:=h2.output.trans h1.output
 size:=Nat.le_trans h1.size h2.size
 RT:=h2.RT.trans h1.RT
 Fm b h:=h2.Fm b (h1.Fm b h)
 Fn b h:=by
  rcases h2.Fn b h with h|h|h
  ·exact h1.Fn b h
  ·exact .inr (.inl (Nat.le_trans h1.size h))
  ·rcases h1.own b h with h|h
   ·exact .inr (.inl h)
   ·exact .inr (.inr h)
 kept b hb hn:=by
  rw[h2.kept b (aH hb h1.size) (fun ho=>?_),h1.kept b hb hn]
  rcases h1.own b ho with h|h
  ·omega
  ·exact hn h
 old v k L hv h:=h2.old v k L (by omega) (h1.old v k L hv h)
 own b h:=by
  rcases h2.own b h with h|h
  ·exact .inl (Nat.le_trans h1.size h)
  ·exact h1.own b h
theorem Step.weaken{n m:Nat}{c c':Ctx}{H H':et}{w w':World}(h:Step n c H w c' H' w')(hm:m≤n):Step m c H w c' H' w':=
 { h with old:=fun v k L hv=>h.old v k L (by omega) }
theorem xF{w w':World}{a:Addr}(h:w'.heap[a.block]? = w.heap[a.block]?):w'.cell? a=w.cell? a:=by simp[World.cell?,h]
theorem ew.carry{c c':Ctx}{w w':World}(eD:∀ v k L,c.ι v k=some L→c'.ι v k=some L)(hF:∀ b,c.F b→c'.F b)
  (vQ:∀ b o,c.F b→w'.cell? ⟨b,o,none⟩=w.cell? ⟨b,o,none⟩) {v:Value} {d:D} (h:ew c w v d):ew c' w' v d:=by
 induction h with
 | any v=>exact .any _
 | val v=>exact .val _
 | agg vs ds hl h1 h ih=>exact .agg vs _ hl h1 ih
 | tup vs ds hl h ih=>exact .tup vs _ hl ih
 | sl a len cap sz es g hlen ik iJ fO lS hc hr ih=>
  refine .sl a len cap sz _ g hlen ik iJ fO lS ?_ ih
  intro i e j d he hd
  obtain⟨b,o,ha,n5,tZ,h1⟩:=hc i e j d he hd
  exact⟨b,o,ha,hF b n5,by rw[vQ b _ n5];exact tZ,h1⟩
 | U=>exact .U
 | eu v k sz off len cap L h hv ik iJ jV=>exact .eu v k sz off len cap L (eD _ _ _ h) hv ik iJ jV
 | kl v k sz off L h a=>exact .kl v k sz off L (eD _ _ _ h) a
 | ptr v k off L h hv=>exact .ptr v k off L (eD _ _ _ h) hv
 | eG b o cs g n5 hc hr ih=>
  refine .eG b o _ g (hF b n5) ?_ ih
  intro j d hd
  rw[vQ b _ n5]
  exact hc j d hd
 | fC v L h hv=>exact .fC v L (eD _ _ _ h) hv
 | fn f fs cs df dc iP il h1 h2 nq oq=>exact .fn f fs cs _ _ iP il nq oq
 | gy v L h hv=>exact .gy v L (eD _ _ _ h) hv
theorem ew.step{n:Nat}{c c':Ctx}{H H':et}{w w':World}(hH:HeapOK c H w)(hs:Step n c H w c' H' w')(hn:H.length≤n){v:Value}{d:D}(h:ew c w v d) :
  ew c' w' v d:=by
 refine h.carry (fun v k L hL=>hs.old v k L ?_ hL) hs.Fm (fun b o hF=>xF (hs.kept b (hH.iD b hF) (fun ho=>hH.nF b ho hF)))
 rcases aW v H.length with h|h
 ·omega
 ·rw[hH.out v k h]at hL;cases hL
theorem ew.mA{c c':Ctx}{H H':et}{w w':World}(hH:HeapOK c H w)(hs:Step H.length c H w c' H' w'){v:Value}{d:D}(h:ew c w v d):ew c' w' v d:=
 h.step hH hs (Nat.le_refl _)
inductive X where
 | t (k:Nat)
 | c (d:D)
 deriving Inhabited
abbrev fg:=Nat→D
def ev(env:fg):X→D
 | .t k=>env k
 | .c d=>d
def cellsOf:D→Option (List D)
 | .agg cs=>some cs
 | .any | .tup _=>none
 | .val v=>if v.oneCell' then some [.val v]else none
 | d=>some [d]
def one:D→Bool
 | .any | .tup _ | .agg _=>false
 | .val v=>v.oneCell'
 | _=>true
mutual
def closed:D→Bool
 | .any | .val _ | .U=>true
 | .agg cs | .tup cs | .eG cs=>eV cs
 | .sl _ es=>vw es
 | .eu .. | .ptr .. | .fC _ | .gy _=>false
 | .fn _ a b=>eV a&&eV b
def eV:List D→Bool
 | []=>true
 | d::ds=>closed d&&eV ds
def vw:List (List D)→Bool
 | []=>true
 | e::es=>eV e&&vw es
end
def ot:Value→Value→Bool
 | .int k a,.int k' b=>k == k'&&a == b
 | .string a,.string b=>a == b
 | .bool a,.bool b=>a == b
 | .agg a,.agg b=>a.size == b.size&&(a.toList.zip b.toList).all fun(x,y)=>match x,y with
  | .int k a,.int k' b=>k == k'&&a == b
  | _,_=>false
 | _,_=>false
def yO:List D→Option (List Value)
 | []=>some []
 | .val (.int k n)::r=>(yO r).map (.int k n :: ·)
 | _::_=>none
def keyOf:D→Option Value
 | .val (.int k n)=>some (.int k n)
 | .val (.string s)=>some (.string s)
 | .val (.bool b)=>some (.bool b)
 | .agg cs=>(yO cs).map fun l=>.agg l.toArray
 | _=>none
def mz:List (Value×D)→Value→Option D
 | [],_=>none
 | (k,d)::r,j=>if ot j k then some d else mz r j
def kN:List (Value×D)→Value→D→List (Value×D)
 | [],j,x=>[(j,x)]
 | (k,d)::r,j,x=>if ot j k then(j,x)::r else(k,d)::kN r j x
inductive lH where
 | int|bool|str
 deriving Inhabited,DecidableEq
inductive tm where
 | slice|string|map
 deriving Inhabited,DecidableEq
inductive fY where
 | mv (x:X)
 | pick (c a b:X)
 | box (t:TypeId) (x:X)
 | alloc (t:TypeId) (z:List D)
 | build (z:List D) (ps:List (Nat×Nat×X))
 | buildSl (t sz:Nat) (z:List D) (n:Nat) (ps:List (Nat×X))
 | ld1 (x:X)
 | ldN (n:Nat) (x:X)
 | st1 (a x:X)
 | stN (n:Nat) (a x:X)
 | nilck (x:X)
 | arith (op:BinOp) (x y:X)
 | eqS (gN:Bool) (ls:List lH) (neg:Bool) (x y:X)
 | un (op:UnOp) (x:X)
 | conv (k:IntKind) (x:X)
 | b2s (x:X)
 | mkfn (fn:Fn) (first captured:List X)
 | mkmap (kk:KK)
 | mksl (t sz bytes:Nat) (z:List D) (l c:X)
 | slc (sz:Nat) (x:X) (lo hi:Option X)
 | slcS (x:X) (lo hi:Option X)
 | fieldA (off:Nat) (x:X)
 | field (off n:Nat) (gN:Bool) (x:X)
 | idxA (sz:Nat) (x i:X)
 | idxArr (sz n:Nat) (x i:X)
 | idx (sz n:Nat) (gN:Bool) (x i:X)
 | idxStr (x i:X)
 | lookup (kk:KK) (z:D) (ok:Bool) (m k:X)
 | mapUpd (kk:KK) (m k v:X)
 | ext (x:X) (i:Nat)
 | call (f:FuncId) (args:List X)
 | callN (f:FuncId) (args:List X)
 | callv (f:X) (args:List X)
 | app (t sz bytes:Nat) (x y:X)
 | copy (sz:Nat) (x y:X)
 | len (k:tm) (x:X)
 | minmax (isMax:Bool) (xs:List X)
 | nilS (neg:Bool) (x:X)
 | capE (x:X)
 | appZ (t sz bytes:Nat) (z:List D) (x n:X)
 | clr (sz:Nat) (z:List D) (x:X)
 | rangeS (x:X)
 | nextS (x:X)
 | rangeM (x:X)
 | nextM (x:X)
 | entry (x:X)
 deriving Inhabited
structure eX where
 dst:Option Nat
 op:fY
 guard:Option (Nat×Bool):=none
 deriving Inhabited
structure GT where
 g:Nat→Option (List D)
 rt:Nat→Option (Nat×Array Tmp×Code×Code)
 nw:FuncId→Bool:=fun _=>false
instance:CoeFun GT (fun _=>Nat→Option (List D)):=⟨GT.g⟩
inductive gG(c:Ctx)(w:World):List Value→List D→Prop
 | nil:gG c w [] []
 | cons {v d vs ds} (h:ew c w v d) (t:gG c w vs ds):gG c w (v::vs) (d::ds)
structure eP(G:GT)(c:Ctx)(H:et)(w:World):Prop extends HeapOK c H w where
 gl:∀ (g:Nat) (cs:List D),G g=some cs→eV cs=true∧ew c w (.pointer (some ⟨g,0,none⟩)) (.eG cs)
 rt:c.RT=G.rt
abbrev gQ:=D→et→Prop
abbrev Al:=Nat×(Ob→et)
def Al.last(H:et):Al:=(H.length,fun ob=>H ++ [ob])
def Al.jn(H:et)(v:Nat):Al:=(v,fun ob=>H.set v ob)
def kL(n:Int):Prop := -9223372036854775808≤n∧n≤9223372036854775807
def xu(op:BinOp)(k:IntKind)(a b:Int)(H:et)(K:gQ):Prop:=
 match op with
 | .add=>if k = .i64 then kL (a+b)∧K (.val (.int .i64 (a+b))) H else K (.val (.int k (k.wrap (a+b)))) H
 | .sub=>if k = .i64 then kL (a-b)∧K (.val (.int .i64 (a-b))) H else K (.val (.int k (k.wrap (a-b)))) H
 | .mul=>if k = .i64 then kL (a*b)∧K (.val (.int .i64 (a*b))) H else K (.val (.int k (k.wrap (a*b)))) H
 | .quo=>b≠0∧K (.val (.int k (k.wrap (a.tdiv b)))) H
 | .rem=>b≠0∧K (.val (.int k (a.tmod b))) H
 | .and | .or | .xor | .andNot=>K (.val (.int k (bits op k a b))) H
 | .eql=>K (.val (.bool (a == b))) H
 | .neq=>K (.val (.bool (a != b))) H
 | .lss=>K (.val (.bool (decide (a<b)))) H
 | .leq=>K (.val (.bool (decide (a≤b)))) H
 | .gtr=>K (.val (.bool (decide (a>b)))) H
 | .geq=>K (.val (.bool (decide (a≥b)))) H
 | _=>False
def zJ(op:BinOp)(k:IntKind)(a b:Int)(H:et)(K:gQ):Prop:=
 match op with
 | .shl=>0≤b∧K (.val (.int k (k.wrap (a*2 ^ (min b.toNat k.bits))))) H
 | .shr=>0≤b∧K (.val (.int k (a.fdiv (2 ^ (min b.toNat k.bits))))) H
 | _=>False
def mr:BinOp→Bool
 | .shl | .shr=>true
 | _=>false
def EN(op:BinOp)(a b:ByteArray)(H:et)(K:gQ):Prop:=
 match op with
 | .eql=>K (.val (.bool (a.data.toList == b.data.toList))) H
 | .neq=>K (.val (.bool (!(a.data.toList == b.data.toList)))) H
 | .add=>((a.size+b.size:Nat):Int)≤9223372036854775807∧K (.val (.string (a++b))) H
 | _=>False
def xy(op:BinOp)(x y:D)(H:et)(K:gQ):Prop:=
 match x,y with
 | .val (.int k a),.val (.int k' b)=>if mr op then zJ op k a b H K else k=k'∧xu op k a b H K
 | .val (.string a),.val (.string b)=>EN op a b H K
 | _,_=>False
def zX(op:UnOp)(x:D)(H:et)(K:gQ):Prop:=
 match op,x with
 | .not,.val (.bool b)=>K (.val (.bool (!b))) H
 | .neg,.val (.int .i64 n)=>kL (-n)∧K (.val (.int .i64 (-n))) H
 | .xor,.val (.int k n)=>K (.val (.int k (bits .xor k (if k.signed then -1 else k.max) n))) H
 | _,_=>False
def pg:lH→D→D→Option Bool
 | .int,.val (.int k a),.val (.int k' b)=>if k=k' then some (a == b)else none
 | .bool,.val (.bool a),.val (.bool b)=>some (a == b)
 | .str,.val (.string a),.val (.string b)=>some (a.data.toList == b.data.toList)
 | _,_,_=>none
def lu:List lH→List D→List D→Option Bool
 | [],[],[]=>some true
 | l::ls,x::xs,y::ys=>match pg l x y,lu ls xs ys with
  | some a,some b=>some (a&&b)
  | _,_=>none
 | _,_,_=>none
def sy(gN:Bool)(ls:List lH)(neg:Bool)(x y:D)(H:et)(K:gQ):Prop:=
 match gN,x,y with
 | true,.agg a,.agg b=>match lu ls a b with
  | some r=>K (.val (.bool (if neg then !r else r))) H
  | none=>False
 | false,x,y=>match lu ls [x] [y]with
  | some r=>K (.val (.bool (if neg then !r else r))) H
  | none=>False
 | _,_,_=>False
def zh(c a b:D)(H:et)(K:gQ):Prop:=
 match c with
 | .val (.bool x)=>K (if x then a else b) H
 | _=>False
def rowAt(H:et)(v k:Nat):Option (TypeId×List D):=match H[v]? with
 | some (.row t g cs)=>if g=k then some (t,cs)else none
 | _=>none
def yP(x:D)(H:et)(K:gQ):Prop:=
 match x with
 | .ptr v g o=>match rowAt H v g with
  | some (_,cs)=>match cs[o]? with
   | some d=>K d H
   | none=>False
  | none=>False
 | .eG cs=>match cs[0]? with
  | some d=>K d H
  | none=>False
 | _=>False
def yQ(n:Nat)(x:D)(H:et)(K:gQ):Prop:=
 match x with
 | .ptr v g o=>match rowAt H v g with
  | some (_,cs)=>o+n≤cs.length∧K (.agg ((cs.drop o).take n)) H
  | none=>False
 | .eG cs=>n≤cs.length∧K (.agg (cs.take n)) H
 | _=>False
def zM(a x:D)(H:et)(K:gQ):Prop:=
 match a with
 | .ptr v g o=>match rowAt H v g with
  | some (t,cs)=>o<cs.length∧one x=true∧K .any (H.set v (.row t g (cs.set o x)))
  | none=>False
 | _=>False
def zN(n:Nat)(a x:D)(H:et)(K:gQ):Prop:=
 match a,cellsOf x with
 | .ptr v g o,some xs=>match rowAt H v g with
  | some (t,cs)=>xs.length=n∧o+n≤cs.length∧K .any (H.set v (.row t g (cs.take o++xs++cs.drop (o+n))))
  | none=>False
 | _,_=>False
def xA(t:TypeId)(x:D)(al:Al)(K:gQ):Prop:=
 match cellsOf x with
 | some cs=>K (.ptr al.1 0 0) (al.2 (.row t 0 cs))
 | none=>False
def lay:List (Nat×Nat×List D)→List D→Option (List D)
 | [],cs=>some cs
 | (o,n,xs)::r,cs=>if xs.length=n∧o+n≤cs.length then lay r (cs.take o++xs++cs.drop (o+n))else none
def partsOf(env:fg):List (Nat×Nat×X)→Option (List (Nat×Nat×List D))
 | []=>some []
 | (o,n,x)::r=>match cellsOf (ev env x),partsOf env r with
  | some cs,some l=>some ((o,n,cs)::l)
  | _,_=>none
def tw(env:fg)(z:List D)(ps:List (Nat×Nat×X))(H:et)(K:gQ):Prop:=
 match partsOf env ps with
 | some l=>match lay l z with
  | some cs=>K (.agg cs) H
  | none=>False
 | none=>False
def xB(env:fg)(t sz:Nat)(z:List D)(n:Nat)(ps:List (Nat×X))(al:Al)(K:gQ):Prop:=
 match partsOf env (ps.map fun p=>(p.1*sz,sz,p.2))with
 | some l=>match lay l (List.replicate n z).flatten with
  | some cs=>K (.eu al.1 0 sz 0 n) (al.2 (.row t 0 cs))
  | none=>False
 | none=>False
def xV(off:Nat)(x:D)(H:et)(K:gQ):Prop:=
 match x with
 | .ptr v g o=>K (.ptr v g (o+off)) H
 | .eG cs=>K (.eG (cs.drop off)) H
 | _=>False
def tO(off n:Nat)(gN:Bool)(x:D)(H:et)(K:gQ):Prop:=
 match x with
 | .agg cs=>if gN then off+n≤cs.length∧K (.agg ((cs.drop off).take n)) H else match cs[off]? with
  | some d=>K d H
  | none=>False
 | _=>False
def yH(sz:Nat)(x i:D)(H:et)(K:gQ):Prop:=
 match x,i with
 | .sl fm es,.val (.int _ n)=>fm=sz∧(0≤n∧n<es.length)∧K (.eG (es.getD n.toNat [])) H
 | .eu v g fm off len,.val (.int _ n)=>fm=sz∧(0≤n∧n<len)∧K (.ptr v g ((off+n.toNat)*sz)) H
 | _,_=>False
def yI(sz n:Nat)(x i:D)(H:et)(K:gQ):Prop:=
 match x,i with
 | .ptr v g o,.val (.int _ k)=>(0≤k∧k<n)∧K (.ptr v g (o+k.toNat*sz)) H
 | .eG cs,.val (.int _ k)=>(0≤k∧k<n)∧K (.eG (cs.drop (k.toNat*sz))) H
 | _,_=>False
def yK(sz n:Nat)(gN:Bool)(x i:D)(H:et)(K:gQ):Prop:=
 match x,i with
 | .agg cs,.val (.int _ k)=>(0≤k∧k<n)∧tO (k.toNat*sz) sz gN (.agg cs) H K
 | _,_=>False
def yL(x i:D)(H:et)(K:gQ):Prop:=
 match x,i with
 | .val (.string s),.val (.int _ k)=>(0≤k∧k<s.size)∧K (.val (.int .u8 ((s.data.toList.getD k.toNat 0).toNat))) H
 | _,_=>False
def kj(H:et)(v:Nat):Option (KK×List (Value×D)):=match H[v]? with
 | some (.map kk es)=>some (kk,es)
 | _=>none
def yT(nO:KK)(z:D)(ok:Bool)(m k:D)(H:et)(K:gQ):Prop:=
 match m,keyOf k with
 | .fC v,some kv=>match kj H v with
  | some (kk,es)=>kk=nO∧kk.has kv=true∧(match mz es kv with
    | some d=>K (if ok then .tup [d,.val (.bool true)]else d) H
    | none=>K (if ok then .tup [z,.val (.bool false)]else z) H)
  | none=>False
 | _,_=>False
def yY(nO:KK)(m k x:D)(H:et)(K:gQ):Prop:=
 match m,keyOf k with
 | .fC v,some kv=>match kj H v with
  | some (kk,es)=>kk=nO∧kk.has kv=true∧K .any (H.set v (.map kk (kN es kv x)))
  | none=>False
 | _,_=>False
def xU(x:D)(i:Nat)(H:et)(K:gQ):Prop:=
 match x with
 | .tup ds=>match ds[i]? with
  | some d=>K d H
  | none=>False
 | _=>False
def y7(t sz bytes:Nat)(z:List D)(l c:D)(al:Al)(K:gQ):Prop:=
 match l,c with
 | .val (.int _ n),.val (.int _ m)=>(0≤n∧n≤m∧m≤9223372036854775807∧(bytes:Int)*m≤281474976710656)∧K (.eu al.1 0 sz 0 n.toNat) (al.2 (.row t 0 (List.replicate m.toNat z).flatten))
 | _,_=>False
def gI(env:fg):Option X→Int→Option Int
 | none,n=>some n
 | some x,_=>match ev env x with
  | .val (.int _ n)=>some n
  | _=>none
def zK(env:fg)(sz:Nat)(x:D)(lo hi:Option X)(H:et)(K:gQ):Prop:=
 match x with
 | .sl fm es=>match gI env lo 0,gI env hi es.length with
  | some l,some h=>fm=sz∧(0≤l∧l≤h∧h≤es.length)∧K (.sl sz ((es.drop l.toNat).take (h.toNat-l.toNat))) H
  | _,_=>False
 | .eu v g fm off len=>match gI env lo 0,gI env hi len with
  | some l,some h=>fm=sz∧(0≤l∧l≤h∧h≤len)∧K (.eu v g sz (off+l.toNat) (h.toNat-l.toNat)) H
  | _,_=>False
 | .U=>match gI env lo 0,gI env hi 0 with
  | some l,some h=>(l=0∧h=0)∧K .U H
  | _,_=>False
 | _=>False
def wL(env:fg)(x:D)(lo hi:Option X)(H:et)(K:gQ):Prop:=
 match x with
 | .val (.string s)=>match gI env lo 0,gI env hi s.size with
  | some l,some h=>(0≤l∧l≤h∧h≤s.size)∧K (.val (.string (s.extract l.toNat h.toNat))) H
  | _,_=>False
 | _=>False
def jy(sz:Nat)(H:et):D→Option (List D×Nat)
 | .sl fm es=>if fm=sz then some (es.flatten,es.length)else none
 | .U=>some ([],0)
 | .eu v g fm off len=>match rowAt H v g with
  | some (_,cs)=>if fm=sz∧(off+len)*sz≤cs.length then some ((cs.drop (off*sz)).take (len*sz),len)else none
  | none=>none
 | _=>none
def xt(t sz bytes:Nat)(x y:D)(H:et)(al:Al)(K:gQ):Prop:=
 match jy sz H y with
 | some (ys,n)=>match x with
  | .eu v g fm off len=>match rowAt H v g with
   | some (t',cs)=>(fm=sz∧t'=t∧(off+len)*sz≤cs.length∧(len+n)*bytes≤140737488355328∧len+n≤9223372036854775807) ∧
     K (.eu v (g+1) sz 0 (len+n)) (H.set v (.row t (g+1) ((cs.drop (off*sz)).take (len*sz)++ys)))
   | none=>False
  | .U=>if n=0 then K .U H else(n*bytes≤140737488355328∧n≤9223372036854775807)∧K (.eu al.1 0 sz 0 n) (al.2 (.row t 0 ys))
  | _=>False
 | none=>False
def xO(sz:Nat)(x y:D)(H:et)(K:gQ):Prop:=
 match x,jy sz H y with
 | .eu v g fm off len,some (ys,n)=>match rowAt H v g with
  | some (t,cs)=>(fm=sz∧(off+len)*sz≤cs.length) ∧
    K (.val (.int .i64 (min n len:Nat))) (H.set v (.row t g (cs.take (off*sz)++ys.take (min n len*sz)++cs.drop (off*sz+min n len*sz))))
  | none=>False
 | .U,some _=>K (.val (.int .i64 0)) H
 | _,_=>False
def yR(k:tm)(x:D)(H:et)(K:gQ):Prop:=
 match k,x with
 | .slice,.sl _ es=>K (.val (.int .i64 es.length)) H
 | .slice,.U=>K (.val (.int .i64 0)) H
 | .slice,.eu _ _ _ _ len=>K (.val (.int .i64 len)) H
 | .string,.val (.string s)=>K (.val (.int .i64 s.size)) H
 | .map,.fC v=>match kj H v with
  | some (_,es)=>K (.val (.int .i64 es.length)) H
  | none=>False
 | _,_=>False
def mO(env:fg):List X→Option (List Int)
 | []=>some []
 | x::r=>match ev env x,mO env r with
  | .val (.int .i64 n),some l=>some (n::l)
  | _,_=>none
def y6(env:fg)(isMax:Bool)(xs:List X)(H:et)(K:gQ):Prop:=
 match mO env xs with
 | some [a,b]=>K (.val (.int .i64 (if isMax then max a b else min a b))) H
 | some [a,b,c]=>K (.val (.int .i64 (if isMax then max (max a b) c else min (min a b) c))) H
 | _=>False
def za(x:D)(H:et)(K:gQ):Prop:=
 match x with
 | .ptr v g o=>K (.ptr v g o) H
 | .eG cs=>K (.eG cs) H
 | .fn (.func f) a b=>K (.fn (.func f) a b) H
 | .gy v=>K (.gy v) H
 | _=>False
def xL(k:IntKind)(x:D)(H:et)(K:gQ):Prop:=
 match x with
 | .val (.int _ n)=>K (.val (.int k (k.wrap n))) H
 | _=>False
def bytesOf:List D→Option (List Int)
 | []=>some []
 | .val (.int .u8 n)::r=>match bytesOf r with
  | some l=>some (n::l)
  | none=>none
 | _=>none
def xw(x:D)(H:et)(K:gQ):Prop:=
 match jy 1 H x with
 | some (ys,_)=>match bytesOf ys with
  | some ns=>K (.val (.string (ns.foldl (fun r n=>r.push (UInt8.ofNat n.toNat)) ByteArray.empty))) H
  | none=>False
 | none=>False
def xp(env:fg)(H:et)(al:Al)(K:gQ):fY→Prop
 | .mv x=>K (ev env x) H
 | .pick c a b=>zh (ev env c) (ev env a) (ev env b) H K
 | .box t x=>xA t (ev env x) al K
 | .alloc t z=>K (.ptr al.1 0 0) (al.2 (.row t 0 z))
 | .build z ps=>tw env z ps H K
 | .buildSl t sz z n ps=>xB env t sz z n ps al K
 | .ld1 x=>yP (ev env x) H K
 | .ldN n x=>yQ n (ev env x) H K
 | .st1 a x=>zM (ev env a) (ev env x) H K
 | .stN n a x=>zN n (ev env a) (ev env x) H K
 | .nilck x=>za (ev env x) H K
 | .arith op x y=>xy op (ev env x) (ev env y) H K
 | .eqS gN ls neg x y=>sy gN ls neg (ev env x) (ev env y) H K
 | .un op x=>zX op (ev env x) H K
 | .conv k x=>xL k (ev env x) H K
 | .b2s x=>xw (ev env x) H K
 | .mkfn f first cap=>K (.fn f (first.map (ev env)) (cap.map (ev env))) H
 | .mkmap kk=>K (.fC al.1) (al.2 (.map kk []))
 | .mksl t sz bytes z l c=>y7 t sz bytes z (ev env l) (ev env c) al K
 | .slc sz x lo hi=>zK env sz (ev env x) lo hi H K
 | .slcS x lo hi=>wL env (ev env x) lo hi H K
 | .fieldA off x=>xV off (ev env x) H K
 | .field off n gN x=>tO off n gN (ev env x) H K
 | .idxA sz x i=>yH sz (ev env x) (ev env i) H K
 | .idxArr sz n x i=>yI sz n (ev env x) (ev env i) H K
 | .idx sz n gN x i=>yK sz n gN (ev env x) (ev env i) H K
 | .idxStr x i=>yL (ev env x) (ev env i) H K
 | .lookup kk z ok m k=>yT kk z ok (ev env m) (ev env k) H K
 | .mapUpd kk m k x=>yY kk (ev env m) (ev env k) (ev env x) H K
 | .ext x i=>xU (ev env x) i H K
 | .call _ _ | .callN _ _ | .callv _ _=>False
 | .app t sz bytes x y=>xt t sz bytes (ev env x) (ev env y) H al K
 | .copy sz x y=>xO sz (ev env x) (ev env y) H K
 | .len k x=>yR k (ev env x) H K
 | .minmax isMax xs=>y6 env isMax xs H K
 | .nilS .. | .capE .. | .appZ .. | .clr .. | .rangeS .. | .nextS .. | .rangeM .. | .nextM .. | .entry .. => False
def put(env:Env)(dst:Option Nat)(d:D):Env:=match dst with
 | some k=>(k,d)::env
 | none=>env
def Ctx.set(c:Ctx)(v k:Nat)(L:Loc):Ctx:={ c with ι:=fun u l=>if u=v∧l=k then some L else c.ι u l }
theorem Ctx.oK(c:Ctx)(v k:Nat)(L:Loc):(c.set v k L).ι v k=some L:=by simp[Ctx.set]
theorem Ctx.pP(c:Ctx){v k u l:Nat}(L:Loc)(h:¬ (u=v∧l=k)):(c.set v k L).ι u l=c.ι u l:=by simp only[Ctx.set];rw[if_neg h]
structure qS(H:et)(v:Nat)(ob:Ob)(H':et):Prop where
 get:∀ u,H'[u]? = if u=v then some ob else H[u]?
 free:H.length≤v∨H[v]? = some .jn
 len:H.length≤H'.length
theorem qS.last(H:et)(ob:Ob):qS H H.length ob (H ++ [ob]) where
 get u:=by
  split
  ·rename_i h;subst h;simp
  ·rename_i h
   rcases aW u H.length with h1|h1
   ·rw[ag h1]
   ·rw[aK (by simp;omega),aK h1]
 free:=.inl (Nat.le_refl _)
 len:=by simp
theorem qS.jn{H:et}{v:Nat}(h:H[v]? = some .jn)(ob:Ob):qS H v ob (H.set v ob) where
 get u:=by
  have:=(af.1 h).1
  rw[bH]
  split
  ·rename_i e;subst e;simp[this]
  ·rename_i e;rw[if_neg (dg e)]
 free:=.inr h
 len:=by simp
def j'(H:et)(al:Al):Prop:=∀ ob,qS H al.1 ob (al.2 ob)
theorem j'.last(H:et):j' H (Al.last H):=fun ob=>qS.last H ob
theorem j'.jn{H:et}{v:Nat}(h:H[v]? = some .jn):j' H (Al.jn H v):=fun ob=>qS.jn h ob
structure ig(w w':World):Prop where
 os:w'.os=w.os∧w.drawn≤w'.drawn
 tape:w'.tape=w.tape
 output:w'.output=w.output
 size:w.heap.size≤w'.heap.size
 kept:∀ b,b<w.heap.size→w'.heap[b]? = w.heap[b]?
theorem ig.refl(w:World):ig w w:=⟨⟨rfl,Nat.le_refl _⟩,rfl,rfl,Nat.le_refl _,fun _ _=>rfl⟩
theorem ig.alloc(w:World)(o:Obj):ig w (w.alloc o):=
 ⟨⟨rfl,Nat.le_refl _⟩,rfl,rfl,by simp,fun b h=>by simp only[World.alloc,Array.getElem?_push];rw[if_neg (by omega)]⟩
theorem ig.trans{a b c:World}(h:ig a b)(k:ig b c):ig a c:=
 ⟨⟨k.os.1.trans h.os.1,Nat.le_trans h.os.2 k.os.2⟩,k.tape.trans h.tape,k.output.trans h.output,Nat.le_trans h.size k.size,fun i hi=>(k.kept i (aH hi h.size)).trans (h.kept i hi)⟩
theorem ig.drew(w:World):ig w w.drew:=⟨⟨rfl,Nat.le_succ _⟩,rfl,rfl,Nat.le_refl _,fun _ _=>rfl⟩
theorem wP(n:Nat){c:Ctx}{H:et}{w w':World}(hg:ig w w'):Step n c H w c H w':=
 ⟨hg.os,hg.tape,hg.output,hg.size,rfl,fun _ h=>h,fun _ h=>.inl h,fun b hb _=>hg.kept b hb,fun _ _ _ _ h=>h,fun _ h=>.inr h⟩
theorem xk.mono{c c':Ctx}{w w':World}(hr:∀ v d,ew c w v d→ew c' w' v d){arr:Array MapEntry}{clock:Nat}{es:List (Value×D)}(h:xk c w arr clock es):xk c' w' arr clock es:=
 ⟨h.1,fun i e x he hx=>let ⟨a,b,d⟩:=h.2.1 i e x he hx;⟨a,hr _ _ b,d⟩,h.2.2⟩
theorem fr.nu{c c':Ctx}{w w':World}(pv:c'.RT=c.RT)(hr:∀ v d,ew c w v d→ew c' w' v d){L:Option Loc}{o:Ob}
  (hb:∀ l,L=some l→l.gP=false→o.alive=true→w'.heap[l.b]? = w.heap[l.b]?) (h:fr c w L o):fr c' w' L o:=by
 cases o with
 | dead=>simp[fr]
 | jn=>simpa[fr]using h
 | row t g cs=>
  cases L with
  | none=>simp[fr]at h
  | some l=>
   simp only[fr]at h ⊢
   split
   ·rename_i hv;simpa[hv]using h
   ·rename_i hv
    simp only[hv]at h
    obtain⟨arr,h1,h2,h3,h4⟩:=h
    refine⟨arr,by rw[hb l rfl (by simpa using hv) rfl];exact h1,h2,h3,fun i d hd=>?_⟩
    obtain⟨v,kY,mb,G5⟩:=h4 i d hd
    exact⟨v,kY,mb,hr _ _ G5⟩
 | map kk es=>
  cases L with
  | none=>simp[fr]at h
  | some l=>
   simp only[fr]at h ⊢
   obtain⟨hv,hk,arr,clock,h1,h2⟩:=h
   exact⟨hv,hk,arr,clock,by rw[hb l rfl hv rfl];exact h1,h2.mono hr⟩
 | fE rf env st=>
  cases L with
  | none=>simp[fr]at h
  | some l=>
   simp only[fr]at h ⊢
   obtain⟨hv,r,h1,h2,h3,h4⟩:=h
   exact⟨hv,r,by rw[hb l rfl hv rfl];exact h1,fun k=>hr _ _ (h2 k),by rw[pv];exact h3,h4⟩
 | nR s p=>
  cases L with
  | none=>simp[fr]at h
  | some l=>
   simp only[fr]at h ⊢
   exact⟨h.1,h.2.1,by rw[hb l rfl h.1 rfl];exact h.2.2⟩
 | jK m since seen=>
  cases L with
  | none=>simp[fr]at h
  | some l=>
   simp only[fr]at h ⊢
   obtain⟨h1,h2,bm,h3,h4⟩:=h
   exact⟨h1,h2,bm,hr _ _ h3,by rw[hb l rfl h1 rfl];exact h4⟩
 | jA=>
  cases L with
  | none=>simp[fr]at h
  | some l=>
   simp only[fr]at h ⊢
   by_cases hv:l.gP=true
   ·exact .inl hv
   ·exact .inr (by rw[hb l rfl (by simpa using hv) rfl];exact h.resolve_left hv)
theorem eP.l6{G:GT}{c:Ctx}{H:et}{w w':World}(h:eP G c H w)(hg:ig w w'):eP G c H w':=by
 have hs:=wP H.length (c:=c) (H:=H) hg
 have hr:∀ v d,ew c w v d→ew c w' v d:=fun v d hd=>hd.mA h.toHeapOK hs
 exact{
  inj:=h.inj
  lt:=fun b hb=>aH (h.lt b hb) hg.size
  nF:=h.nF
  iD:=fun b hb=>aH (h.iD b hb) hg.size
  out:=h.out
  jD:=h.jD
  ob:=fun v o ho=>(h.ob v o ho).nu rfl hr fun l hl hv hd=>hg.kept _ (h.lt _ ⟨v,l,⟨o,ho,hd,hl⟩,hv,rfl⟩)
  gl:=fun g cs ub=>let ⟨a,b⟩:=h.gl g cs ub;⟨a,hr _ _ b⟩
  rt:=h.rt }
structure rZ(H:et)(v:Nat)(ob:Ob)(H':et):Prop where
 get:∀ u,H'[u]? = if u=v then some ob else H[u]?
 free:H.length≤v∨H[v]? = some .jn∨∃ o,H[v]? = some o∧o.alive=true∧o.gen<ob.gen
 len:H.length≤H'.length
theorem qS.pc{H:et}{v:Nat}{ob:Ob}{H':et}(h:qS H v ob H'):rZ H v ob H':=⟨h.get,h.free.imp id .inl,h.len⟩
theorem wR{c:Ctx}{H H':et}{v:Nat}{ob:Ob}{L:Loc}(ht:rZ H v ob H'){u:Nat}{l:Loc}(h:jg (c.set v ob.gen L) H' u l) :
  (u=v∧l=L)∨(u≠v∧jg c H u l):=by
 obtain⟨o,ho,ha,eD⟩:=h
 rw[ht.get]at ho
 split at ho
 ·rename_i e;cases ho;subst e;rw[Ctx.oK]at eD;cases eD;exact .inl ⟨rfl,rfl⟩
 ·rename_i e
  rw[Ctx.pP _ _ (fun h=>e h.1)]at eD
  exact .inr ⟨e,o,ho,ha,eD⟩
theorem N7{G:GT}{c:Ctx}{H H':et}{w:World}{v:Nat}{ob:Ob}(h:eP G c H w)(ht:rZ H v ob H')(k:Nat)(hk:ob.gen≤k):c.ι v k=none:=by
 rcases ht.free with hf|hf|⟨o,ho,ha,hg⟩
 ·exact h.out v k hf
 ·exact h.jD v _ k hf (.inl rfl)
 ·exact h.jD v o k ho (.inr ⟨ha,by omega⟩)
theorem N8{G:GT}{c:Ctx}{H H':et}{w:World}{v:Nat}{ob:Ob}{L:Loc}(h:eP G c H w)(ht:rZ H v ob H')(u k:Nat)(l:Loc)(eD:c.ι u k=some l):(c.set v ob.gen L).ι u k=some l:=by
 rw[Ctx.pP]
 ·exact eD
 ·rintro⟨rfl,rfl⟩
  rw[N7 h ht _ (Nat.le_refl _)]at eD
  cases eD
theorem ET{G:GT}{c:Ctx}{H H':et}{w w':World}{v:Nat}{ob:Ob}(h:eP G c H w)(ht:rZ H v ob H')(hg:ig w w')(L:Loc)
  (hL:L.gP=false→w.heap.size≤L.b∧L.b<w'.heap.size):Step H.length c H w (c.set v ob.gen L) H' w' where
 os:=hg.os
 tape:=hg.tape
 output:=hg.output
 size:=hg.size
 RT:=rfl
 Fm _ h:=h
 Fn _ h:=.inl h
 kept b hb _:=hg.kept b hb
 old u k l _ eD:=N8 h ht u k l eD
 own b hb:=by
  obtain⟨u,l,hl,hv,e⟩:=hb
  rcases wR ht hl with⟨_,rfl⟩|⟨_,hl⟩
  ·exact .inl (e▸(hL hv).1)
  ·exact .inr ⟨u,l,hl,hv,e⟩
theorem Iz{G:GT}{c:Ctx}{H H':et}{w w':World}{v:Nat}{ob:Ob}(h:eP G c H w)(ht:rZ H v ob H')(hg:ig w w')(L:Loc)
  (hL:L.gP=false→w.heap.size≤L.b∧L.b<w'.heap.size) (fu:ob.alive=true) (fF:fr (c.set v ob.gen L) w' (some L) ob):eP G (c.set v ob.gen L) H' w':=by
 have hs:=ET h ht hg L hL
 have hr:∀ u d,ew c w u d→ew (c.set v ob.gen L) w' u d:=fun u d hd=>hd.mA h.toHeapOK hs
 have fe:∀ u l,jg c H u l→l.gP=false→l.b<w.heap.size:=fun u l hl hv=>h.lt _ ⟨u,l,hl,hv,rfl⟩
 have SA:v<H'.length:=by
  have:=ht.get v
  rw[if_pos rfl]at this
  exact(af.1 this).1
 exact{
  inj:=by
   intro u u' l l' h1 h2 h5 h6 he
   rcases wR ht h1 with⟨rfl,rfl⟩|⟨_,b⟩<;>rcases wR ht h2 with⟨rfl,rfl⟩|⟨_,b'⟩
   ·rfl
   ·have:=(hL h5).1;have:=fe _ _ b' h6;omega
   ·have:=(hL h6).1;have:=fe _ _ b h5;omega
   ·exact h.inj u u' l l' b b' h5 h6 he
  lt:=fun b hb=>by
   obtain⟨u,l,hl,hv,e⟩:=hb
   rcases wR ht hl with⟨_,rfl⟩|⟨_,hl⟩
   ·exact e▸(hL hv).2
   ·exact e▸aH (fe u l hl hv) hg.size
  nF:=fun b hb hF=>by
   obtain⟨u,l,hl,hv,e⟩:=hb
   rcases wR ht hl with⟨_,rfl⟩|⟨_,hl⟩
   ·have:=h.iD b hF;have:=(hL hv).1;omega
   ·exact h.nF b ⟨u,l,hl,hv,e⟩ hF
  iD:=fun b hb=>aH (h.iD b hb) hg.size
  out:=fun u k hu=>by
   rw[Ctx.pP _ _ (by rintro⟨rfl,_⟩;omega)]
   exact h.out u k (Nat.le_trans ht.len hu)
  jD:=fun u o k ho hk=>by
   rw[ht.get]at ho
   split at ho
   ·rename_i e
    cases ho;subst e
    rcases hk with rfl|⟨_,hk⟩
    ·cases fu
    ·rw[Ctx.pP _ _ (by rintro⟨_,rfl⟩;omega)];exact N7 h ht k (by omega)
   ·rename_i e
    rw[Ctx.pP _ _ (fun h=>e h.1)]
    exact h.jD u o k ho hk
  ob:=fun u o ho=>by
   rw[ht.get]at ho
   split at ho
   ·rename_i e
    cases ho;subst e
    rw[Ctx.oK];exact fF
   ·rename_i e
    rw[Ctx.pP _ _ (fun h=>e h.1)]
    exact fr.nu (c:=c) (c':=c.set v ob.gen L) rfl hr (fun l hl hv hd=>hg.kept _ (fe u l ⟨o,ho,hd,hl⟩ hv)) (h.ob u o ho)
  gl:=fun g cs ub=>let ⟨a,b⟩:=h.gl g cs ub;⟨a,hr _ _ b⟩
  rt:=h.rt }
structure Cells(c:Ctx)(w:World)(vs:List Value)(cs:List D):Prop where
 len:vs.length=cs.length
 one:∀ v∈vs,v.oneCell'=true
 rep:∀ (i:Nat) (v:Value) (d:D),vs[i]? = some v→cs[i]? = some d→ew c w v d
theorem y8{G:GT}{c:Ctx}{H H':et}{v gen:Nat}{w:World}(h:eP G c H w)(w0:World)(hg:ig w w0)(t:TypeId)(vs:List Value)(cs:List D)(n:Nat)(arr:Array Value)
  (ht:rZ H v (.row t gen cs) H') (hc:Cells c w vs cs) (ha:arr.toList.take n=vs) (hn:n≤arr.size) :
  ∃ L:Loc,L.gP=false∧L.b=w0.heap.size∧L.base=0∧L.top=arr.size ∧
   eP G (c.set v gen L) H' (w0.alloc (.cells arr t))∧Step H.length c H w (c.set v gen L) H' (w0.alloc (.cells arr t)):=by
 have oV:=hg.trans (ig.alloc w0 (.cells arr t))
 refine⟨⟨w0.heap.size,0,arr.size,false⟩,rfl,rfl,rfl,rfl,?_⟩
 have hL:(⟨w0.heap.size,0,arr.size,false⟩:Loc).gP=false→w.heap.size≤(⟨w0.heap.size,0,arr.size,false⟩:Loc).b∧(⟨w0.heap.size,0,arr.size,false⟩:Loc).b<(w0.alloc (.cells arr t)).heap.size:=fun _=>⟨hg.size,by simp⟩
 have hs:=ET h ht oV ⟨w0.heap.size,0,arr.size,false⟩ hL
 refine⟨Iz h ht oV _ hL rfl ?_,hs⟩
 have hr:∀ u d,ew c w u d→ew (c.set v gen ⟨w0.heap.size,0,arr.size,false⟩) (w0.alloc (.cells arr t)) u d:=fun u d hd=>hd.mA h.toHeapOK hs
 have hlen:cs.length=n:=by rw[← hc.len,← ha];simp;omega
 simp only[fr,Ob.gen]
 refine⟨arr,heap_alloc_new _ _,rfl,by simp;omega,fun i d hd=>?_⟩
 have hi:i<cs.length:=(af.1 hd).1
 have uf:i<arr.size:=by omega
 refine⟨arr[i],by simp[uf],?_,?_⟩
 ·exact hc.one _ (by rw[← ha];exact aY (i:=i) (by rw[ay];simp[hlen▸hi,uf]))
 ·exact hr _ _ (hc.rep i _ d (by rw[← ha,ay];simp[hlen▸hi,uf]) hd)
theorem ny{H:et}{v:Nat}{ob:Ob}(hv:v<H.length)(u:Nat):(H.set v ob)[u]? = if u=v then some ob else H[u]? := by
 rw[bH]
 split
 ·rename_i e;subst e;simp[hv]
 ·rename_i e;rw[if_neg (dg e)]
theorem ZG{c:Ctx}{H:et}{v:Nat}{ob ob':Ob}(hv:H[v]? = some ob)(ha:ob.alive=true)(hg:ob'.gen=ob.gen){u:Nat}{l:Loc}(h:jg c (H.set v ob') u l):jg c H u l:=by
 obtain⟨o,ho,fu,eD⟩:=h
 rw[ny (af.1 hv).1]at ho
 split at ho
 ·rename_i e;cases ho;subst e;exact⟨ob,hv,ha,by rw[← hg];exact eD⟩
 ·exact⟨o,ho,fu,eD⟩
theorem Oi{G:GT}{c:Ctx}{H:et}{w:World}(h:eP G c H w){v:Nat}{ob ob':Ob}(hv:H[v]? = some ob)(ha:ob.alive=true)(nL:ob'.alive=true)(Dn:ob'.gen=ob.gen){L:Loc}(eD:c.ι v ob.gen=some L)(fM:L.gP=false)
  {w':World} (mM:w'.os=w.os∧w.drawn≤w'.drawn) (G1:w'.tape=w.tape) (ki:w'.output=w.output) (yB:w'.heap.size=w.heap.size)
  (jm:∀ b,b≠L.b→w'.heap[b]? = w.heap[b]?) (fF:(∀ u d,ew c w u d→ew c w' u d)→fr c w' (some L) ob') :
  eP G c (H.set v ob') w'∧Step H.length c H w c (H.set v ob') w':=by
 have yk:jg c H v L:=⟨ob,hv,ha,eD⟩
 have sO:jz c H L.b:=⟨v,L,yk,fM,rfl⟩
 have hL:∀ u l,jg c (H.set v ob') u l→jg c H u l:=fun u l hl=>ZG hv ha Dn hl
 have nJ:∀ b,jz c (H.set v ob') b→jz c H b:=fun b ⟨u,l,hl,r⟩=>⟨u,l,hL u l hl,r⟩
 have hs:Step H.length c H w c (H.set v ob') w':=
  ⟨mM,G1,ki,by omega,rfl,fun _ h=>h,fun _ h=>.inl h,fun b _ hn=>jm b (fun e=>hn (e▸sO)),fun _ _ _ _ h=>h,fun b hb=>.inr (nJ b hb)⟩
 have hr:∀ u d,ew c w u d→ew c w' u d:=fun u d hd=>hd.mA h.toHeapOK hs
 refine⟨{
  inj:=fun u u' l l' h1 h2=>h.inj u u' l l' (hL _ _ h1) (hL _ _ h2)
  lt:=fun b hb=>by rw[yB];exact h.lt b (nJ b hb)
  nF:=fun b hb=>h.nF b (nJ b hb)
  iD:=fun b hb=>by rw[yB];exact h.iD b hb
  out:=fun u k hu=>h.out u k (by simpa using hu)
  jD:=fun u o k ho hk=>by
   rw[ny (af.1 hv).1]at ho
   split at ho
   ·rename_i e;cases ho;subst e
    rcases hk with rfl|⟨_,hk⟩
    ·cases nL
    ·exact h.jD u ob k hv (.inr ⟨ha,by omega⟩)
   ·exact h.jD u o k ho hk
  ob:=fun u o ho=>by
   rw[ny (af.1 hv).1]at ho
   split at ho
   ·rename_i e
    cases ho;subst e
    rw[Dn,eD]
    exact fF hr
   ·rename_i fJ
    exact(h.ob u o ho).nu rfl hr fun l hl jI hd=>jm _ fun e=>fJ (h.inj u v l L ⟨o,ho,hd,hl⟩ yk jI fM e)
  gl:=fun g cs ub=>let ⟨a,b⟩:=h.gl g cs ub;⟨a,hr _ _ b⟩
  rt:=h.rt },hs⟩
theorem z6{G:GT}{c:Ctx}{H:et}{w:World}(h:eP G c H w){v g:Nat}{t:TypeId}{cs:List D}(hv:H[v]? = some (.row t g cs)){L:Loc}(eD:c.ι v g=some L)(fM:L.gP=false)
  {arr:Array Value} (ku:w.heap[L.b]? = some (.cells arr t (0,0))) (lr:Array Value) (fO:lr.size=arr.size) (jV:L.top=arr.size) (kr:List D) (hlen:L.base+kr.length≤L.top)
  (hc:∀ (i:Nat) (d:D),kr[i]? = some d→∃ u,lr[L.base+i]? = some u∧u.oneCell'=true∧ew c w u d) :
  eP G c (H.set v (.row t g kr)) (w.setRow L.b lr)∧Step H.length c H w c (H.set v (.row t g kr)) (w.setRow L.b lr):=by
 refine Oi (w':=w.setRow L.b lr) (ob':=.row t g kr) h hv rfl rfl rfl eD fM ⟨rfl,Nat.le_refl _⟩ rfl rfl (by simp[World.setRow]) (fun b hb=>by simp only[World.setRow,bC];rw[if_neg (dg hb)]) fun hr=>?_
 simp only[fr,fM]
 refine⟨lr,setRow_heap w L.b arr _ t _ ku,by rw[jV,fO],hlen,fun i d hd=>?_⟩
 obtain⟨x,mo,jO,rA⟩:=hc i d hd
 exact⟨x,mo,jO,hr _ _ rA⟩
def sh:Value→D
 | .slice none 0 0=>.U
 | v=>.val v
def CI:Value→Option D
 | .slice none 0 0=>some .U
 | .agg cs=>if cs.all (·.oneCell')then some (.agg (cs.toList.map sh))else none
 | .tuple _=>none
 | v=>some (.val v)
def cX(G:GT):Operand→Option X
 | .tmp t=>some (.t t)
 | .const v=>(CI v).map .c
 | .global g=>(G g).map fun cs=>.c (.eG cs)
 | .func f=>some (.c (.fn (.func f) [] []))
def qY(G:GT):List Operand→Option (List X)
 | []=>some []
 | x::r=>match cX G x,qY G r with
  | some a,some l=>some (a::l)
  | _,_=>none
def sg(G:GT):List (Nat×Operand)→Option (List (Nat×X))
 | []=>some []
 | (i,x)::r=>match cX G x,sg G r with
  | some a,some l=>some ((i,a)::l)
  | _,_=>none
def qX(G:GT):Option Operand→Option (Option X)
 | none=>some none
 | some x=>(cX G x).map some
def iG(P:Program)(t:TypeId):Option Nat:=(P.info? t).map (·.size)
def mC(P:Program)(t:TypeId):Option (List D):=match (P.info? t).bind (·.zero)with
 | some z=>if z.cells.all (·.oneCell')then some (z.cells.toList.map sh)else none
 | none=>none
def lZ(P:Program)(t:TypeId):Option Bool:=match P.underlying t with
 | some (.struct _)|some (.array _ _)=>some true
 | some _=>some false
 | none=>none
def Mi(P:Program)(t:TypeId):Bool:=match P.underlying t with
 | some (.int _)|some .string|some .bool=>true
 | _=>false
def Cq(P:Program)(t:TypeId):Bool:=match P.underlying t with
 | some .bool=>true
 | _=>false
def uE(P:Program)(t:TypeId):Option lH:=match P.underlying t with
 | some (.int _)=>some .int
 | some .string=>some .str
 | some .bool=>some .bool
 | _=>none
def CW(P:Program):Nat→List Field→Option (List lH)
 | _,[]=>some []
 | i,f::r=>match uE P f.type,CW P (i+1) r with
  | some l,some ls=>if f.offset=i∧f.name≠ "_" then some (l::ls)else none
  | _,_=>none
def CX(P:Program)(t:TypeId):Option (List lH):=match P.underlying t with
 | some (.struct fs)=>if P.stoodInHeld t=false∧P.eqGuardType P.depth t=false then CW P 0 fs.toList else none
 | _=>none
def zi(P:Program)(fs:Array Field):List (Nat×X)→Option (List (Nat×Nat×X))
 | []=>some []
 | (i,x)::r=>match fs[i]?,zi P fs r with
  | some f,some l=>(iG P f.type).map fun n=>(f.offset,n,x)::l
  | _,_=>none
def KC(P:Program)(fs:Array Field):Bool:=fs.all fun f=>(iG P f.type).isSome
def nI(P:Program)(f:FuncId):Bool:=match P.funcs[f]? with
 | some fn=>fn.name != "runtime.NumGoroutine" && fn.body.isSome
 | none=>false
def qy(P:Program)(t:TypeId):Option KK:=match P.underlying t with
 | some (.int k)=>some (.int k)
 | some .string=>some .str
 | some .bool=>some .bool
 | _=>none
def IH(P:Program)(t:TypeId):Option D:=(P.info? t).bind fun i=>i.zero.bind CI
def ko(P:Program)(G:GT)(o:Oper):Option fY:=
 match o.op with
 | .move x=>do let a ← cX G x;pure (.mv a)
 | .assign x=>do let a ← cX G x;pure (.mv a)
 | .pick c a b=>do pure (.pick (← cX G c) (← cX G a) (← cX G b))
 | .box e x=>do pure (.box e (← cX G x))
 | .alloc e=>do pure (.alloc e (← mC P e))
 | .build t ps=>do
  let z ← mC P t
  let l ← sg G ps.toList
  match P.underlying t with
  | some (.struct fs)=>if KC P fs then do pure (.build z (← zi P fs l))else none
  | some (.array _ e)=>do
   let sz ← iG P e
   pure (.build z (l.map fun p=>(p.1*sz,sz,p.2)))
  | _=>none
 | .buildSlice t n ps=>do
  let .slice e ← P.underlying t|none
  let z ← mC P e
  let sz ← iG P e
  let l ← sg G ps.toList
  if z.length=sz∧0<sz∧n*sz≤16777216 then pure (.buildSl e sz z n l)else none
 | .load t a=>do
  let x ← cX G a
  let n ← iG P t
  if ← lZ P t then pure (.ldN n x)else pure (.ld1 x)
 | .store t a v=>do
  let x ← cX G a
  let y ← cX G v
  let n ← iG P t
  if ← lZ P t then pure (.stN n x y)else if n=1 then pure (.st1 x y)else none
 | .nilCheck x=>do pure (.nilck (← cX G x))
 | .binOp op t x y _=>do
  let a ← cX G x
  let b ← cX G y
  match op with
  | .eql=>if Cq P t then pure (.eqS false [.bool] false a b)else if Mi P t then pure (.arith .eql a b)else do pure (.eqS true (← CX P t) false a b)
  | .neq=>if Cq P t then pure (.eqS false [.bool] true a b)else if Mi P t then pure (.arith .neq a b)else do pure (.eqS true (← CX P t) true a b)
  | op=>pure (.arith op a b)
 | .unOp op _ x=>do pure (.un op (← cX G x))
 | .convert s d x=>do
  let a ← cX G x
  let _ ← P.underlying s
  match P.underlying d with
  | some (.int k)=>pure (.conv k a)
  | some .string=>do
   let .slice e ← P.underlying s|none
   let .int .u8 ← P.underlying e|none
   pure (.b2s a)
  | _=>none
 | .makeFunc f first cap=>do pure (.mkfn f (← qY G first.toList) (← qY G cap.toList))
 | .makeMap t none=>do
  let .map k _ ← P.underlying t|none
  pure (.mkmap (← qy P k))
 | .lookup t x i ok=>do
  let .map k e ← P.underlying t|none
  let z ← IH P e
  pure (.lookup (← qy P k) z ok (← cX G x) (← cX G i))
 | .mapUpdate t m k v=>do
  let .map kt _ ← P.underlying t|none
  pure (.mapUpd (← qy P kt) (← cX G m) (← cX G k) (← cX G v))
 | .insert t m k v=>do
  let .map kt _ ← P.underlying t|none
  pure (.mapUpd (← qy P kt) (← cX G m) (← cX G k) (← cX G v))
 | .makeSlice t l c=>do
  let .slice e ← P.underlying t|none
  let z ← mC P e
  let i ← P.info? e
  if z.length=i.size∧0<i.size then pure (.mksl e i.size i.bytes z (← cX G l) (← cX G c))else none
 | .slice t x lo hi none=>do
  let a ← cX G x
  let l ← qX G lo
  let h ← qX G hi
  match P.underlying t with
  | some (.slice e)=>do pure (.slc (← iG P e) a l h)
  | some .string=>pure (.slcS a l h)
  | _=>none
 | .fieldAddr t x f=>do
  let a ← cX G x
  let .struct fs ← P.underlying t|none
  let fd ← fs[f]?
  let n ← iG P fd.type
  if 0<n then pure (.fieldA fd.offset a)else none
 | .field t x f=>do
  let a ← cX G x
  let .struct fs ← P.underlying t|none
  let fd ← fs[f]?
  let n ← iG P fd.type
  pure (.field fd.offset n (← lZ P fd.type) a)
 | .indexAddr t x i=>do
  let a ← cX G x
  let j ← cX G i
  match P.underlying t with
  | some (.slice e)=>do
   let n ← iG P e
   if 0<n then pure (.idxA n a j)else none
  | some (.array n e)=>do pure (.idxArr (← iG P e) n a j)
  | _=>none
 | .index t x i=>do
  let a ← cX G x
  let j ← cX G i
  match P.underlying t with
  | some (.array n e)=>do pure (.idx (← iG P e) n (← lZ P e) a j)
  | some .string=>pure (.idxStr a j)
  | _=>none
 | .extract x i=>do pure (.ext (← cX G x) i)
 | .call c=>do
  let args ← qY G c.args.toList
  match c.callee with
  | .value (.func f)=>if nI P f then pure (if G.nw f then .callN f args else .call f args)else none
  | .value f=>do pure (.callv (← cX G f) args)
  | .builtin .append=>match c.argTypes.toList,args with
   | [t,u],[x,y]=>do
    let .slice e ← P.underlying t|none
    let i ← P.info? e
    let z ← mC P e
    let .slice _ ← P.underlying u|none
    if z.length=i.size∧0<i.size then pure (.app e i.size i.bytes x y)else none
   | _,_=>none
  | .builtin .copy=>match c.argTypes.toList,args with
   | [t,u],[x,y]=>do
    let .slice e ← P.underlying t|none
    let .slice _ ← P.underlying u|none
    let n ← iG P e
    if 0<n then pure (.copy n x y)else none
   | _,_=>none
  | .builtin .len=>match c.argTypes.toList,args with
   | [t],[x]=>match P.underlying t with
    | some (.slice _)=>pure (.len .slice x)
    | some .string=>pure (.len .string x)
    | some (.map _ _)=>pure (.len .map x)
    | _=>none
   | _,_=>none
  | .builtin .max=>pure (.minmax true args)
  | .builtin .min=>pure (.minmax false args)
  | _=>none
 | _=>none
end Go.AL
namespace Go.AL
open Go
def iS(c:Ctx)(w:World)(env:fg)(a:Act):Prop:=∀ k,ew c w (a.tmps.getD k undef) (env k)
def gF(G:GT)(c:Ctx)(H:et)(w:World)(K:gQ)(v:Value)(w':World):Prop:=
 ∃ d H' c',K d H'∧eP G c' H' w'∧ew c' w' v d∧Step H.length c H w c' H' w'
section
variable{P:Program}{G:GT}{c:Ctx}{H:et}{w:World}{K:gQ}{env:fg}{a:Act}
theorem gF.plain(h:eP G c H w){v:Value}{d:D}(hK:K d H)(hr:ew c w v d):gF G c H w K v w:=
 ⟨d,H,c,hK,h,hr,Step.refl _ _ _ _⟩
theorem Nv(v:Value):ew c w v (sh v):=by
 unfold sh
 split
 ·exact .U
 ·exact .val _
theorem Nw{v:Value}{d:D}(h:CI v=some d):ew c w v d:=by
 unfold CI at h
 split at h
 ·cases h;exact .U
 ·rename_i cs
  split at h
  ·rename_i ix
   cases h
   have:=ew.agg (c:=c) (w:=w) cs.toList (cs.toList.map sh) (by simp) (fun v hv=>by
    have:=bQ.1 ix v (by simpa using hv)
    exact this) (fun i v d hv hd=>by
    simp only[ar,hv,a8,aq]at hd
    subst hd
    exact Nv v)
   simpa using this
  ·cases h
 ·cases h
 ·cases h;exact .val _
theorem gb(h:eP G c H w)(he:iS c w env a){x:Operand}{X:X}(hx:cX G x=some X):ew c w (a.eval x) (ev env X):=by
 cases x with
 | tmp t=>cases hx;exact he t
 | const v=>
  simp only[cX,ai]at hx
  obtain⟨d,hd,rfl⟩:=hx
  exact Nw hd
 | global g=>
  simp only[cX,ai]at hx
  obtain⟨cs,gA,rfl⟩:=hx
  exact(h.gl g cs gA).2
 | func f=>cases hx;exact .fn (.func f) [] [] [] [] rfl rfl (by simp) (by simp)
theorem tA(h:eP G c H w)(he:iS c w env a):∀ (l:List Operand) {xs:List X},qY G l=some xs→gG c w (l.map a.eval) (xs.map (ev env))
 | [],xs,hx=>by cases hx;exact .nil
 | x::r,xs,hx=>by
  simp only[qY]at hx
  split at hx
  ·rename_i X l hX hl
   cases hx
   exact .cons (gb h he hX) (tA h he r hl)
  ·cases hx
theorem gG.length{vs:List Value}{ds:List D}(h:gG c w vs ds):vs.length=ds.length:=by
 induction h with
 | nil=>rfl
 | cons _ _ ih=>simp[ih]
theorem gG.get{vs:List Value}{ds:List D}(h:gG c w vs ds):∀ (i:Nat) (v:Value) (d:D),vs[i]? = some v→ds[i]? = some d→ew c w v d:=by
 induction h with
 | nil=>intro i v d hv;simp at hv
 | cons h _ ih=>
  intro i v d hv hd
  cases i with
  | zero=>simp at hv hd;subst hv;subst hd;exact h
  | succ i=>simp at hv hd;exact ih i v d hv hd
theorem gG.append{vs us:List Value}{ds es:List D}(h:gG c w vs ds)(k:gG c w us es):gG c w (vs++us) (ds++es):=by
 induction h with
 | nil=>exact k
 | cons h _ ih=>exact .cons h ih
theorem gG.zg:∀ {vs:List Value} {ds:List D},vs.length=ds.length→(∀ (i:Nat) (v:Value) (d:D),vs[i]? = some v→ds[i]? = some d→ew c w v d)→gG c w vs ds
 | [],[],_,_=>.nil
 | v::vs,d::ds,hl,h=>.cons (h 0 v d rfl rfl) (gG.zg (by simpa using hl) fun i v d hv hd=>h (i+1) v d (by simpa using hv) (by simpa using hd))
theorem Cells.agg{vs:List Value}{cs:List D}(h:Cells c w vs cs):ew c w (.agg vs.toArray) (.agg cs):=.agg vs cs h.len h.one h.rep
theorem Cells.drop{vs:List Value}{cs:List D}(h:Cells c w vs cs)(n:Nat):Cells c w (vs.drop n) (cs.drop n):=
 ⟨by simp[h.len],fun v hv=>h.one v (bN hv),fun i v d hv hd=>h.rep (n+i) v d (by simpa using hv) (by simpa using hd)⟩
theorem Cells.take{vs:List Value}{cs:List D}(h:Cells c w vs cs)(n:Nat):Cells c w (vs.take n) (cs.take n):=
 ⟨by simp[h.len],fun v hv=>h.one v (aN hv),fun i v d hv hd=>by
  rw[ay]at hv hd
  split at hv
  ·rename_i hi;rw[if_pos hi]at hd;exact h.rep i v d hv hd
  ·cases hv⟩
theorem Cells.append{vs us:List Value}{cs ds:List D}(h:Cells c w vs cs)(k:Cells c w us ds):Cells c w (vs++us) (cs++ds):=
 ⟨by simp[h.len,k.len],fun v hv=>by
  rcases List.mem_append.1 hv with hv|hv
  ·exact h.one v hv
  ·exact k.one v hv,fun i v d hv hd=>by
  rw[List.getElem?_append]at hv hd
  split at hv
  ·rename_i hi;rw[if_pos (by rw[← h.len];exact hi)]at hd;exact h.rep i v d hv hd
  ·rename_i hi;rw[if_neg (by rw[← h.len];exact hi)]at hd;rw[← h.len]at hd;exact k.rep _ v d hv hd⟩
theorem Cells.nil:Cells c w [] []:=⟨rfl,by simp,by simp⟩
theorem Cells.get{vs:List Value}{cs:List D}(h:Cells c w vs cs){i:Nat}{d:D}(hd:cs[i]? = some d):∃ v,vs[i]? = some v∧v.oneCell'=true∧ew c w v d:=by
 have hi:i<vs.length:=by rw[h.len];exact(af.1 hd).1
 exact⟨vs[i],by simp[hi],h.one _ (bz hi),h.rep i _ d (by simp[hi]) hd⟩
def oN(c:Ctx)(w:World)(b o:Nat)(cs:List D):Prop:=∃ vs,Cells c w vs cs∧∀ (j:Nat) (v:Value),vs[j]? = some v→w.cell? ⟨b,o+j,none⟩=some v
theorem oN.drop{b o:Nat}{cs:List D}(h:oN c w b o cs)(n:Nat):oN c w b (o+n) (cs.drop n):=by
 obtain⟨vs,hc,hv⟩:=h
 exact⟨vs.drop n,hc.drop n,fun j v hj=>by rw[aC]at hj;have:=hv _ _ hj;rwa [bf]⟩
theorem oN.take{b o:Nat}{cs:List D}(h:oN c w b o cs)(n:Nat):oN c w b o (cs.take n):=by
 obtain⟨vs,hc,hv⟩:=h
 refine⟨vs.take n,hc.take n,fun j v hj=>?_⟩
 rw[ay]at hj
 split at hj
 ·exact hv _ _ hj
 ·cases hj
theorem tb(h:eP G c H w){v g:Nat}{t:TypeId}{cs:List D}(hv:H[v]? = some (.row t g cs)){L:Loc}(eD:c.ι v g=some L)(fM:L.gP=false) :
  ∃ arr:Array Value,w.heap[L.b]? = some (.cells arr t (0,0))∧L.top=arr.size∧L.base+cs.length≤L.top∧Cells c w ((arr.toList.drop L.base).take cs.length) cs:=by
 have h0:=h.ob v _ hv
 simp only[Ob.gen]at h0
 rw[eD]at h0
 simp only[fr,fM]at h0
 obtain⟨arr,h1,h2,h3,h4⟩:=h0
 refine⟨arr,h1,h2,h3,⟨by simp;omega,fun u hu=>?_,fun i u d hu hd=>?_⟩⟩
 ·obtain⟨i,hi⟩:=aD.1 hu
  rw[ay]at hi
  split at hi
  ·rename_i fe
   rw[aC]at hi
   obtain⟨x,hx,h5,_⟩:=h4 i cs[i] (by simp[fe])
   have:arr[L.base+i]? = some u:=by simpa using hi
   rw[hx]at this
   cases this
   exact h5
  ·cases hi
 ·rw[ay]at hu
  split at hu
  ·rw[aC]at hu
   obtain⟨x,hx,_,h6⟩:=h4 i d hd
   have:arr[L.base+i]? = some u:=by simpa using hu
   rw[hx]at this
   cases this
   exact h6
  ·cases hu
theorem Cx(h:eP G c H w){v g o:Nat}{t:TypeId}{cs:List D}(hv:H[v]? = some (.row t g cs)){u:Value}(hr:ew c w u (.ptr v g o)) :
  ∃ b p,u = .pointer (some ⟨b,p,none⟩)∧oN c w b p (cs.drop o):=by
 cases hr with
 | ptr _ _ _ L eD fM=>
  obtain⟨arr,h1,h2,h3,h4⟩:=tb h hv eD fM
  refine⟨L.b,L.base+o,rfl,?_⟩
  refine oN.drop ⟨_,h4,fun j x hx=>?_⟩ o
  rw[ay]at hx
  split at hx
  ·rw[aC]at hx
   simp[World.cell?,h1]
   simpa using hx
  ·cases hx
theorem tC{u:Value}{cs:List D}(hr:ew c w u (.eG cs)):∃ b p,u = .pointer (some ⟨b,p,none⟩)∧c.F b∧oN c w b p cs:=by
 cases hr with
 | eG b o _ g hF hc hr=>
  refine⟨b,o,rfl,hF,(List.range cs.length).map g,⟨by simp,fun v hv=>?_,fun i v d hv hd=>?_⟩,fun j v hv=>?_⟩
  ·simp only[aw,bG]at hv
   obtain⟨j,hj,rfl⟩:=hv
   exact(hc j cs[j] (by simp[hj])).2
  ·simp only[ar,ai,bO (af.1 hd).1]at hv
   obtain⟨_,e,rfl⟩:=hv
   cases e
   exact hr i d hd
  ·have hj:j<cs.length:=by have:=(af.1 hv).1;simpa using this
   simp only[ar,bO hj,a8,aq]at hv
   subst hv
   exact(hc j cs[j] (by simp[hj])).1
theorem FU{b o:Nat}{cs:List D}(hF:c.F b)(h:oN c w b o cs):ew c w (.pointer (some ⟨b,o,none⟩)) (.eG cs):=by
 obtain⟨vs,hc,hv⟩:=h
 refine .eG b o cs (fun j=>vs.getD j undef) hF (fun j d hd=>?_) (fun j d hd=>?_)
 ·obtain⟨u,hu,h1,_⟩:=hc.get hd
  simp only[List.getD,hu,aR]
  exact⟨hv j u hu,h1⟩
 ·obtain⟨u,hu,_,h1⟩:=hc.get hd
  simp only[List.getD,hu,aR]
  exact h1
theorem zD{t:TypeId}{b:Bool}(h:lZ P t=some b)(w:World):(isAgg t).run P w = .ok b w:=by
 unfold lZ at h
 unfold isAgg
 cases hu:P.underlying t with
 | none=>simp[hu]at h
 | some d=>cases d<;>simp[hu]at h<;>subst h<;>simp[run_underlying hu]
theorem nQ{t:TypeId}{n:Nat}(h:iG P t=some n)(w:World):(sizeOf t).run P w = .ok n w:=by
 simp only[iG,ai]at h
 obtain⟨i,hi,rfl⟩:=h
 simp[sizeOf,typeInfo,hi]
theorem run_typeInfo{t:TypeId}{i:TypeInfo}(h:P.info? t=some i)(w:World):(typeInfo t).run P w = .ok i w:=by simp[typeInfo,h]
theorem tf{t:TypeId}{z:List D}(h:mC P t=some z)(w:World):∃ v:Value,(zeroValue t).run P w = .ok v w∧(P.info? t).bind (·.zero)=some v ∧
  ∀ c w,Cells c w v.cells.toList z:=by
 unfold mC at h
 cases hi:P.info? t with
 | none=>simp[hi]at h
 | some i=>
  simp only[hi,Option.bind_some]at h
  cases hz:i.zero with
  | none=>simp[hz]at h
  | some v=>
   simp only[hz]at h
   split at h
   ·rename_i ix
    cases h
    refine⟨v,by simp[zeroValue,run_typeInfo hi,hz],by simp[hz],fun c w=>⟨by simp,fun u hu=>?_,fun i u d hu hd=>?_⟩⟩
    ·exact bQ.1 ix u (by simpa using hu)
    ·simp only[ar,hu,a8,aq]at hd
     subst hd
     exact Nv u
   ·cases h
theorem EA{t:TypeId}(ha:lZ P t=some false){b o:Nat}{cs:List D}(hc:oN c w b o cs){d:D}(hd:cs[0]? = some d) :
  ∃ u,(Instr.loadAt t (.pointer (some ⟨b,o,none⟩))).run P w = .ok u w∧u.oneCell'=true∧ew c w u d:=by
 obtain⟨vs,gA,hv⟩:=hc
 obtain⟨u,hu,h1,h2⟩:=gA.get hd
 have:=hv 0 u hu
 exact⟨u,by simp[Instr.loadAt,Instr.sureAddr,loadVar,zD ha];simp at this;simp[this],h1,h2⟩
theorem EB{t:TypeId}{n:Nat}(ha:lZ P t=some true)(hs:iG P t=some n){b o:Nat}{cs:List D}(hc:oN c w b o cs)(hn:n≤cs.length) :
  ∃ u,(Instr.loadAt t (.pointer (some ⟨b,o,none⟩))).run P w = .ok u w∧ew c w u (.agg (cs.take n)):=by
 obtain⟨vs,gA,hv⟩:=hc.take n
 have hl:vs.length=n:=by rw[gA.len];simp;omega
 have:=run_loadCells_list (P:=P) w ⟨b,o,none⟩ vs (fun j v hj=>by rw[Addr.add_lit];exact hv j v hj)
 rw[hl]at this
 exact⟨.agg vs.toArray,by simp[Instr.loadAt,Instr.sureAddr,loadVar,zD ha,nQ hs,this],gA.agg⟩
theorem pa{v g:Nat}{x:TypeId×List D}(h:rowAt H v g=some x):H[v]? = some (.row x.1 g x.2):=by
 unfold rowAt at h
 split at h
 ·split at h
  ·rename_i e;subst e;cases h;assumption
  ·cases h
 ·cases h
theorem YD(h:eP G c H w){t:TypeId}(ha:lZ P t=some false){x:D}{u:Value}(hr:ew c w u x)(hk:yP x H K) :
  ∃ v,(Instr.loadAt t u).run P w = .ok v w∧gF G c H w K v w:=by
 unfold yP at hk
 split at hk
 ·rename_i v g o
  split at hk
  ·rename_i t' cs fy
   have hv:=pa fy
   split at hk
   ·rename_i d hd
    obtain⟨b,p,rfl,hc⟩:=Cx h hv hr
    obtain⟨u,hu,_,h2⟩:=EA ha hc (d:=d) (by simpa using hd)
    exact⟨u,hu,.plain h hk h2⟩
   ·exact hk.elim
  ·exact hk.elim
 ·rename_i cs
  split at hk
  ·rename_i d hd
   obtain⟨b,p,rfl,_,hc⟩:=tC hr
   obtain⟨u,hu,_,h2⟩:=EA ha hc hd
   exact⟨u,hu,.plain h hk h2⟩
  ·exact hk.elim
 ·exact hk.elim
theorem YE(h:eP G c H w){t:TypeId}{n:Nat}(ha:lZ P t=some true)(hs:iG P t=some n){x:D}{u:Value}(hr:ew c w u x)(hk:yQ n x H K) :
  ∃ v,(Instr.loadAt t u).run P w = .ok v w∧gF G c H w K v w:=by
 unfold yQ at hk
 split at hk
 ·rename_i v g o
  split at hk
  ·rename_i t' cs fy
   have hv:=pa fy
   obtain⟨b,p,rfl,hc⟩:=Cx h hv hr
   obtain⟨u,hu,h2⟩:=EB (n:=n) ha hs hc (by simp;omega)
   exact⟨u,hu,.plain h hk.2 h2⟩
  ·exact hk.elim
 ·rename_i cs
  obtain⟨b,p,rfl,_,hc⟩:=tC hr
  obtain⟨u,hu,h2⟩:=EB (n:=n) ha hs hc hk.1
  exact⟨u,hu,.plain h hk.2 h2⟩
 ·exact hk.elim
theorem YL(h:eP G c H w){x y z:D}{u v t:Value}(h1:ew c w u x)(h2:ew c w v y)(h3:ew c w t z)(hk:zh x y z H K) :
  ∃ b,u = .bool b∧gF G c H w K (if b then v else t) w:=by
 unfold zh at hk
 split at hk
 ·rename_i b
  cases h1
  refine⟨b,rfl,.plain h hk ?_⟩
  cases b
  ·exact h3
  ·exact h2
 ·exact hk.elim
end
end Go.AL
namespace Go.AL
open Go
section
variable{P:Program}{G:GT}{c:Ctx}{H:et}{w:World}{K:gQ}{env:fg}{a:Act}
theorem wrap_i64{n:Int}(h:kL n):IntKind.i64.wrap n=n:=by
 unfold kL at h
 simp only[IntKind.wrap,IntKind.signed,IntKind.bits]
 simp
 omega
theorem gF.val(h:eP G c H w){v:Value}(hK:K (.val v) H):gF G c H w K v w:=.plain h hK (.val _)
theorem Ye(h:eP G c H w){op:BinOp}{k:IntKind}{x y:Int}(hk:xu op k x y H K)(hs:op≠.shl∧op≠.shr)(t:TypeId)(xo yo:Operand) :
  ∃ v,(do eqGuard op t xo yo (.int k x) (.int k y);binOp op t (.int k x) (.int k y)).run P w = .ok v w∧gF G c H w K v w:=by
 have hg:(eqGuard op t xo yo (.int k x) (.int k y)).run P w = .ok () w:=by
  cases op<;>simp[eqGuard]
 simp only[Sem.run_bind,hg,Result.andThen_ok]
 cases op<;>simp only[xu]at hk
 case add=>
  by_cases e:k = .i64
  ·subst e
   simp only[if_true]at hk
   exact⟨_,by simp[binOp,Op.intArith,wrap_i64 hk.1]<;>rfl,.val h hk.2⟩
  ·rw[if_neg e]at hk
   exact⟨_,by simp[binOp,Op.intArith]<;>rfl,.val h hk⟩
 case sub=>
  by_cases e:k = .i64
  ·subst e
   simp only[if_true]at hk
   exact⟨_,by simp[binOp,Op.intArith,wrap_i64 hk.1]<;>rfl,.val h hk.2⟩
  ·rw[if_neg e]at hk
   exact⟨_,by simp[binOp,Op.intArith]<;>rfl,.val h hk⟩
 case mul=>
  by_cases e:k = .i64
  ·subst e
   simp only[if_true]at hk
   exact⟨_,by simp[binOp,Op.intArith,wrap_i64 hk.1]<;>rfl,.val h hk.2⟩
  ·rw[if_neg e]at hk
   exact⟨_,by simp[binOp,Op.intArith]<;>rfl,.val h hk⟩
 case quo=>exact⟨_,by simp[binOp,Op.intDiv,hk.1]<;>rfl,.val h hk.2⟩
 case rem=>exact⟨_,by simp[binOp,Op.intDiv,hk.1]<;>rfl,.val h hk.2⟩
 case and=>exact⟨_,by simp[binOp,Op.intBits]<;>rfl,.val h (by simpa[bits]using hk)⟩
 case or=>exact⟨_,by simp[binOp,Op.intBits]<;>rfl,.val h (by simpa[bits]using hk)⟩
 case xor=>exact⟨_,by simp[binOp,Op.intBits]<;>rfl,.val h (by simpa[bits]using hk)⟩
 case andNot=>exact⟨_,by simp[binOp,Op.intBits]<;>rfl,.val h (by simpa[bits]using hk)⟩
 case eql=>exact⟨_,by simp[binOp,Op.intCmp]<;>rfl,.val h hk⟩
 case neq=>exact⟨_,by simp[binOp,Op.intCmp]<;>rfl,.val h hk⟩
 case lss=>exact⟨_,by simp[binOp,Op.intCmp]<;>rfl,.val h hk⟩
 case leq=>exact⟨_,by simp[binOp,Op.intCmp]<;>rfl,.val h hk⟩
 case gtr=>exact⟨_,by simp[binOp,Op.intCmp]<;>rfl,.val h hk⟩
 case geq=>exact⟨_,by simp[binOp,Op.intCmp]<;>rfl,.val h hk⟩
 all_goals exact absurd rfl (by first|exact hs.1|exact hs.2)
theorem HP(h:eP G c H w){op:BinOp}{x y:D}{u v:Value}(h1:ew c w u x)(h2:ew c w v y)(hk:xy op x y H K)(t:TypeId)(xo yo:Operand) :
  ∃ r,(do eqGuard op t xo yo u v;binOp op t u v).run P w = .ok r w∧gF G c H w K r w:=by
 unfold xy at hk
 split at hk
 ·cases h1;cases h2
  split at hk
  ·have key:∀ op,mr op=true→op = .shl∨op = .shr:=fun op ho=>by cases op<;>simp[mr]at ho<;>simp
   rename_i hs
   rcases key op hs with rfl|rfl
   ·simp only[zJ]at hk
    have hn:=hk.1
    exact⟨_,by simp[eqGuard,binOp,Op.shift,dZ.2 hn]<;>rfl,.val h hk.2⟩
   ·simp only[zJ]at hk
    have hn:=hk.1
    exact⟨_,by simp[eqGuard,binOp,Op.shift,dZ.2 hn]<;>rfl,.val h hk.2⟩
  ·rename_i hs
   obtain⟨rfl,hk⟩:=hk
   exact Ye h hk ⟨fun e=>by subst e;exact hs rfl,fun e=>by subst e;exact hs rfl⟩ t xo yo
 ·cases h1;cases h2
  rename_i p q
  cases op<;>simp only[EN]at hk
  case add=>exact⟨.string (p++q),by simp[eqGuard,binOp,run_string_add_sum w p q (by have:=hk.1;omega)],.val h hk.2⟩
  case eql=>exact⟨_,by simp[eqGuard,binOp,Op.stringOp,ByteArray.toList_eq]<;>rfl,.val h (by simpa using hk)⟩
  case neq=>exact⟨_,by simp[eqGuard,binOp,Op.stringOp,ByteArray.toList_eq]<;>rfl,.val h (by simpa using hk)⟩
 ·exact hk.elim
theorem YR(h:eP G c H w){op:UnOp}{x:D}{u:Value}(h1:ew c w u x)(hk:zX op x H K) :
  ∃ r,(Op.unary op u).run P w = .ok r w∧gF G c H w K r w:=by
 unfold zX at hk
 split at hk
 ·cases h1;exact⟨_,by simp[Op.unary]<;>rfl,.val h hk⟩
 ·cases h1
  rename_i n
  have:(0-n) = -n:=by omega
  exact⟨_,by simp[Op.unary,Op.intArith,wrap_i64 hk.1]<;>rfl,.val h hk.2⟩
 ·cases h1;exact⟨_,by simp[Op.unary,Op.intBits]<;>rfl,.val h (by simpa[bits]using hk)⟩
 ·exact hk.elim
theorem vu{d:D}{v:Value}{cs:List D}(hr:ew c w v d)(hc:cellsOf d=some cs):Cells c w v.cells.toList cs:=by
 have key:∀ {v:Value} {d:D},ew c w v d→v.oneCell'=true→v.cells = #[v]→Cells c w v.cells.toList [d]:=fun{v d} hr h1 hv=>by
  rw[hv]
  exact⟨rfl,by simpa using h1,fun i u e hu he=>by
   cases i with
   | zero=>simp at hu he;subst hu;subst he;exact hr
   | succ i=>simp at hu⟩
 cases hr with
 | any v=>simp[cellsOf]at hc
 | val v=>
  simp only[cellsOf]at hc
  split at hc
  ·rename_i h1
   cases hc
   refine key (.val v) h1 ?_
   cases v<;>first|rfl|(simp[Value.oneCell']at h1)
  ·cases hc
 | agg vs ds hl h1 h=>
  simp only[cellsOf,aq]at hc
  subst hc
  exact⟨by simpa[Value.cells]using hl,by simpa[Value.cells]using h1,fun i v d hv hd=>h i v d (by simpa[Value.cells]using hv) hd⟩
 | tup=>simp[cellsOf]at hc
 | sl a len cap sz es g h1 h2 h3 h4 h5 h6 h7=>simp only[cellsOf,aq]at hc;subst hc;exact key (.sl a len cap sz es g h1 h2 h3 h4 h5 h6 h7) rfl rfl
 | U=>simp only[cellsOf,aq]at hc;subst hc;exact key .U rfl rfl
 | eu v k sz off len cap L h1 h2 h3 h4 h5=>simp only[cellsOf,aq]at hc;subst hc;exact key (.eu v k sz off len cap L h1 h2 h3 h4 h5) rfl rfl
 | kl v k sz off L h1 a=>simp only[cellsOf,aq]at hc;subst hc;exact key (.kl v k sz off L h1 a) rfl rfl
 | ptr v k off L h1 h2=>simp only[cellsOf,aq]at hc;subst hc;exact key (.ptr v k off L h1 h2) rfl rfl
 | eG b o cs g h1 h2 h3=>simp only[cellsOf,aq]at hc;subst hc;exact key (.eG b o cs g h1 h2 h3) rfl rfl
 | fC v L h1 h2=>simp only[cellsOf,aq]at hc;subst hc;exact key (.fC v L h1 h2) rfl rfl
 | fn f fs cs df dc h1 h2 h3 h4=>simp only[cellsOf,aq]at hc;subst hc;exact key (.fn f fs cs df dc h1 h2 h3 h4) rfl rfl
 | gy v L h1 h2=>simp only[cellsOf,aq]at hc;subst hc;exact key (.gy v L h1 h2) rfl rfl
theorem YS{d:D}(h:one d=true):cellsOf d=some [d]:=by
 cases d<;>first|rfl|(simp[one]at h;done)|skip
 rename_i v
 simp only[one]at h
 simp[cellsOf,h]
theorem Y3{L:Loc}(hv:L.gP=false)(h0:L.base=0)(v g:Nat):ew (c.set v g L) w (.pointer (some ⟨L.b,0,none⟩)) (.ptr v g 0):=by
 have:=ew.ptr (c:=c.set v g L) (w:=w) v g 0 L (Ctx.oK _ _ _ _) hv
 simpa[h0]using this
theorem M8(h:eP G c H w){al:Al}(fu:j' H al)(t:TypeId){v:Value}{cs:List D}(hc:Cells c w v.cells.toList cs)(hk:K (.ptr al.1 0 0) (al.2 (.row t 0 cs))) :
  ∃ w',(newVar t v).run P w = .ok ⟨w.heap.size,0,none⟩ w'∧gF G c H w K (.pointer (some ⟨w.heap.size,0,none⟩)) w':=by
 obtain⟨L,h1,h2,h3,h4,h5,h6⟩:=y8 h w (ig.refl w) t v.cells.toList cs v.cells.size v.cells (fu _).pc hc (by rw[← cv,db]) (Nat.le_refl _)
 refine⟨w.alloc (.cells v.cells t),by simp[newVar,newRow],?_⟩
 have hp:=Y3 (c:=c) (w:=w.alloc (.cells v.cells t)) h1 h3 al.1 0
 rw[h2]at hp
 exact⟨_,_,_,hk,h5,hp,h6⟩
theorem Yh(h:eP G c H w){al:Al}(fu:j' H al)(t:TypeId){x:D}{u:Value}(h1:ew c w u x)(hk:xA t x al K) :
  ∃ r w',(Instr.box t u).run P w = .ok r w'∧gF G c H w K r w':=by
 unfold xA at hk
 split at hk
 ·rename_i cs gA
  obtain⟨w',hr,hp⟩:=M8 (P:=P) h fu t (vu h1 gA) hk
  exact⟨_,w',by simp[Instr.box,hr],hp⟩
 ·exact hk.elim
theorem Ya(h:eP G c H w){al:Al}(fu:j' H al){t:TypeId}{z:List D}(hz:mC P t=some z)(hk:K (.ptr al.1 0 0) (al.2 (.row t 0 z))) :
  ∃ r w',(Instr.alloc t true (.tuple #[])).run P w = .ok r w'∧gF G c H w K r w':=by
 obtain⟨v,hv,_,hc⟩:=tf hz w
 obtain⟨w',hr,hp⟩:=M8 (P:=P) h fu t (hc c w) hk
 exact⟨_,w',by simp[Instr.alloc,hv,hr],hp⟩
theorem Cells.nz{vs us:List Value}{cs ds:List D}(h:Cells c w vs cs)(k:Cells c w us ds)(o:Nat):Cells c w (vs.take o++us++vs.drop (o+us.length)) (cs.take o++ds++cs.drop (o+ds.length)):=by
 rw[k.len]
 exact((h.take o).append k).append (h.drop _)
theorem Qp(l:List Value):∀ (off:Nat) (cs:Array Value),off+l.length≤cs.size →
  ((l.zipIdx off).foldl (fun(cs:Array Value) (x:Value×Nat)=>cs.setIfInBounds x.2 x.1) cs).toList=cs.toList.take off++l++cs.toList.drop (off+l.length):=by
 induction l with
 | nil=>intro off cs _;simp
 | cons v r ih=>
  intro off cs h
  simp only[aJ]at h
  simp only[List.zipIdx_cons,cg]
  rw[ih (off+1) _ (by simp;omega)]
  simp only[Array.toList_setIfInBounds]
  have:=list_seg_step cs.toList off v r (by simp;omega)
  simpa[bf,di 1]using this
theorem Qj(cs:Array Value)(l:Array Value)(off:Nat)(h:off+l.size≤cs.size) :
  (l.zipIdx.foldl (fun(cs:Array Value) (x:Value×Nat)=>match x with|(c,j)=>cs.setIfInBounds (off+j) c) cs).toList=cs.toList.take off++l.toList++cs.toList.drop (off+l.size):=by
 have:=Qp l.toList off cs (by simpa using h)
 rw[← Array.foldl_toList,Array.toList_zipIdx]
 have e:(l.toList.zipIdx off)=(l.toList.zipIdx 0).map fun x=>(x.1,off+x.2):=by
  rw[List.zipIdx_eq_map_add]
  first|done|(simp only[di])
 rw[e,List.foldl_map]at this
 exact this
theorem C2(place:Nat→Option (Nat×Nat)):∀ (vs:List (Nat×Value)) (ps:List (Nat×Nat×List D)) (arr:Array Value) (cs rs:List D),
  Cells c w arr.toList cs→vs.length=ps.length →
  (∀ (i:Nat) (v:Nat×Value) (p:Nat×Nat×List D),vs[i]? = some v→ps[i]? = some p→place v.1=some (p.1,p.2.1)∧Cells c w v.2.cells.toList p.2.2) →
  lay ps cs=some rs→∃ lr,Instr.fill place arr vs=some lr∧Cells c w lr.toList rs
 | [],[],arr,cs,rs,hc,_,_,hl=>by simp[lay]at hl;subst hl;exact⟨arr,rfl,hc⟩
 | (i,v)::vs,(o,n,xs)::ps,arr,cs,rs,hc,hlen,h,hl=>by
  obtain⟨hp,hx⟩:=h 0 (i,v) (o,n,xs) rfl rfl
  simp only[lay]at hl
  split at hl
  ·rename_i gJ
   have fO:v.cells.size=n:=by rw[← gJ.1,← hx.len];simp
   have jS:o+v.cells.size≤arr.size:=by rw[fO];have:=hc.len;simp at this;omega
   simp only[Instr.fill,hp]
   rw[if_neg (by simp;omega)]
   have o5:=Qj arr v.cells o jS
   refine C2 place vs ps _ _ rs ?_ (by simpa using hlen) (fun i v p hv hp=>h (i+1) v p (by simpa using hv) (by simpa using hp)) hl
   rw[o5]
   have:=hc.nz hx o
   rw[gJ.1]at this
   simpa[fO]using this
  ·cases hl
theorem Ct(h:eP G c H w)(he:iS c w env a):∀ (l:List (Nat×Operand)) {ps:List (Nat×X)},sg G l=some ps →
  ps.length=l.length∧∀ (i:Nat) (x:Nat×Operand) (p:Nat×X),l[i]? = some x→ps[i]? = some p→p.1=x.1∧ew c w (a.eval x.2) (ev env p.2)
 | [],ps,hx=>by cases hx;simp
 | (i,x)::r,ps,hx=>by
  simp only[sg]at hx
  split at hx
  ·rename_i X l hX hl
   cases hx
   obtain⟨nq,oq⟩:=Ct h he r hl
   refine⟨by simp[nq],fun j y p hy hp=>?_⟩
   cases j with
   | zero=>simp at hy hp;subst hy;subst hp;exact⟨rfl,gb h he hX⟩
   | succ j=>simp at hy hp;exact oq j y p hy hp
  ·cases hx
theorem Nj{fs:Array Field}:∀ {ps:List (Nat×X)} {qs:List (Nat×Nat×X)},zi P fs ps=some qs →
  qs.length=ps.length∧∀ (i:Nat) (p:Nat×X) (q:Nat×Nat×X),ps[i]? = some p→qs[i]? = some q→q.2.2=p.2∧∃ f,fs[p.1]? = some f∧q.1=f.offset∧iG P f.type=some q.2.1
 | [],qs,h=>by cases h;simp
 | (i,x)::r,qs,h=>by
  simp only[zi]at h
  split at h
  ·rename_i f l hf hl
   simp only[ai]at h
   obtain⟨n,hn,rfl⟩:=h
   obtain⟨nq,oq⟩:=Nj hl
   refine⟨by simp[nq],fun j p q hp hq=>?_⟩
   cases j with
   | zero=>simp at hp hq;subst hp;subst hq;exact⟨rfl,f,hf,rfl,hn⟩
   | succ j=>simp at hp hq;exact oq j p q hp hq
  ·cases h
theorem HT{l:List (Nat×Nat×X)}{r:List (Nat×Nat×List D)}(h:partsOf env l=some r) :
  r.length=l.length∧∀ (i:Nat) (p:Nat×Nat×X) (q:Nat×Nat×List D),l[i]? = some p→r[i]? = some q→q.1=p.1∧q.2.1=p.2.1∧cellsOf (ev env p.2.2)=some q.2.2:=by
 induction l generalizing r with
 | nil=>simp[partsOf]at h;subst h;simp
 | cons p l ih=>
  obtain⟨o,n,x⟩:=p
  simp only[partsOf]at h
  split at h
  ·rename_i cs l' gA hl
   cases h
   obtain⟨nq,oq⟩:=ih hl
   refine⟨by simp[nq],fun j p q hp hq=>?_⟩
   cases j with
   | zero=>simp at hp hq;subst hp;subst hq;exact⟨rfl,rfl,gA⟩
   | succ j=>simp at hp hq;exact oq j p q hp hq
  ·cases h
theorem Da{α:Type}{l:List α}{n i:Nat}(hl:l.length=n)(hi:i<n):∃ x,l[i]? = some x:=⟨l[i],by simp[hl▸hi]⟩
theorem Yi(h:eP G c H w)(he:iS c w env a){t:TypeId}{z:List D}{ops:Array (Nat×Operand)}{ps:List (Nat×X)}{qs:List (Nat×Nat×X)}{fs:Array Field}
  (hz:mC P t=some z) (hp:sg G ops.toList=some ps) (hu:P.underlying t=some (.struct fs)) (hf:KC P fs=true) (hq:zi P fs ps=some qs)
  (hk:tw env z qs H K):∃ r,(Instr.build t (ops.map fun(i,x)=>(i,a.eval x))).run P w = .ok r w∧gF G c H w K r w:=by
 unfold tw at hk
 split at hk
 ·rename_i l hl
  split at hk
  ·rename_i cs gA
   obtain⟨v,hv,_,hc⟩:=tf hz w
   obtain⟨p1,p2⟩:=Ct h he ops.toList hp
   obtain⟨q1,q2⟩:=Nj hq
   obtain⟨r1,r2⟩:=HT hl
   have R9:∃ places:Array (Nat×Nat),(fs.mapM fun f=>do pure (f.offset,← sizeOf f.type):Sem (Array (Nat×Nat))).run P w = .ok places w∧∀ (i:Nat) (f:Field) (n:Nat),fs[i]? = some f→iG P f.type=some n→places[i]? = some (f.offset,n):=by
    have key:∀ (l:List Field),(∀ f∈l,(iG P f.type).isSome=true)→∃ pl:List (Nat×Nat),(l.mapM fun f=>do pure (f.offset,← sizeOf f.type):Sem (List (Nat×Nat))).run P w = .ok pl w∧∀ (i:Nat) (f:Field) (n:Nat),l[i]? = some f→iG P f.type=some n→pl[i]? = some (f.offset,n):=by
     intro l
     induction l with
     | nil=>intro _;exact⟨[],by simp,by simp⟩
     | cons f l ih=>
      intro ix
      obtain⟨pl,gL,gK⟩:=ih (fun g hg=>ix g (by simp[hg]))
      obtain⟨n,hn⟩:=cK.1 (ix f (by simp))
      refine⟨(f.offset,n)::pl,?_,fun i g m hg hm=>?_⟩
      ·simp only[dt,Sem.run_bind,nQ hn,Result.andThen_ok,Sem.run_pure,gL]
      ·cases i with
       | zero=>simp at hg;subst hg;rw[hn]at hm;cases hm;rfl
       | succ i=>simp at hg ⊢;exact gK i g m hg hm
    obtain⟨pl,gL,gK⟩:=key fs.toList (fun f Rp=>bQ.1 hf f (by simpa using Rp))
    refine⟨pl.toArray,?_,fun i f n hi hn=>by simpa using gK i f n (by simpa using hi) hn⟩
    rw[dB,Sem.run_map,gL]
    rfl
   obtain⟨places,gL,gK⟩:=R9
   obtain⟨lr,sL,mj⟩:=C2 (c:=c) (w:=w) (places[·]?) (ops.toList.map fun x=>(x.1,a.eval x.2)) l v.cells z cs (hc c w) (by simp[r1,q1,p1]) (fun i x q hx yx=>by
    simp only[ar,ai]at hx
    obtain⟨y,hy,rfl⟩:=hx
    have hi:i<ops.toList.length:=(af.1 hy).1
    obtain⟨p,sQ⟩:=Da p1 hi
    obtain⟨s,LV⟩:=Da (q1.trans p1) hi
    obtain⟨e1,e2⟩:=p2 i y p hy sQ
    obtain⟨e3,f,Lb,Rq,Ld⟩:=q2 i p s sQ LV
    obtain⟨e4,e5,e6⟩:=r2 i s q LV yx
    refine⟨?_,?_⟩
    ·rw[e1]at Lb
     have:=gK _ f _ Lb Ld
     simp[this,e4,e5,Rq]
    ·rw[e3]at e6
     exact vu e2 e6) gA
   refine⟨.agg lr,?_,?_⟩
   ·simp only[Instr.build,Sem.run_bind,hv,Result.andThen_ok,run_underlying hu,gL]
    have:(Array.map (fun x=>(x.fst,a.eval x.snd)) ops).toList=ops.toList.map fun x=>(x.1,a.eval x.2):=by simp
    simp only[this,sL]
    rfl
   ·have:=mj.agg
    exact .plain h hk (by simpa using this)
  ·exact hk.elim
 ·exact hk.elim
theorem Yj(h:eP G c H w)(he:iS c w env a){t e:TypeId}{n sz:Nat}{z:List D}{ops:Array (Nat×Operand)}{ps:List (Nat×X)}
  (hz:mC P t=some z) (hp:sg G ops.toList=some ps) (hu:P.underlying t=some (.array n e)) (hs:iG P e=some sz)
  (hk:tw env z (ps.map fun p=>(p.1*sz,sz,p.2)) H K):∃ r,(Instr.build t (ops.map fun(i,x)=>(i,a.eval x))).run P w = .ok r w∧gF G c H w K r w:=by
 unfold tw at hk
 split at hk
 ·rename_i l hl
  split at hk
  ·rename_i cs gA
   obtain⟨v,hv,_,hc⟩:=tf hz w
   obtain⟨p1,p2⟩:=Ct h he ops.toList hp
   obtain⟨r1,r2⟩:=HT hl
   obtain⟨lr,sL,mj⟩:=C2 (c:=c) (w:=w) (fun i=>some (i*sz,sz)) (ops.toList.map fun x=>(x.1,a.eval x.2)) l v.cells z cs (hc c w) (by simp[r1,p1]) (fun i x q hx yx=>by
    simp only[ar,ai]at hx
    obtain⟨y,hy,rfl⟩:=hx
    have hi:i<ops.toList.length:=(af.1 hy).1
    obtain⟨p,sQ⟩:=Da p1 hi
    obtain⟨e1,e2⟩:=p2 i y p hy sQ
    obtain⟨e4,e5,e6⟩:=r2 i (p.1*sz,sz,p.2) q (by simp[sQ]) yx
    exact⟨by simp[e4,e5,e1],vu e2 e6⟩) gA
   refine⟨.agg lr,?_,?_⟩
   ·simp only[Instr.build,Sem.run_bind,hv,Result.andThen_ok,run_underlying hu,nQ hs]
    have:(Array.map (fun x=>(x.fst,a.eval x.snd)) ops).toList=ops.toList.map fun x=>(x.1,a.eval x.2):=by simp
    simp only[this,sL]
    rfl
   ·have:=mj.agg
    exact .plain h hk (by simpa using this)
  ·exact hk.elim
 ·exact hk.elim
end
end Go.AL
namespace Go.AL
open Go
section
variable{P:Program}{G:GT}{c:Ctx}{H:et}{w:World}{K:gQ}{env:fg}{a:Act}
theorem Ec{L:Loc}(hv:L.gP=false)(h0:L.base=0)(v k sz len cap:Nat)(ht:L.top=cap*sz)(hc:len≤cap)(hm:cap≤maxLen) :
  ew (c.set v k L) w (.slice (some ⟨L.b,0,none⟩) len cap) (.eu v k sz 0 len):=by
 have:=ew.eu (c:=c.set v k L) (w:=w) v k sz 0 len cap L (Ctx.oK _ _ _ _) hv hc hm (by simp[h0,ht])
 simpa[h0]using this
theorem C6(zs:List Value)(z:List D)(hz:∀ c w,Cells c w zs z)(n:Nat):Cells c w (List.replicate n zs).flatten (List.replicate n z).flatten:=by
 induction n with
 | zero=>exact Cells.nil
 | succ n ih=>rw[bB,bB,aL,aL];exact(hz c w).append ih
theorem Eg(zs:Array Value)(n:Nat)(h0:0<zs.size):((Array.range (n*zs.size)).map (fun i=>zs[i % zs.size]!)).toList=(List.replicate n zs.toList).flatten:=by
 apply bI
 intro i
 simp only[Array.toList_map,Array.toList_range,ar]
 by_cases hi:i<n*zs.size
 ·rw[bO hi]
  have key:∀ (n i:Nat),i<n*zs.size→(List.replicate n zs.toList).flatten[i]? = some (zs[i % zs.size]!):=by
   intro n
   induction n with
   | zero=>intro i hi;simp at hi
   | succ n ih=>
    intro i hi
    rw[bB,aL]
    by_cases hl:i<zs.size
    ·rw[ag (by simpa using hl),dF hl]
     simp[hl]
    ·rw[aj (by simpa using hl)]
     have:i-zs.size<n*zs.size:=by rw[aV]at hi;omega
     rw[show i-zs.toList.length=i-zs.size by simp,ih _ this,← Nat.mod_eq_sub_mod (by omega)]
  rw[key n i hi]
  rfl
 ·rw[aK (by simp;omega)]
  rw[aK (by simp;omega)]
  rfl
theorem Yk(h:eP G c H w){al:Al}(fu:j' H al)(he:iS c w env a){t e:TypeId}{sz n:Nat}{z:List D}{ops:Array (Nat×Operand)}{ps:List (Nat×X)}
  (hu:P.underlying t=some (.slice e)) (hz:mC P e=some z) (hs:iG P e=some sz) (hp:sg G ops.toList=some ps) (pG:z.length=sz) (iy:0<sz) (jS:n*sz≤16777216)
  (hk:xB env e sz z n ps al K):∃ r w',(Instr.buildSlice t n (ops.map fun(i,x)=>(i,a.eval x))).run P w = .ok r w'∧gF G c H w K r w':=by
 unfold xB at hk
 split at hk
 ·rename_i l hl
  split at hk
  ·rename_i cs gA
   obtain⟨zv,rC,_,oo⟩:=tf hz w
   obtain⟨p1,p2⟩:=Ct h he ops.toList hp
   obtain⟨r1,r2⟩:=HT hl
   have qw:zv.cells.size=sz:=by have:=(oo c w).len;simp at this;omega
   have LZ:Cells c w ((Array.range (n*sz)).map (fun i=>zv.cells[i % zv.cells.size]!)).toList (List.replicate n z).flatten:=by
    rw[← qw,Eg zv.cells n (by omega)]
    exact C6 _ _ oo n
   obtain⟨lr,sL,mj⟩:=C2 (c:=c) (w:=w) (fun i=>some (i*sz,sz)) (ops.toList.map fun x=>(x.1,a.eval x.2)) l _ _ cs LZ (by simp[r1,p1]) (fun i x q hx yx=>by
    simp only[ar,ai]at hx
    obtain⟨y,hy,rfl⟩:=hx
    have hi:i<ops.toList.length:=(af.1 hy).1
    obtain⟨p,sQ⟩:=Da p1 hi
    obtain⟨e1,e2⟩:=p2 i y p hy sQ
    obtain⟨e4,e5,e6⟩:=r2 i (p.1*sz,sz,p.2) q (by simp[sQ]) yx
    exact⟨by simp[e4,e5,e1],vu e2 e6⟩) gA
   have hlen:lr.size=n*sz:=by
    have h1:=mj.len
    have h2:cs.length=(List.replicate n z).flatten.length:=by
     clear hk mj sL h1 LZ
     have key:∀ (ps:List (Nat×Nat×List D)) (cs rs:List D),lay ps cs=some rs→rs.length=cs.length:=by
      intro ps
      induction ps with
      | nil=>intro cs rs h;simp[lay]at h;subst h;rfl
      | cons p ps ih=>
       intro cs rs h
       obtain⟨o,m,xs⟩:=p
       simp only[lay]at h
       split at h
       ·rw[ih _ _ h];simp;omega
       ·cases h
     exact key _ _ _ gA
    rw[h2]at h1
    simp[pG]at h1
    exact h1
   obtain⟨L,h1,h2,h3,h4,h5,h6⟩:=y8 h w (ig.refl w) e lr.toList cs lr.size lr (fu _).pc mj (by rw[← cv,db]) (Nat.le_refl _)
   refine⟨.slice (some ⟨w.heap.size,0,none⟩) n n,w.alloc (.cells lr e),?_,?_⟩
   ·have Sq:¬ n*sz>2 ^ 24:=by omega
    simp only[Instr.buildSlice,Sem.run_bind,run_underlying hu,Result.andThen_ok,nQ hs,Sem.run_ite]
    rw[if_neg Sq]
    have Lq:(Array.map (fun x=>(x.fst,a.eval x.snd)) ops).toList=ops.toList.map fun x=>(x.1,a.eval x.2):=by simp
    by_cases h0:n*sz=0
    ·have hn:n=0:=by
      rcases Nat.mul_eq_zero.1 h0 with h|h<;>omega
     subst hn
     simp only[b9]at sL
     simp only[b9,if_true,Sem.run_pure,Result.andThen_ok,Lq]
     have e0:(Array.map (fun x=>(#[]:Array Value)[x % (#[]:Array Value).size]!) (Array.range 0))=Array.map (fun i=>zv.cells[i % zv.cells.size]!) (Array.range 0):=by simp
     rw[e0,sL]
     simp[newRow]
    ·rw[if_neg h0]
     simp only[Sem.run_bind,rC,Result.andThen_ok,Sem.run_pure,Lq,sL]
     simp[newRow]
   ·have hp:=Ec (c:=c) (w:=w.alloc (.cells lr e)) h1 h3 al.1 0 sz n n (by rw[h4,hlen]) (Nat.le_refl _) (by
     have:n≤n*sz:=Nat.le_mul_of_pos_right n iy
     unfold maxLen;omega)
    rw[h2]at hp
    exact⟨_,_,_,hk,h5,hp,h6⟩
  ·exact hk.elim
 ·exact hk.elim
theorem ZA{t:TypeId}{n:Nat}(hs:iG P t=some n){v:Value}(hv:v.cells.size=n)(b o:Nat) :
  (Instr.storeAt t (.pointer (some ⟨b,o,none⟩)) v).run P w=(storeCells ⟨b,o,none⟩ v.cells.toList).run P w:=by
 simp[Instr.storeAt,Instr.sureAddr,storeVar,nQ hs,hv]
theorem Nb(h:eP G c H w){v g o:Nat}{t t':TypeId}{cs xs:List D}(hv:H[v]? = some (.row t' g cs)){u x:Value}(hu:ew c w u (.ptr v g o)){n:Nat}(hs:iG P t=some n)
  (hx:Cells c w x.cells.toList xs) (hn:xs.length=n) (jS:o+n≤cs.length) (hk:K .any (H.set v (.row t' g (cs.take o++xs++cs.drop (o+n))))) :
  ∃ w',(Instr.storeAt t u x).run P w = .ok () w'∧gF G c H w K undef w':=by
 cases hu with
 | ptr _ _ _ L eD fM=>
  obtain⟨arr,h1,h2,h3,h4⟩:=tb h hv eD fM
  have qv:x.cells.size=n:=by have:=hx.len;simp at this;omega
  have eJ:=run_storeCells_at P L.b (L.base+o) t' x.cells.toList 0 arr w h1 (by simp;omega) hx.one
  simp only[cc]at eJ
  have hw:=z6 h hv eD fM h1 (arr.toList.take (L.base+o)++x.cells.toList++arr.toList.drop (L.base+o+x.cells.toList.length)).toArray
   (by simp;omega) h2 (cs.take o++xs++cs.drop (o+n)) (by simp;omega) (fun i d hd=>by
    have DF:=h4.nz hx o
    rw[hn]at DF
    obtain⟨y,hy,h5,h6⟩:=DF.get hd
    refine⟨y,?_,h5,h6⟩
    rw[← hy]
    simp only[cB]
    have SH:x.cells.toList.length=n:=by simpa using qv
    have iP:(List.take (L.base+o) arr.toList).length=L.base+o:=by simp;omega
    have il:(List.take o (List.take cs.length (List.drop L.base arr.toList))).length=o:=by simp;omega
    by_cases c1:i<o
    ·rw[ag (by simp;omega),ag (by rw[iP];omega),ag (by simp;omega),ag (by rw[il];omega)]
     simp only[ay,aC]
     rw[if_pos (by omega),if_pos c1,if_pos (by omega)]
    ·by_cases c2:i<o+n
     ·rw[ag (by simp;omega),aj (by rw[iP];omega),ag (by simp;omega),aj (by rw[il];omega),iP,il]
      congr 1
      omega
     ·have lB:i<cs.length:=by have:=(af.1 hd).1;simp at this;omega
      rw[aj (by simp;omega),aj (by simp;omega)]
      simp only[aC,ay,az,iP,il,SH]
      rw[if_pos (by omega)]
      congr 1
      omega)
  exact⟨_,by rw[ZA hs qv];exact eJ,.any,_,c,hk,hw.1,.any _,hw.2⟩
theorem YP(h:eP G c H w){t:TypeId}(hs:iG P t=some 1){p x:D}{u v:Value}(h1:ew c w u p)(h2:ew c w v x)(hk:zM p x H K) :
  ∃ w',(Instr.storeAt t u v).run P w = .ok () w'∧gF G c H w K undef w':=by
 unfold zM at hk
 split at hk
 ·rename_i v0 g0 o
  split at hk
  ·rename_i t' cs fy
   obtain⟨fe,GL,hk⟩:=hk
   have hv:=pa fy
   dsimp only at hv
   refine Nb h hv h1 hs (vu h2 (YS GL)) rfl (by omega) ?_
   have e:cs.take o ++ [x]++cs.drop (o+1)=cs.set o x:=by
    rw[cp,if_pos fe]
    simp
   rw[e]
   exact hk
  ·exact hk.elim
 ·exact hk.elim
theorem YQ(h:eP G c H w){t:TypeId}{n:Nat}(hs:iG P t=some n){p x:D}{u v:Value}(h1:ew c w u p)(h2:ew c w v x)(hk:zN n p x H K) :
  ∃ w',(Instr.storeAt t u v).run P w = .ok () w'∧gF G c H w K undef w':=by
 unfold zN at hk
 split at hk
 ·rename_i v' g' o xs Ha
  split at hk
  ·rename_i t' cs fy
   obtain⟨hn,jS,hk⟩:=hk
   exact Nb h (pa fy) h1 hs (vu h2 Ha) hn jS hk
  ·exact hk.elim
 ·exact hk.elim
theorem Yx(h:eP G c H w){t:TypeId}{f n:Nat}{fs:Array Field}{fd:Field}(hu:P.underlying t=some (.struct fs))(hf:fs[f]? = some fd)(hs:iG P fd.type=some n)(hn:0<n)
  {x:D} {u:Value} (h1:ew c w u x) (hk:xV fd.offset x H K):∃ r,(Instr.fieldAt t u f).run P w = .ok r w∧gF G c H w K r w:=by
 have gi:∀ b o,(Instr.fieldAt t (.pointer (some ⟨b,o,none⟩)) f).run P w = .ok (.pointer (some ⟨b,o+fd.offset,none⟩)) w:=fun b o=>by
  simp only[Instr.fieldAt,Sem.run_bind,run_underlying hu,Result.andThen_ok,hf]
  simp only[Instr.sureAddr,Sem.run_pure,Result.andThen_ok,fieldPlace,Sem.run_bind,nQ hs,Sem.run_ite]
  rw[if_neg (by omega)]
  simp[Addr.add_lit]
 unfold xV at hk
 split at hk
 ·rename_i v g o
  cases h1 with
  | ptr _ _ _ L eD hv=>
   refine⟨_,gi _ _,.plain h hk ?_⟩
   have:=ew.ptr (c:=c) (w:=w) v g (o+fd.offset) L eD hv
   rwa [← bf]at this
 ·obtain⟨b,p,rfl,hF,hc⟩:=tC h1
  exact⟨_,gi _ _,.plain h hk (FU hF (hc.drop _))⟩
 ·exact hk.elim
theorem Na(h:eP G c H w){t:TypeId}{n:Nat}{b:Bool}(ha:lZ P t=some b)(hs:iG P t=some n){vs:List Value}{cs:List D}(hc:Cells c w vs cs){off:Nat}
  (hk:tO off n b (.agg cs) H K):∃ r,(part t vs.toArray off).run P w = .ok r w∧gF G c H w K r w:=by
 simp only[tO]at hk
 cases b with
 | true=>
  simp only[if_true]at hk
  refine⟨.agg ((vs.drop off).take n).toArray,?_,.plain h hk.2 ((hc.drop off).take n).agg⟩
  simp[part,zD ha,nQ hs,List.extract_toArray,List.take_drop]
 | false=>
  simp only[bw,if_false]at hk
  split at hk
  ·rename_i d hd
   obtain⟨v,hv,_,hr⟩:=hc.get hd
   refine⟨v,?_,.plain h hk hr⟩
   simp[part,zD ha,hv]
  ·exact hk.elim
theorem Yw(h:eP G c H w){t:TypeId}{f n:Nat}{b:Bool}{fs:Array Field}{fd:Field}(hu:P.underlying t=some (.struct fs))(hf:fs[f]? = some fd)(ha:lZ P fd.type=some b)(hs:iG P fd.type=some n)
  {x:D} {u:Value} (h1:ew c w u x) (hk:tO fd.offset n b x H K):∃ r,(Instr.field t u f).run P w = .ok r w∧gF G c H w K r w:=by
 have hx:∃ cs,x = .agg cs:=by cases x<;>first|exact⟨_,rfl⟩|exact(show False from hk).elim
 obtain⟨cs,rfl⟩:=hx
 cases h1 with
 | agg vs _ hl h1 h2=>
  obtain⟨r,hr,hp⟩:=Na h ha hs ⟨hl,h1,h2⟩ hk
  exact⟨r,by simp[Instr.field,run_underlying hu,hf,asAgg,hr],hp⟩
theorem YA(h:eP G c H w){t e:TypeId}{sz:Nat}(hu:P.underlying t=some (.slice e))(hs:iG P e=some sz)(iy:0<sz){x i:D}{u v:Value}(h1:ew c w u x)(h2:ew c w v i)(hk:yH sz x i H K) :
  ∃ r,(Instr.indexAt t u v).run P w = .ok r w∧gF G c H w K r w:=by
 have gi:∀ (ad:Addr) (len cap:Nat) (k:IntKind) (n:Int),0≤n∧n<len→(Instr.indexAt t (.slice (some ad) len cap) (.int k n)).run P w = .ok (.pointer (some (ad.add (n.toNat*sz)))) w:=fun ad len cap k n hn=>by
  simp only[Instr.indexAt,Sem.run_bind,asIntOf,Sem.run_pure,Result.andThen_ok,run_underlying hu,nQ hs,Sem.run_ite]
  rw[if_pos hn]
 unfold yH at hk
 split at hk
 ·rename_i fm es k n
  obtain⟨rfl,hn,hk⟩:=hk
  cases h2
  cases h1 with
  | sl ad len cap _ _ g hlen ik iJ fO lS hc hr=>
   have hi:n.toNat<es.length:=by omega
   cases ad with
   | none=>have:=lS rfl;omega
   | some ad=>
    refine⟨_,gi ad len cap k n ⟨hn.1,by omega⟩,.plain h hk ?_⟩
    have gK:es[n.toNat]? = some es[n.toNat]:=by simp[hi]
    have Ru:es.getD n.toNat []=es[n.toNat]:=by simp[hi]
    rw[Ru]
    have hl:es[n.toNat].length=fm:=fO _ (bz hi)
    obtain⟨d0,iM⟩:∃ d0,es[n.toNat][0]? = some d0:=⟨es[n.toNat][0]'(by omega),by simp⟩
    obtain⟨b,o,e,hF,_,_⟩:=hc n.toNat _ 0 d0 gK iM
    cases e
    rw[Addr.add_lit]
    refine .eG b (o+n.toNat*fm) _ (g n.toNat) hF (fun j d hd=>?_) (fun j d hd=>hr _ _ j d gK hd)
    obtain⟨b',o',e,_,h3,h4⟩:=hc n.toNat _ j d gK hd
    cases e
    exact⟨by rw[bf];exact h3,h4⟩
 ·rename_i v0 g0 fm off len k n
  obtain⟨rfl,hn,hk⟩:=hk
  cases h2
  cases h1 with
  | eu _ _ _ _ _ cap L eD hv ik iJ jV=>
   refine⟨_,gi _ len cap k n hn,.plain h hk ?_⟩
   rw[Addr.add_lit,bf,← aV]
   exact .ptr _ _ _ L eD hv
  | kl=>omega
 ·exact hk.elim
