/- Part 1 of the proof of skewer.skewerlaw15.TableAgain. -/
import Derived.RangeFuncIn
import Derived.TacticsIn
import Derived.OrdersIn
import Derived.Laws.CopyRow
import Derived.Laws.AppendOwn
import Derived.Laws.OwnMore
import Derived.Laws.Concat
import Derived.Laws.Strings
import Derived.Laws.Slices
import Derived.Laws.StructEq
import Derived.Laws.BytesString
set_option linter.all false
namespace Go.AL
open Go
def ae:=@List.getElem?_eq_some_iff
def af:=@Option.bind_eq_some_iff
def ag:=@List.getElem?_append_left
def ah:=@Bool.and_eq_true
def ai:=@Option.map_eq_some_iff
def aj:=@List.map_congr_left
def ak:=@List.getElem?_append_right
def ao:=@List.all_eq_true
def aq:=@Option.some.injEq
def ar:=@List.getElem?_map
def au:=@List.mem_cons
def av:=@List.mem_map
def aw:=@List.append_nil
def ax:=@Option.bind_eq_bind
def ay:=@List.length_append
def az:=@List.getElem?_take
def aA:=@List.length_pos_iff
def aB:=@List.getElem?_drop
def aC:=@List.length_eq_zero_iff
def aD:=@List.mem_iff_getElem?
def aF:=@Option.pure_def
def aG:=@List.getElem?_eq_none
def aH:=@List.take_of_length_le
def aI:=@List.mem_filter
def aJ:=@List.length_cons
def aK:=@Nat.lt_of_lt_of_le
def aL:=@List.pairwise_cons
def aM:=@List.mem_of_mem_take
def aN:=@Array.getElem?_eq_some_iff
def aO:=@List.mem_flatten
def aP:=@List.mem_append_left
def aQ:=@List.flatten_cons
def aR:=@List.map_id
def aS:=@Option.getD_some
def aT:=@List.length_take
def aU:=@List.mem_cons_of_mem
def aV:=@List.pairwise_append
def aW:=@List.mem_of_getElem?
def aX:=@Option.map_some
def aY:=@List.nil_append
def aZ:=@List.mem_flatMap
def a7:=@List.nodup_append
def a8:=@List.eq_nil_of_length_eq_zero
def bg:=@Nat.add_mul
def bh:=@Nat.lt_or_ge
def bj:=@Nat.zero_add
def bk:=@List.pairwise_iff_getElem
def bn:=@List.length_drop
def bp:=@List.drop_of_length_le
def bq:=@List.mem_append_right
def br:=@Nat.add_assoc
def bt:=@List.append_assoc
def bw:=@Nat.mul_le_mul_right
def bx:=@List.mem_range
def bz:=@List.countP_cons
def bA:=@List.flatMap_append
def bB:=@Array.getElem?_toList
def bC:=@List.getElem?_set
def bE:=@Array.getElem?_setIfInBounds_ne
def bF:=@Bool.false_eq_true
def bG:=@Array.toArray_toList
def bH:=@List.getElem_mem
def bI:=@List.take_append_of_le_length
def bJ:=@List.replicate_succ
def bK:=@List.ext_getElem?
def bL:=@Array.getElem?_modify
def bM:=@List.take_append_drop
def bN:=@List.length_set
def bO:=@Array.getD_eq_getD_getElem?
def bP:=@List.drop_eq_getElem_cons
def bQ:=@Nat.add_zero
def bR:=@Nat.succ_mul
def bS:=@List.mem_filterMap
def bT:=@Int.emod_lt_of_pos
def bU:=@Int.le_refl
def bV:=@List.mem_of_mem_drop
def bW:=@Int.emod_nonneg
def bX:=@List.getElem?_range
def bY:=@List.findIdx?_eq_some_iff_getElem
def bZ:=@List.drop_eq_nil_of_le
def b7:=@Array.getElem?_append_left
def b8:=@Array.all_eq_true_iff_forall_mem
def b9:=@Array.getElem?_eq_getElem
def cc:=@Nat.zero_mul
def cd:=@List.map_map
def cg:=@Bool.or_eq_true
def cj:=@List.eq_nil_iff_forall_not_mem
def cm:=@List.cons.injEq
def cp:=@Nat.pow_le_pow_right
def cr:=@List.getElem?_set_ne
def ct:=@Int.toNat_of_nonneg
def cu:=@List.mem_cons_self
def cv:=@List.filter_append
def cw:=@List.foldl_cons
def cy:=@Classical.choose_spec
def cz:=@List.countP_le_length
def cA:=@Array.size_append
def cB:=@List.set_eq_take_append_cons_drop
def cD:=@List.isEmpty_iff
def cE:=@List.range'_succ
def cF:=@List.cons_append
def cG:=@List.flatten_nil
def cH:=@Array.length_toList
def cI:=@List.length_nil
def cJ:=@Option.some.inj
def cK:=@List.filter_nil
def cL:=@List.filter_eq_nil_iff
def cM:=@List.count_append
def cN:=@Nat.eq_of_beq_eq_true
def cO:=@List.getElem?_toArray
def cP:=@List.contains_iff_mem
def cQ:=@List.not_mem_nil
def cS:=@List.count_singleton
def cT:=@Int.add_assoc
def cU:=@Array.toList_append
def cV:=@List.findIdx?_eq_none_iff
def cW:=@List.mem_take_iff_getElem
def cY:=@Option.isSome_iff_exists
def cZ:=@List.Sublist.append_left
def c6:=@Nat.mul_comm
def c7:=@List.length_filterMap_le
def c8:=@List.countP_append
def c9:=@List.eq_of_mem_replicate
def da:=@List.Pairwise.imp_of_mem
def db:=@List.count_pos_iff
def de:=@List.take_zero
def dg:=@List.drop_drop
def dh:=@List.take_take
def di:=@Iff.rfl
def dj:=@List.getElem?_cons_succ
def dm:=@List.getElem?_replicate
def dp:=@List.size_toArray
def dq:=@Decidable.not_not
def dt:=@Array.getElem?_eq_none
def du:=@List.sublist_cons_self
def dv:=@List.getElem?_set_self
def dw:=@List.length_pos_of_mem
def dx:=@List.append_eq_nil_iff
def dy:=@List.take_length
def dz:=@Array.mem_filter
def dA:=@List.any_eq_true
def dB:=@Ne.symm
def dC:=@List.singleton_append
def dD:=@Nat.le_of_ble_eq_true
def dE:=@Nat.add_comm
def dF:=@List.range_eq_range'
def dH:=@Nat.pow_succ
def dJ:=@List.drop_append_of_le_length
def dK:=@Nat.mul_le_mul_left
def dL:=@List.mapM_cons
def dM:=@List.drop_zero
def dO:=@Nat.eq_zero_or_pos
def dQ:=@Bool.false_or
def dR:=@Prod.mk.injEq
def dS:=@List.exists_cons_of_ne_nil
def dT:=@Function.comp_def
def dV:=@List.pairwise_map
def dX:=@Int.toNat_natCast
def dY:=@Int.not_lt
def dZ:=@Array.mapM_eq_mapM_toList
def ea:=@Array.ext'
def ec:=@Nat.mod_eq_of_lt
def ef:=@Prod.ext
def ei:=@Nat.mul_le_mul_right_iff
def ej:=@List.length_erase_of_mem
def eo:=@Array.toList_inj
def et:=@List.getElem_map
def eu:=@List.filter_cons_of_pos
def ew:=@List.filter_cons_of_neg
def ey:=@List.nodup_cons
def eA:=@Bool.decide_and
def eB:=@List.append_inj
def eC:=@Array.getElem?_mapIdx
def eD:=@Bool.decide_or
def eE:=@List.Pairwise.sublist
def eF:=@List.perm_append_comm
def eG:=@Nat.not_lt
def eH:=@List.map_drop
def eI:=@Nat.mul_assoc
def eJ:=@Nat.min_zero
def eM:=@Int.le_trans
inductive D where
 | any
 | val (v:Value)
 | agg (cs:List D)
 | tup (cs:List D)
 | sl (sz:Nat) (es:List (List D))
 | emp
 | eN (v g sz off len:Nat)
 | ptr (v g off:Nat)
 | eZ (cs:List D)
 | omap (v:Nat)
 | fn (fn:Fn) (first captured:List D)
 | gO (v:Nat)
 deriving Inhabited
abbrev D.i(n:Int):D:=.val (.int .i64 n)
abbrev D.b(x:Bool):D:=.val (.bool x)
abbrev Env:=List (Nat×D)
def Env.get:Env→Nat→D
 | [],_=>.any
 | (k,d)::r,j=>match Nat.beq k j with
  | true=>d
  | false=>Env.get r j
theorem Env.qX(k:Nat)(d:D)(r:Env)(j:Nat):Env.get ((k,d)::r) j=if k=j then d else Env.get r j:=by
 simp only[Env.get]
 by_cases h:k=j
 ·rw[if_pos h,h,Nat.beq_refl]
 ·have:Nat.beq k j=false:=by
   cases hb:Nat.beq k j with
   | false=>rfl
   | true=>exact absurd (cN hb) h
  rw[if_neg h,this]
structure Loc where
 b:Nat
 base:Nat
 top:Nat
 ij:Bool:=false
structure Ctx where
 ι:Nat→Nat→Option Loc
 F:Nat→Prop
 RT:Nat→Option (Nat×Array Tmp×Code×Code)
inductive eP(c:Ctx)(w:World):Value→D→Prop
 | any (v:Value):eP c w v .any
 | val (v:Value):eP c w v (.val v)
 | agg (vs:List Value) (ds:List D) (hl:vs.length=ds.length) (h1:∀ v∈vs,v.oneCell'=true)
   (h:∀ (i:Nat) (v:Value) (d:D),vs[i]? = some v→ds[i]? = some d→eP c w v d):eP c w (.agg vs.toArray) (.agg ds)
 | tup (vs:List Value) (ds:List D) (hl:vs.length=ds.length)
   (h:∀ (i:Nat) (v:Value) (d:D),vs[i]? = some v→ds[i]? = some d→eP c w v d):eP c w (.tuple vs.toArray) (.tup ds)
 | sl (a:Option Addr) (len cap sz:Nat) (es:List (List D)) (g:Nat→Nat→Value)
   (hlen:es.length=len) (iE:len≤cap) (iW:cap≤maxLen) (gj:∀ e∈es,e.length=sz)
   (my:a=none→cap=0)
   (hc:∀ (i:Nat) (e:List D) (j:Nat) (d:D),es[i]? = some e→e[j]? = some d→∃ b o,a=some ⟨b,o,none⟩∧c.F b∧w.cell? ⟨b,o+(i*sz+j),none⟩=some (g i j)∧(g i j).oneCell'=true)
   (hr:∀ (i:Nat) (e:List D) (j:Nat) (d:D),es[i]? = some e→e[j]? = some d→eP c w (g i j) d):eP c w (.slice a len cap) (.sl sz es)
 | emp:eP c w (.slice none 0 0) .emp
 | eN (v k sz off len cap:Nat) (L:Loc) (eU:c.ι v k=some L) (hv:L.ij=false) (iE:len≤cap) (iW:cap≤maxLen)
   (jO:L.base+(off+cap)*sz=L.top):eP c w (.slice (some ⟨L.b,L.base+off*sz,none⟩) len cap) (.eN v k sz off len)
 | kT (v k sz off:Nat) (L:Loc) (eU:c.ι v k=some L) (a:Option Addr):eP c w (.slice a 0 0) (.eN v k sz off 0)
 | ptr (v k off:Nat) (L:Loc) (eU:c.ι v k=some L) (hv:L.ij=false):eP c w (.pointer (some ⟨L.b,L.base+off,none⟩)) (.ptr v k off)
 | eZ (b o:Nat) (cs:List D) (g:Nat→Value) (hF:c.F b)
   (hc:∀ (j:Nat) (d:D),cs[j]? = some d→w.cell? ⟨b,o+j,none⟩=some (g j)∧(g j).oneCell'=true)
   (hr:∀ (j:Nat) (d:D),cs[j]? = some d→eP c w (g j) d):eP c w (.pointer (some ⟨b,o,none⟩)) (.eZ cs)
 | omap (v:Nat) (L:Loc) (eU:c.ι v 0=some L) (hv:L.ij=false):eP c w (.map (some L.b)) (.omap v)
 | fn (fn:Fn) (fs cs:List Value) (df dc:List D) (ib:fs.length=df.length) (gS:cs.length=dc.length)
   (h1:∀ (i:Nat) (v:Value) (d:D),fs[i]? = some v→df[i]? = some d→eP c w v d)
   (h2:∀ (i:Nat) (v:Value) (d:D),cs[i]? = some v→dc[i]? = some d→eP c w v d):eP c w (.func fn fs.toArray cs.toArray) (.fn fn df dc)
 | gO (v:Nat) (L:Loc) (eU:c.ι v 0=some L) (hv:L.ij=false):eP c w (.func (.yield L.b) #[] #[]) (.gO v)
inductive KK where
 | int (k:IntKind)
 | str
 | bool
 | ints (l:List IntKind)
 deriving Inhabited,DecidableEq
def Od:List IntKind→List Value→Bool
 | [],[]=>true
 | k::ks,.int k' _::vs=>k == k'&&Od ks vs
 | _,_=>false
def KK.has:KK→Value→Bool
 | .int k,.int k' _=>k == k'
 | .str,.string _=>true
 | .bool,.bool _=>true
 | .ints l,.agg cs=>Od l cs.toList
 | _,_=>false
inductive oZ where
 | ready|busy|uS|tt (id:Nat)
 deriving Inhabited,DecidableEq
inductive Ob where
 | row (t:TypeId) (g:Nat) (cs:List D)
 | map (kk:KK) (es:List (Value×D))
 | fZ (rf:Nat) (env:Env) (st:oZ)
 | oX (s:ByteArray) (pos:Nat)
 | jt (m:D) (since:Nat) (seen:List Nat)
 | jL
 | dead
 | hole
 deriving Inhabited
def Ob.alive:Ob→Bool
 | .dead | .hole=>false
 | _=>true
def Ob.gen:Ob→Nat
 | .row _ g _=>g
 | _=>0
abbrev U:=List Ob
def jB(c:Ctx)(H:U)(v:Nat)(L:Loc):Prop:=∃ o,H[v]? = some o∧o.alive=true∧c.ι v o.gen=some L
def jS(c:Ctx)(H:U)(b:Nat):Prop:=∃ v L,jB c H v L∧L.ij=false∧L.b=b
def yG(c:Ctx)(w:World)(arr:Array MapEntry)(clock:Nat)(es:List (Value×D)):Prop:=
 arr.size=es.length∧(∀ (i:Nat) (e:MapEntry) (x:Value×D),arr[i]? = some e→es[i]? = some x→e.key=x.1∧eP c w e.val x.2∧e.born=i)∧clock=es.length
def oZ.is:oZ→Loop→Prop
 | .ready,r=>r.state = .ready∧r.pending=none
 | .busy,r=>r.state = .busy
 | .uS,r=>r.state = .done∧r.pending=some .ret
 | .tt id,r=>r.state = .done∧r.pending=some (.exit id)
def fJ(c:Ctx)(w:World):Option Loc→Ob→Prop
 | _,.dead=>True
 | L,.hole=>L=none
 | none,_=>False
 | some L,.row t _ cs=>if L.ij then cs = []else
   ∃ arr:Array Value,w.heap[L.b]? = some (.cells arr t (0,0))∧L.top=arr.size∧L.base+cs.length≤L.top ∧
    ∀ (i:Nat) (d:D),cs[i]? = some d→∃ v,arr[L.base+i]? = some v∧v.oneCell'=true∧eP c w v d
 | some L,.map kk es=>L.ij=false∧(∀ x∈es,kk.has x.1=true)∧∃ arr clock,w.heap[L.b]? = some (.map arr clock)∧yG c w arr clock es
 | some L,.fZ rf env st=>L.ij=false∧∃ r:Loop,w.heap[L.b]? = some (.loop r)∧(∀ k,eP c w (r.tmps.getD k undef) (env.get k)) ∧
   (∃ N,c.RT rf=some (N,r.params,r.assign,r.body)∧N≤r.tmps.size)∧st.is r
 | some L,.oX s p=>L.ij=false∧L.base=0∧w.heap[L.b]? = some (.stringIter s p)
 | some L,.jt m since seen=>L.ij=false∧L.base=0∧∃ bm:Nat,eP c w (.map (some bm)) m∧w.heap[L.b]? = some (.mapIter (some bm) since seen.toArray since)
 | some L,.jL=>L.ij=true∨w.heap[L.b]? = some (.deferred (some []))
structure HeapOK(c:Ctx)(H:U)(w:World):Prop where
 inj:∀ v v' L L',jB c H v L→jB c H v' L'→L.ij=false→L'.ij=false→L.b=L'.b→v=v'
 lt:∀ b,jS c H b→b<w.heap.size
 nF:∀ b,jS c H b→¬ c.F b
 iQ:∀ b,c.F b→b<w.heap.size
 out:∀ v k,H.length≤v→c.ι v k=none
 jU:∀ v o k,H[v]? = some o→(o = .hole∨(o.alive=true∧o.gen<k))→c.ι v k=none
 ob:∀ (v:Nat) (o:Ob),H[v]? = some o→fJ c w (c.ι v o.gen) o
structure Step(n:Nat)(c:Ctx)(H:U)(w:World)(c':Ctx)(H':U)(w':World):Prop where
 os:w'.os=w.os∧w.drawn≤w'.drawn
 tape:w'.tape=w.tape
 output:w'.output=w.output
 size:w.heap.size≤w'.heap.size
 RT:c'.RT=c.RT
 Fm:∀ b,c.F b→c'.F b
 Fn:∀ b,c'.F b→c.F b∨w.heap.size≤b∨jS c H b
 kept:∀ b,b<w.heap.size→¬ jS c H b→w'.heap[b]? = w.heap[b]?
 old:∀ v k L,v<n→c.ι v k=some L→c'.ι v k=some L
 own:∀ b,jS c' H' b→w.heap.size≤b∨jS c H b
theorem Step.refl(n:Nat)(c:Ctx)(H:U)(w:World):Step n c H w c H w:=
 ⟨⟨rfl,Nat.le_refl _⟩,rfl,rfl,Nat.le_refl _,rfl,fun _ h=>h,fun _ h=>.inl h,fun _ _ _=>rfl,fun _ _ _ _ h=>h,fun _ h=>.inr h⟩
theorem Step.trans{n m:Nat}{c c1 c2:Ctx}{H H1 H2:U}{w w1 w2:World}(h1:Step n c H w c1 H1 w1)(h2:Step m c1 H1 w1 c2 H2 w2)(hm:n≤m) :
  Step n c H w c2 H2 w2 where
 os:=⟨h2.os.1.trans h1.os.1,Nat.le_trans h1.os.2 h2.os.2⟩
 tape:=h2.tape.trans h1.tape
 output:=h2.output.trans h1.output
 size:=Nat.le_trans h1.size h2.size
 RT:=h2.RT.trans h1.RT
 Fm b h:=h2.Fm b (h1.Fm b h)
 Fn b h:=by
  rcases h2.Fn b h with h|h|h
  ·exact h1.Fn b h
  ·exact .inr (.inl (Nat.le_trans h1.size h))
  ·rcases h1.own b h with h|h
   ·exact .inr (.inl h)
   ·exact .inr (.inr h)
 kept b hb hn:=by
  rw[h2.kept b (aK hb h1.size) (fun ho=>?_),h1.kept b hb hn]
  rcases h1.own b ho with h|h
  ·omega
  ·exact hn h
 old v k L hv h:=h2.old v k L (by omega) (h1.old v k L hv h)
 own b h:=by
  rcases h2.own b h with h|h
  ·exact .inl (Nat.le_trans h1.size h)
  ·exact h1.own b h
theorem Step.weaken{n m:Nat}{c c':Ctx}{H H':U}{w w':World}(h:Step n c H w c' H' w')(hm:m≤n):Step m c H w c' H' w':=
 { h with old:=fun v k L hv=>h.old v k L (by omega) }
theorem yW{w w':World}{a:Addr}(h:w'.heap[a.block]? = w.heap[a.block]?):w'.cell? a=w.cell? a:=by simp[World.cell?,h]
theorem eP.carry{c c':Ctx}{w w':World}(eU:∀ v k L,c.ι v k=some L→c'.ι v k=some L)(hF:∀ b,c.F b→c'.F b)
  (w9:∀ b o,c.F b→w'.cell? ⟨b,o,none⟩=w.cell? ⟨b,o,none⟩) {v:Value} {d:D} (h:eP c w v d):eP c' w' v d:=by
 induction h with
 | any v=>exact .any _
 | val v=>exact .val _
 | agg vs ds hl h1 h ih=>exact .agg vs _ hl h1 ih
 | tup vs ds hl h ih=>exact .tup vs _ hl ih
 | sl a len cap sz es g hlen iE iW gj my hc hr ih=>
  refine .sl a len cap sz _ g hlen iE iW gj my ?_ ih
  intro i e j d he hd
  obtain⟨b,o,ha,o7,vh,h1⟩:=hc i e j d he hd
  exact⟨b,o,ha,hF b o7,by rw[w9 b _ o7];exact vh,h1⟩
 | emp=>exact .emp
 | eN v k sz off len cap L h hv iE iW jO=>exact .eN v k sz off len cap L (eU _ _ _ h) hv iE iW jO
 | kT v k sz off L h a=>exact .kT v k sz off L (eU _ _ _ h) a
 | ptr v k off L h hv=>exact .ptr v k off L (eU _ _ _ h) hv
 | eZ b o cs g o7 hc hr ih=>
  refine .eZ b o _ g (hF b o7) ?_ ih
  intro j d hd
  rw[w9 b _ o7]
  exact hc j d hd
 | omap v L h hv=>exact .omap v L (eU _ _ _ h) hv
 | fn f fs cs df dc ib gS h1 h2 ow pf=>exact .fn f fs cs _ _ ib gS ow pf
 | gO v L h hv=>exact .gO v L (eU _ _ _ h) hv
theorem eP.step{n:Nat}{c c':Ctx}{H H':U}{w w':World}(hH:HeapOK c H w)(hs:Step n c H w c' H' w')(hn:H.length≤n){v:Value}{d:D}(h:eP c w v d) :
  eP c' w' v d:=by
 refine h.carry (fun v k L hL=>hs.old v k L ?_ hL) hs.Fm (fun b o hF=>yW (hs.kept b (hH.iQ b hF) (fun ho=>hH.nF b ho hF)))
 rcases bh v H.length with h|h
 ·omega
 ·rw[hH.out v k h]at hL;cases hL
theorem eP.nA{c c':Ctx}{H H':U}{w w':World}(hH:HeapOK c H w)(hs:Step H.length c H w c' H' w'){v:Value}{d:D}(h:eP c w v d):eP c' w' v d:=
 h.step hH hs (Nat.le_refl _)
inductive X where
 | t (k:Nat)
 | c (d:D)
 deriving Inhabited
abbrev fD:=Nat→D
def ev(env:fD):X→D
 | .t k=>env k
 | .c d=>d
def cellsOf:D→Option (List D)
 | .agg cs=>some cs
 | .any | .tup _=>none
 | .val v=>if v.oneCell' then some [.val v]else none
 | d=>some [d]
def one:D→Bool
 | .any | .tup _ | .agg _=>false
 | .val v=>v.oneCell'
 | _=>true
mutual
def closed:D→Bool
 | .any | .val _ | .emp=>true
 | .agg cs | .tup cs | .eZ cs=>fm cs
 | .sl _ es=>wL es
 | .eN .. | .ptr .. | .omap _ | .gO _=>false
 | .fn _ a b=>fm a&&fm b
def fm:List D→Bool
 | []=>true
 | d::ds=>closed d&&fm ds
def wL:List (List D)→Bool
 | []=>true
 | e::es=>fm e&&wL es
end
def ox:Value→Value→Bool
 | .int k a,.int k' b=>k == k'&&a == b
 | .string a,.string b=>a == b
 | .bool a,.bool b=>a == b
 | .agg a,.agg b=>a.size == b.size&&(a.toList.zip b.toList).all fun(x,y)=>match x,y with
  | .int k a,.int k' b=>k == k'&&a == b
  | _,_=>false
 | _,_=>false
def Ao:List D→Option (List Value)
 | []=>some []
 | .val (.int k n)::r=>(Ao r).map (.int k n :: ·)
 | _::_=>none
def keyOf:D→Option Value
 | .val (.int k n)=>some (.int k n)
 | .val (.string s)=>some (.string s)
 | .val (.bool b)=>some (.bool b)
 | .agg cs=>(Ao cs).map fun l=>.agg l.toArray
 | _=>none
def ny:List (Value×D)→Value→Option D
 | [],_=>none
 | (k,d)::r,j=>if ox j k then some d else ny r j
def kl:List (Value×D)→Value→D→List (Value×D)
 | [],j,x=>[(j,x)]
 | (k,d)::r,j,x=>if ox j k then(j,x)::r else(k,d)::kl r j x
inductive mi where
 | int|bool|str
 deriving Inhabited,DecidableEq
inductive uF where
 | slice|string|map
 deriving Inhabited,DecidableEq
inductive gp where
 | mv (x:X)
 | pick (c a b:X)
 | box (t:TypeId) (x:X)
 | alloc (t:TypeId) (z:List D)
 | build (z:List D) (ps:List (Nat×Nat×X))
 | buildSl (t sz:Nat) (z:List D) (n:Nat) (ps:List (Nat×X))
 | ld1 (x:X)
 | ldN (n:Nat) (x:X)
 | st1 (a x:X)
 | stN (n:Nat) (a x:X)
 | nilck (x:X)
 | arith (op:BinOp) (x y:X)
 | eqS (ie:Bool) (ls:List mi) (neg:Bool) (x y:X)
 | un (op:UnOp) (x:X)
 | conv (k:IntKind) (x:X)
 | b2s (x:X)
 | mkfn (fn:Fn) (first captured:List X)
 | mkmap (kk:KK)
 | mksl (t sz bytes:Nat) (z:List D) (l c:X)
 | slc (sz:Nat) (x:X) (lo hi:Option X)
 | slcS (x:X) (lo hi:Option X)
 | fieldA (off:Nat) (x:X)
 | field (off n:Nat) (ie:Bool) (x:X)
 | idxA (sz:Nat) (x i:X)
 | idxArr (sz n:Nat) (x i:X)
 | idx (sz n:Nat) (ie:Bool) (x i:X)
 | idxStr (x i:X)
 | lookup (kk:KK) (z:D) (ok:Bool) (m k:X)
 | mapUpd (kk:KK) (m k v:X)
 | ext (x:X) (i:Nat)
 | call (f:FuncId) (args:List X)
 | callN (f:FuncId) (args:List X)
 | callv (f:X) (args:List X)
 | app (t sz bytes:Nat) (x y:X)
 | copy (sz:Nat) (x y:X)
 | len (k:uF) (x:X)
 | minmax (isMax:Bool) (xs:List X)
 | nilS (neg:Bool) (x:X)
 | capE (x:X)
 | appZ (t sz bytes:Nat) (z:List D) (x n:X)
 | clr (sz:Nat) (z:List D) (x:X)
 | rangeS (x:X)
 | nextS (x:X)
 | rangeM (x:X)
 | nextM (x:X)
 | entry (x:X)
 deriving Inhabited
structure fo where
 dst:Option Nat
 op:gp
 guard:Option (Nat×Bool):=none
 deriving Inhabited
structure GT where
 g:Nat→Option (List D)
 rt:Nat→Option (Nat×Array Tmp×Code×Code)
 nw:FuncId→Bool:=fun _=>false
instance:CoeFun GT (fun _=>Nat→Option (List D)):=⟨GT.g⟩
inductive gY(c:Ctx)(w:World):List Value→List D→Prop
 | nil:gY c w [] []
 | cons {v d vs ds} (h:eP c w v d) (t:gY c w vs ds):gY c w (v::vs) (d::ds)
structure e9(G:GT)(c:Ctx)(H:U)(w:World):Prop extends HeapOK c H w where
 gl:∀ (g:Nat) (cs:List D),G g=some cs→fm cs=true∧eP c w (.pointer (some ⟨g,0,none⟩)) (.eZ cs)
 rt:c.RT=G.rt
abbrev ik:=D→U→Prop
abbrev Al:=Nat×(Ob→U)
def Al.last(H:U):Al:=(H.length,fun ob=>H ++ [ob])
def Al.hole(H:U)(v:Nat):Al:=(v,fun ob=>H.set v ob)
def lx(n:Int):Prop := -9223372036854775808≤n∧n≤9223372036854775807
def yL(op:BinOp)(k:IntKind)(a b:Int)(H:U)(K:ik):Prop:=
 match op with
 | .add=>if k = .i64 then lx (a+b)∧K (.val (.int .i64 (a+b))) H else K (.val (.int k (k.wrap (a+b)))) H
 | .sub=>if k = .i64 then lx (a-b)∧K (.val (.int .i64 (a-b))) H else K (.val (.int k (k.wrap (a-b)))) H
 | .mul=>if k = .i64 then lx (a*b)∧K (.val (.int .i64 (a*b))) H else K (.val (.int k (k.wrap (a*b)))) H
 | .quo=>b≠0∧K (.val (.int k (k.wrap (a.tdiv b)))) H
 | .rem=>b≠0∧K (.val (.int k (a.tmod b))) H
 | .and | .or | .xor | .andNot=>K (.val (.int k (bits op k a b))) H
 | .eql=>K (.val (.bool (a == b))) H
 | .neq=>K (.val (.bool (a != b))) H
 | .lss=>K (.val (.bool (decide (a<b)))) H
 | .leq=>K (.val (.bool (decide (a≤b)))) H
 | .gtr=>K (.val (.bool (decide (a>b)))) H
 | .geq=>K (.val (.bool (decide (a≥b)))) H
 | _=>False
def A9(op:BinOp)(k:IntKind)(a b:Int)(H:U)(K:ik):Prop:=
 match op with
 | .shl=>0≤b∧K (.val (.int k (k.wrap (a*2 ^ (min b.toNat k.bits))))) H
 | .shr=>0≤b∧K (.val (.int k (a.fdiv (2 ^ (min b.toNat k.bits))))) H
 | _=>False
def nk:BinOp→Bool
 | .shl | .shr=>true
 | _=>false
def Gt(op:BinOp)(a b:ByteArray)(H:U)(K:ik):Prop:=
 match op with
 | .eql=>K (.val (.bool (a.data.toList == b.data.toList))) H
 | .neq=>K (.val (.bool (!(a.data.toList == b.data.toList)))) H
 | .add=>((a.size+b.size:Nat):Int)≤9223372036854775807∧K (.val (.string (a++b))) H
 | _=>False
def yQ(op:BinOp)(x y:D)(H:U)(K:ik):Prop:=
 match x,y with
 | .val (.int k a),.val (.int k' b)=>if nk op then A9 op k a b H K else k=k'∧yL op k a b H K
 | .val (.string a),.val (.string b)=>Gt op a b H K
 | _,_=>False
def Bm(op:UnOp)(x:D)(H:U)(K:ik):Prop:=
 match op,x with
 | .not,.val (.bool b)=>K (.val (.bool (!b))) H
 | .neg,.val (.int .i64 n)=>lx (-n)∧K (.val (.int .i64 (-n))) H
 | .xor,.val (.int k n)=>K (.val (.int k (bits .xor k (if k.signed then -1 else k.max) n))) H
 | _,_=>False
def p8:mi→D→D→Option Bool
 | .int,.val (.int k a),.val (.int k' b)=>if k=k' then some (a == b)else none
 | .bool,.val (.bool a),.val (.bool b)=>some (a == b)
 | .str,.val (.string a),.val (.string b)=>some (a.data.toList == b.data.toList)
 | _,_,_=>none
def lV:List mi→List D→List D→Option Bool
 | [],[],[]=>some true
 | l::ls,x::xs,y::ys=>match p8 l x y,lV ls xs ys with
  | some a,some b=>some (a&&b)
  | _,_=>none
 | _,_,_=>none
def tv(ie:Bool)(ls:List mi)(neg:Bool)(x y:D)(H:U)(K:ik):Prop:=
 match ie,x,y with
 | true,.agg a,.agg b=>match lV ls a b with
  | some r=>K (.val (.bool (if neg then !r else r))) H
  | none=>False
 | false,x,y=>match lV ls [x] [y]with
  | some r=>K (.val (.bool (if neg then !r else r))) H
  | none=>False
 | _,_,_=>False
def AJ(c a b:D)(H:U)(K:ik):Prop:=
 match c with
 | .val (.bool x)=>K (if x then a else b) H
 | _=>False
def rowAt(H:U)(v k:Nat):Option (TypeId×List D):=match H[v]? with
 | some (.row t g cs)=>if g=k then some (t,cs)else none
 | _=>none
def Ap(x:D)(H:U)(K:ik):Prop:=
 match x with
 | .ptr v g o=>match rowAt H v g with
  | some (_,cs)=>match cs[o]? with
   | some d=>K d H
   | none=>False
  | none=>False
 | .eZ cs=>match cs[0]? with
  | some d=>K d H
  | none=>False
 | _=>False
def Aq(n:Nat)(x:D)(H:U)(K:ik):Prop:=
 match x with
 | .ptr v g o=>match rowAt H v g with
  | some (_,cs)=>o+n≤cs.length∧K (.agg ((cs.drop o).take n)) H
  | none=>False
 | .eZ cs=>n≤cs.length∧K (.agg (cs.take n)) H
 | _=>False
def Bc(a x:D)(H:U)(K:ik):Prop:=
 match a with
 | .ptr v g o=>match rowAt H v g with
  | some (t,cs)=>o<cs.length∧one x=true∧K .any (H.set v (.row t g (cs.set o x)))
  | none=>False
 | _=>False
def Bd(n:Nat)(a x:D)(H:U)(K:ik):Prop:=
 match a,cellsOf x with
 | .ptr v g o,some xs=>match rowAt H v g with
  | some (t,cs)=>xs.length=n∧o+n≤cs.length∧K .any (H.set v (.row t g (cs.take o++xs++cs.drop (o+n))))
  | none=>False
 | _,_=>False
def yR(t:TypeId)(x:D)(al:Al)(K:ik):Prop:=
 match cellsOf x with
 | some cs=>K (.ptr al.1 0 0) (al.2 (.row t 0 cs))
 | none=>False
def lay:List (Nat×Nat×List D)→List D→Option (List D)
 | [],cs=>some cs
 | (o,n,xs)::r,cs=>if xs.length=n∧o+n≤cs.length then lay r (cs.take o++xs++cs.drop (o+n))else none
def partsOf(env:fD):List (Nat×Nat×X)→Option (List (Nat×Nat×List D))
 | []=>some []
 | (o,n,x)::r=>match cellsOf (ev env x),partsOf env r with
  | some cs,some l=>some ((o,n,cs)::l)
  | _,_=>none
def uL(env:fD)(z:List D)(ps:List (Nat×Nat×X))(H:U)(K:ik):Prop:=
 match partsOf env ps with
 | some l=>match lay l z with
  | some cs=>K (.agg cs) H
  | none=>False
 | none=>False
def yS(env:fD)(t sz:Nat)(z:List D)(n:Nat)(ps:List (Nat×X))(al:Al)(K:ik):Prop:=
 match partsOf env (ps.map fun p=>(p.1*sz,sz,p.2))with
 | some l=>match lay l (List.replicate n z).flatten with
  | some cs=>K (.eN al.1 0 sz 0 n) (al.2 (.row t 0 cs))
  | none=>False
 | none=>False
def zi(off:Nat)(x:D)(H:U)(K:ik):Prop:=
 match x with
 | .ptr v g o=>K (.ptr v g (o+off)) H
 | .eZ cs=>K (.eZ (cs.drop off)) H
 | _=>False
def u0(off n:Nat)(ie:Bool)(x:D)(H:U)(K:ik):Prop:=
 match x with
 | .agg cs=>if ie then off+n≤cs.length∧K (.agg ((cs.drop off).take n)) H else match cs[off]? with
  | some d=>K d H
  | none=>False
 | _=>False
def Ag(sz:Nat)(x i:D)(H:U)(K:ik):Prop:=
 match x,i with
 | .sl fG es,.val (.int _ n)=>fG=sz∧(0≤n∧n<es.length)∧K (.eZ (es.getD n.toNat [])) H
 | .eN v g fG off len,.val (.int _ n)=>fG=sz∧(0≤n∧n<len)∧K (.ptr v g ((off+n.toNat)*sz)) H
 | _,_=>False
def Ah(sz n:Nat)(x i:D)(H:U)(K:ik):Prop:=
 match x,i with
 | .ptr v g o,.val (.int _ k)=>(0≤k∧k<n)∧K (.ptr v g (o+k.toNat*sz)) H
 | .eZ cs,.val (.int _ k)=>(0≤k∧k<n)∧K (.eZ (cs.drop (k.toNat*sz))) H
 | _,_=>False
def Aj(sz n:Nat)(ie:Bool)(x i:D)(H:U)(K:ik):Prop:=
 match x,i with
 | .agg cs,.val (.int _ k)=>(0≤k∧k<n)∧u0 (k.toNat*sz) sz ie (.agg cs) H K
 | _,_=>False
def Ak(x i:D)(H:U)(K:ik):Prop:=
 match x,i with
 | .val (.string s),.val (.int _ k)=>(0≤k∧k<s.size)∧K (.val (.int .u8 ((s.data.toList.getD k.toNat 0).toNat))) H
 | _,_=>False
def jW(H:U)(v:Nat):Option (KK×List (Value×D)):=match H[v]? with
 | some (.map kk es)=>some (kk,es)
 | _=>none
def Au(oT:KK)(z:D)(ok:Bool)(m k:D)(H:U)(K:ik):Prop:=
 match m,keyOf k with
 | .omap v,some kv=>match jW H v with
  | some (kk,es)=>kk=oT∧kk.has kv=true∧(match ny es kv with
    | some d=>K (if ok then .tup [d,.val (.bool true)]else d) H
    | none=>K (if ok then .tup [z,.val (.bool false)]else z) H)
  | none=>False
 | _,_=>False
def Aw(oT:KK)(m k x:D)(H:U)(K:ik):Prop:=
 match m,keyOf k with
 | .omap v,some kv=>match jW H v with
  | some (kk,es)=>kk=oT∧kk.has kv=true∧K .any (H.set v (.map kk (kl es kv x)))
  | none=>False
 | _,_=>False
def zh(x:D)(i:Nat)(H:U)(K:ik):Prop:=
 match x with
 | .tup ds=>match ds[i]? with
  | some d=>K d H
  | none=>False
 | _=>False
def AB(t sz bytes:Nat)(z:List D)(l c:D)(al:Al)(K:ik):Prop:=
 match l,c with
 | .val (.int _ n),.val (.int _ m)=>(0≤n∧n≤m∧m≤9223372036854775807∧(bytes:Int)*m≤281474976710656)∧K (.eN al.1 0 sz 0 n.toNat) (al.2 (.row t 0 (List.replicate m.toNat z).flatten))
 | _,_=>False
def gZ(env:fD):Option X→Int→Option Int
 | none,n=>some n
 | some x,_=>match ev env x with
  | .val (.int _ n)=>some n
  | _=>none
def A'(env:fD)(sz:Nat)(x:D)(lo hi:Option X)(H:U)(K:ik):Prop:=
 match x with
 | .sl fG es=>match gZ env lo 0,gZ env hi es.length with
  | some l,some h=>fG=sz∧(0≤l∧l≤h∧h≤es.length)∧K (.sl sz ((es.drop l.toNat).take (h.toNat-l.toNat))) H
  | _,_=>False
 | .eN v g fG off len=>match gZ env lo 0,gZ env hi len with
  | some l,some h=>fG=sz∧(0≤l∧l≤h∧h≤len)∧K (.eN v g sz (off+l.toNat) (h.toNat-l.toNat)) H
  | _,_=>False
 | .emp=>match gZ env lo 0,gZ env hi 0 with
  | some l,some h=>(l=0∧h=0)∧K .emp H
  | _,_=>False
 | _=>False
def xZ(env:fD)(x:D)(lo hi:Option X)(H:U)(K:ik):Prop:=
 match x with
 | .val (.string s)=>match gZ env lo 0,gZ env hi s.size with
  | some l,some h=>(0≤l∧l≤h∧h≤s.size)∧K (.val (.string (s.extract l.toNat h.toNat))) H
  | _,_=>False
 | _=>False
def jx(sz:Nat)(H:U):D→Option (List D×Nat)
 | .sl fG es=>if fG=sz then some (es.flatten,es.length)else none
 | .emp=>some ([],0)
 | .eN v g fG off len=>match rowAt H v g with
  | some (_,cs)=>if fG=sz∧(off+len)*sz≤cs.length then some ((cs.drop (off*sz)).take (len*sz),len)else none
  | none=>none
 | _=>none
def yK(t sz bytes:Nat)(x y:D)(H:U)(al:Al)(K:ik):Prop:=
 match jx sz H y with
 | some (ys,n)=>match x with
  | .eN v g fG off len=>match rowAt H v g with
   | some (t',cs)=>(fG=sz∧t'=t∧(off+len)*sz≤cs.length∧(len+n)*bytes≤140737488355328∧len+n≤9223372036854775807) ∧
     K (.eN v (g+1) sz 0 (len+n)) (H.set v (.row t (g+1) ((cs.drop (off*sz)).take (len*sz)++ys)))
   | none=>False
  | .emp=>if n=0 then K .emp H else(n*bytes≤140737488355328∧n≤9223372036854775807)∧K (.eN al.1 0 sz 0 n) (al.2 (.row t 0 ys))
  | _=>False
 | none=>False
def zb(sz:Nat)(x y:D)(H:U)(K:ik):Prop:=
 match x,jx sz H y with
 | .eN v g fG off len,some (ys,n)=>match rowAt H v g with
  | some (t,cs)=>(fG=sz∧(off+len)*sz≤cs.length) ∧
    K (.val (.int .i64 (min n len:Nat))) (H.set v (.row t g (cs.take (off*sz)++ys.take (min n len*sz)++cs.drop (off*sz+min n len*sz))))
  | none=>False
 | .emp,some _=>K (.val (.int .i64 0)) H
 | _,_=>False
def Ar(k:uF)(x:D)(H:U)(K:ik):Prop:=
 match k,x with
 | .slice,.sl _ es=>K (.val (.int .i64 es.length)) H
 | .slice,.emp=>K (.val (.int .i64 0)) H
 | .slice,.eN _ _ _ _ len=>K (.val (.int .i64 len)) H
 | .string,.val (.string s)=>K (.val (.int .i64 s.size)) H
 | .map,.omap v=>match jW H v with
  | some (_,es)=>K (.val (.int .i64 es.length)) H
  | none=>False
 | _,_=>False
def nQ(env:fD):List X→Option (List Int)
 | []=>some []
 | x::r=>match ev env x,nQ env r with
  | .val (.int .i64 n),some l=>some (n::l)
  | _,_=>none
def AA(env:fD)(isMax:Bool)(xs:List X)(H:U)(K:ik):Prop:=
 match nQ env xs with
 | some [a,b]=>K (.val (.int .i64 (if isMax then max a b else min a b))) H
 | some [a,b,c]=>K (.val (.int .i64 (if isMax then max (max a b) c else min (min a b) c))) H
 | _=>False
def AF(x:D)(H:U)(K:ik):Prop:=
 match x with
 | .ptr v g o=>K (.ptr v g o) H
 | .eZ cs=>K (.eZ cs) H
 | .fn (.func f) a b=>K (.fn (.func f) a b) H
 | .gO v=>K (.gO v) H
 | _=>False
def y8(k:IntKind)(x:D)(H:U)(K:ik):Prop:=
 match x with
 | .val (.int _ n)=>K (.val (.int k (k.wrap n))) H
 | _=>False
def bytesOf:List D→Option (List Int)
 | []=>some []
 | .val (.int .u8 n)::r=>match bytesOf r with
  | some l=>some (n::l)
  | none=>none
 | _=>none
def yN(x:D)(H:U)(K:ik):Prop:=
 match jx 1 H x with
 | some (ys,_)=>match bytesOf ys with
  | some ns=>K (.val (.string (ns.foldl (fun r n=>r.push (UInt8.ofNat n.toNat)) ByteArray.empty))) H
  | none=>False
 | none=>False
def yJ(env:fD)(H:U)(al:Al)(K:ik):gp→Prop
 | .mv x=>K (ev env x) H
 | .pick c a b=>AJ (ev env c) (ev env a) (ev env b) H K
 | .box t x=>yR t (ev env x) al K
 | .alloc t z=>K (.ptr al.1 0 0) (al.2 (.row t 0 z))
 | .build z ps=>uL env z ps H K
 | .buildSl t sz z n ps=>yS env t sz z n ps al K
 | .ld1 x=>Ap (ev env x) H K
 | .ldN n x=>Aq n (ev env x) H K
 | .st1 a x=>Bc (ev env a) (ev env x) H K
 | .stN n a x=>Bd n (ev env a) (ev env x) H K
 | .nilck x=>AF (ev env x) H K
 | .arith op x y=>yQ op (ev env x) (ev env y) H K
 | .eqS ie ls neg x y=>tv ie ls neg (ev env x) (ev env y) H K
 | .un op x=>Bm op (ev env x) H K
 | .conv k x=>y8 k (ev env x) H K
 | .b2s x=>yN (ev env x) H K
 | .mkfn f first cap=>K (.fn f (first.map (ev env)) (cap.map (ev env))) H
 | .mkmap kk=>K (.omap al.1) (al.2 (.map kk []))
 | .mksl t sz bytes z l c=>AB t sz bytes z (ev env l) (ev env c) al K
 | .slc sz x lo hi=>A' env sz (ev env x) lo hi H K
 | .slcS x lo hi=>xZ env (ev env x) lo hi H K
 | .fieldA off x=>zi off (ev env x) H K
 | .field off n ie x=>u0 off n ie (ev env x) H K
 | .idxA sz x i=>Ag sz (ev env x) (ev env i) H K
 | .idxArr sz n x i=>Ah sz n (ev env x) (ev env i) H K
 | .idx sz n ie x i=>Aj sz n ie (ev env x) (ev env i) H K
 | .idxStr x i=>Ak (ev env x) (ev env i) H K
 | .lookup kk z ok m k=>Au kk z ok (ev env m) (ev env k) H K
 | .mapUpd kk m k x=>Aw kk (ev env m) (ev env k) (ev env x) H K
 | .ext x i=>zh (ev env x) i H K
 | .call _ _ | .callN _ _ | .callv _ _=>False
 | .app t sz bytes x y=>yK t sz bytes (ev env x) (ev env y) H al K
 | .copy sz x y=>zb sz (ev env x) (ev env y) H K
 | .len k x=>Ar k (ev env x) H K
 | .minmax isMax xs=>AA env isMax xs H K
 | .nilS .. | .capE .. | .appZ .. | .clr .. | .rangeS .. | .nextS .. | .rangeM .. | .nextM .. | .entry .. => False
def put(env:Env)(dst:Option Nat)(d:D):Env:=match dst with
 | some k=>(k,d)::env
 | none=>env
def Ctx.set(c:Ctx)(v k:Nat)(L:Loc):Ctx:={ c with ι:=fun u l=>if u=v∧l=k then some L else c.ι u l }
theorem Ctx.py(c:Ctx)(v k:Nat)(L:Loc):(c.set v k L).ι v k=some L:=by simp[Ctx.set]
theorem Ctx.qC(c:Ctx){v k u l:Nat}(L:Loc)(h:¬ (u=v∧l=k)):(c.set v k L).ι u l=c.ι u l:=by simp only[Ctx.set];rw[if_neg h]
structure rL(H:U)(v:Nat)(ob:Ob)(H':U):Prop where
 get:∀ u,H'[u]? = if u=v then some ob else H[u]?
 free:H.length≤v∨H[v]? = some .hole
 len:H.length≤H'.length
theorem rL.last(H:U)(ob:Ob):rL H H.length ob (H ++ [ob]) where
 get u:=by
  split
  ·rename_i h;subst h;simp
  ·rename_i h
   rcases bh u H.length with h1|h1
   ·rw[ag h1]
   ·rw[aG (by simp;omega),aG h1]
 free:=.inl (Nat.le_refl _)
 len:=by simp
theorem rL.hole{H:U}{v:Nat}(h:H[v]? = some .hole)(ob:Ob):rL H v ob (H.set v ob) where
 get u:=by
  have:=(ae.1 h).1
  rw[bC]
  split
  ·rename_i e;subst e;simp[this]
  ·rename_i e;rw[if_neg (dB e)]
 free:=.inr h
 len:=by simp
def kH(H:U)(al:Al):Prop:=∀ ob,rL H al.1 ob (al.2 ob)
theorem kH.last(H:U):kH H (Al.last H):=fun ob=>rL.last H ob
theorem kH.hole{H:U}{v:Nat}(h:H[v]? = some .hole):kH H (Al.hole H v):=fun ob=>rL.hole h ob
structure iC(w w':World):Prop where
 os:w'.os=w.os∧w.drawn≤w'.drawn
 tape:w'.tape=w.tape
 output:w'.output=w.output
 size:w.heap.size≤w'.heap.size
 kept:∀ b,b<w.heap.size→w'.heap[b]? = w.heap[b]?
theorem iC.refl(w:World):iC w w:=⟨⟨rfl,Nat.le_refl _⟩,rfl,rfl,Nat.le_refl _,fun _ _=>rfl⟩
theorem iC.alloc(w:World)(o:Obj):iC w (w.alloc o):=
 ⟨⟨rfl,Nat.le_refl _⟩,rfl,rfl,by simp,fun b h=>by simp only[World.alloc,Array.getElem?_push];rw[if_neg (by omega)]⟩
theorem iC.trans{a b c:World}(h:iC a b)(k:iC b c):iC a c:=
 ⟨⟨k.os.1.trans h.os.1,Nat.le_trans h.os.2 k.os.2⟩,k.tape.trans h.tape,k.output.trans h.output,Nat.le_trans h.size k.size,fun i hi=>(k.kept i (aK hi h.size)).trans (h.kept i hi)⟩
theorem iC.drew(w:World):iC w w.drew:=⟨⟨rfl,Nat.le_succ _⟩,rfl,rfl,Nat.le_refl _,fun _ _=>rfl⟩
theorem x9(n:Nat){c:Ctx}{H:U}{w w':World}(hg:iC w w'):Step n c H w c H w':=
 ⟨hg.os,hg.tape,hg.output,hg.size,rfl,fun _ h=>h,fun _ h=>.inl h,fun b hb _=>hg.kept b hb,fun _ _ _ _ h=>h,fun _ h=>.inr h⟩
theorem yG.mono{c c':Ctx}{w w':World}(hr:∀ v d,eP c w v d→eP c' w' v d){arr:Array MapEntry}{clock:Nat}{es:List (Value×D)}(h:yG c w arr clock es):yG c' w' arr clock es:=
 ⟨h.1,fun i e x he hx=>let ⟨a,b,d⟩:=h.2.1 i e x he hx;⟨a,hr _ _ b,d⟩,h.2.2⟩
theorem fJ.mz{c c':Ctx}{w w':World}(qh:c'.RT=c.RT)(hr:∀ v d,eP c w v d→eP c' w' v d){L:Option Loc}{o:Ob}
  (hb:∀ l,L=some l→l.ij=false→o.alive=true→w'.heap[l.b]? = w.heap[l.b]?) (h:fJ c w L o):fJ c' w' L o:=by
 cases o with
 | dead=>simp[fJ]
 | hole=>simpa[fJ]using h
 | row t g cs=>
  cases L with
  | none=>simp[fJ]at h
  | some l=>
   simp only[fJ]at h ⊢
   split
   ·rename_i hv;simpa[hv]using h
   ·rename_i hv
    simp only[hv]at h
    obtain⟨arr,h1,h2,h3,h4⟩:=h
    refine⟨arr,by rw[hb l rfl (by simpa using hv) rfl];exact h1,h2,h3,fun i d hd=>?_⟩
    obtain⟨v,jP,mQ,vE⟩:=h4 i d hd
    exact⟨v,jP,mQ,hr _ _ vE⟩
 | map kk es=>
  cases L with
  | none=>simp[fJ]at h
  | some l=>
   simp only[fJ]at h ⊢
   obtain⟨hv,hk,arr,clock,h1,h2⟩:=h
   exact⟨hv,hk,arr,clock,by rw[hb l rfl hv rfl];exact h1,h2.mono hr⟩
 | fZ rf env st=>
  cases L with
  | none=>simp[fJ]at h
  | some l=>
   simp only[fJ]at h ⊢
   obtain⟨hv,r,h1,h2,h3,h4⟩:=h
   exact⟨hv,r,by rw[hb l rfl hv rfl];exact h1,fun k=>hr _ _ (h2 k),by rw[qh];exact h3,h4⟩
 | oX s p=>
  cases L with
  | none=>simp[fJ]at h
  | some l=>
   simp only[fJ]at h ⊢
   exact⟨h.1,h.2.1,by rw[hb l rfl h.1 rfl];exact h.2.2⟩
 | jt m since seen=>
  cases L with
  | none=>simp[fJ]at h
  | some l=>
   simp only[fJ]at h ⊢
   obtain⟨h1,h2,bm,h3,h4⟩:=h
   exact⟨h1,h2,bm,hr _ _ h3,by rw[hb l rfl h1 rfl];exact h4⟩
 | jL=>
  cases L with
  | none=>simp[fJ]at h
  | some l=>
   simp only[fJ]at h ⊢
   by_cases hv:l.ij=true
   ·exact .inl hv
   ·exact .inr (by rw[hb l rfl (by simpa using hv) rfl];exact h.resolve_left hv)
theorem e9.mL{G:GT}{c:Ctx}{H:U}{w w':World}(h:e9 G c H w)(hg:iC w w'):e9 G c H w':=by
 have hs:=x9 H.length (c:=c) (H:=H) hg
 have hr:∀ v d,eP c w v d→eP c w' v d:=fun v d hd=>hd.nA h.toHeapOK hs
 exact{
  inj:=h.inj
  lt:=fun b hb=>aK (h.lt b hb) hg.size
  nF:=h.nF
  iQ:=fun b hb=>aK (h.iQ b hb) hg.size
  out:=h.out
  jU:=h.jU
  ob:=fun v o ho=>(h.ob v o ho).mz rfl hr fun l hl hv hd=>hg.kept _ (h.lt _ ⟨v,l,⟨o,ho,hd,hl⟩,hv,rfl⟩)
  gl:=fun g cs vj=>let ⟨a,b⟩:=h.gl g cs vj;⟨a,hr _ _ b⟩
  rt:=h.rt }
structure s9(H:U)(v:Nat)(ob:Ob)(H':U):Prop where
 get:∀ u,H'[u]? = if u=v then some ob else H[u]?
 free:H.length≤v∨H[v]? = some .hole∨∃ o,H[v]? = some o∧o.alive=true∧o.gen<ob.gen
 len:H.length≤H'.length
theorem rL.pX{H:U}{v:Nat}{ob:Ob}{H':U}(h:rL H v ob H'):s9 H v ob H':=⟨h.get,h.free.imp id .inl,h.len⟩
theorem yd{c:Ctx}{H H':U}{v:Nat}{ob:Ob}{L:Loc}(ht:s9 H v ob H'){u:Nat}{l:Loc}(h:jB (c.set v ob.gen L) H' u l) :
  (u=v∧l=L)∨(u≠v∧jB c H u l):=by
 obtain⟨o,ho,ha,eU⟩:=h
 rw[ht.get]at ho
 split at ho
 ·rename_i e;cases ho;subst e;rw[Ctx.py]at eU;cases eU;exact .inl ⟨rfl,rfl⟩
 ·rename_i e
  rw[Ctx.qC _ _ (fun h=>e h.1)]at eU
  exact .inr ⟨e,o,ho,ha,eU⟩
theorem Qu{G:GT}{c:Ctx}{H H':U}{w:World}{v:Nat}{ob:Ob}(h:e9 G c H w)(ht:s9 H v ob H')(k:Nat)(hk:ob.gen≤k):c.ι v k=none:=by
 rcases ht.free with hf|hf|⟨o,ho,ha,hg⟩
 ·exact h.out v k hf
 ·exact h.jU v _ k hf (.inl rfl)
 ·exact h.jU v o k ho (.inr ⟨ha,by omega⟩)
theorem Qv{G:GT}{c:Ctx}{H H':U}{w:World}{v:Nat}{ob:Ob}{L:Loc}(h:e9 G c H w)(ht:s9 H v ob H')(u k:Nat)(l:Loc)(eU:c.ι u k=some l):(c.set v ob.gen L).ι u k=some l:=by
 rw[Ctx.qC]
 ·exact eU
 ·rintro⟨rfl,rfl⟩
  rw[Qu h ht _ (Nat.le_refl _)]at eU
  cases eU
theorem Gx{G:GT}{c:Ctx}{H H':U}{w w':World}{v:Nat}{ob:Ob}(h:e9 G c H w)(ht:s9 H v ob H')(hg:iC w w')(L:Loc)
  (hL:L.ij=false→w.heap.size≤L.b∧L.b<w'.heap.size):Step H.length c H w (c.set v ob.gen L) H' w' where
 os:=hg.os
 tape:=hg.tape
 output:=hg.output
 size:=hg.size
 RT:=rfl
 Fm _ h:=h
 Fn _ h:=.inl h
 kept b hb _:=hg.kept b hb
 old u k l _ eU:=Qv h ht u k l eU
 own b hb:=by
  obtain⟨u,l,hl,hv,e⟩:=hb
  rcases yd ht hl with⟨_,rfl⟩|⟨_,hl⟩
  ·exact .inl (e▸(hL hv).1)
  ·exact .inr ⟨u,l,hl,hv,e⟩
theorem Kl{G:GT}{c:Ctx}{H H':U}{w w':World}{v:Nat}{ob:Ob}(h:e9 G c H w)(ht:s9 H v ob H')(hg:iC w w')(L:Loc)
  (hL:L.ij=false→w.heap.size≤L.b∧L.b<w'.heap.size) (fO:ob.alive=true) (ga:fJ (c.set v ob.gen L) w' (some L) ob):e9 G (c.set v ob.gen L) H' w':=by
 have hs:=Gx h ht hg L hL
 have hr:∀ u d,eP c w u d→eP (c.set v ob.gen L) w' u d:=fun u d hd=>hd.nA h.toHeapOK hs
 have fj:∀ u l,jB c H u l→l.ij=false→l.b<w.heap.size:=fun u l hl hv=>h.lt _ ⟨u,l,hl,hv,rfl⟩
 have Vb:v<H'.length:=by
  have:=ht.get v
  rw[if_pos rfl]at this
  exact(ae.1 this).1
 exact{
  inj:=by
   intro u u' l l' h1 h2 h5 h6 he
   rcases yd ht h1 with⟨rfl,rfl⟩|⟨_,b⟩<;>rcases yd ht h2 with⟨rfl,rfl⟩|⟨_,b'⟩
   ·rfl
   ·have:=(hL h5).1;have:=fj _ _ b' h6;omega
   ·have:=(hL h6).1;have:=fj _ _ b h5;omega
   ·exact h.inj u u' l l' b b' h5 h6 he
  lt:=fun b hb=>by
   obtain⟨u,l,hl,hv,e⟩:=hb
   rcases yd ht hl with⟨_,rfl⟩|⟨_,hl⟩
   ·exact e▸(hL hv).2
   ·exact e▸aK (fj u l hl hv) hg.size
  nF:=fun b hb hF=>by
   obtain⟨u,l,hl,hv,e⟩:=hb
   rcases yd ht hl with⟨_,rfl⟩|⟨_,hl⟩
   ·have:=h.iQ b hF;have:=(hL hv).1;omega
   ·exact h.nF b ⟨u,l,hl,hv,e⟩ hF
  iQ:=fun b hb=>aK (h.iQ b hb) hg.size
  out:=fun u k hu=>by
   rw[Ctx.qC _ _ (by rintro⟨rfl,_⟩;omega)]
   exact h.out u k (Nat.le_trans ht.len hu)
  jU:=fun u o k ho hk=>by
   rw[ht.get]at ho
   split at ho
   ·rename_i e
    cases ho;subst e
    rcases hk with rfl|⟨_,hk⟩
    ·cases fO
    ·rw[Ctx.qC _ _ (by rintro⟨_,rfl⟩;omega)];exact Qu h ht k (by omega)
   ·rename_i e
    rw[Ctx.qC _ _ (fun h=>e h.1)]
    exact h.jU u o k ho hk
  ob:=fun u o ho=>by
   rw[ht.get]at ho
   split at ho
   ·rename_i e
    cases ho;subst e
    rw[Ctx.py];exact ga
   ·rename_i e
    rw[Ctx.qC _ _ (fun h=>e h.1)]
    exact fJ.mz (c:=c) (c':=c.set v ob.gen L) rfl hr (fun l hl hv hd=>hg.kept _ (fj u l ⟨o,ho,hd,hl⟩ hv)) (h.ob u o ho)
  gl:=fun g cs vj=>let ⟨a,b⟩:=h.gl g cs vj;⟨a,hr _ _ b⟩
  rt:=h.rt }
structure Cells(c:Ctx)(w:World)(vs:List Value)(cs:List D):Prop where
 len:vs.length=cs.length
 one:∀ v∈vs,v.oneCell'=true
 rep:∀ (i:Nat) (v:Value) (d:D),vs[i]? = some v→cs[i]? = some d→eP c w v d
theorem AD{G:GT}{c:Ctx}{H H':U}{v gen:Nat}{w:World}(h:e9 G c H w)(w0:World)(hg:iC w w0)(t:TypeId)(vs:List Value)(cs:List D)(n:Nat)(arr:Array Value)
  (ht:s9 H v (.row t gen cs) H') (hc:Cells c w vs cs) (ha:arr.toList.take n=vs) (hn:n≤arr.size) :
  ∃ L:Loc,L.ij=false∧L.b=w0.heap.size∧L.base=0∧L.top=arr.size ∧
   e9 G (c.set v gen L) H' (w0.alloc (.cells arr t))∧Step H.length c H w (c.set v gen L) H' (w0.alloc (.cells arr t)):=by
 have pb:=hg.trans (iC.alloc w0 (.cells arr t))
 refine⟨⟨w0.heap.size,0,arr.size,false⟩,rfl,rfl,rfl,rfl,?_⟩
 have hL:(⟨w0.heap.size,0,arr.size,false⟩:Loc).ij=false→w.heap.size≤(⟨w0.heap.size,0,arr.size,false⟩:Loc).b∧(⟨w0.heap.size,0,arr.size,false⟩:Loc).b<(w0.alloc (.cells arr t)).heap.size:=fun _=>⟨hg.size,by simp⟩
 have hs:=Gx h ht pb ⟨w0.heap.size,0,arr.size,false⟩ hL
 refine⟨Kl h ht pb _ hL rfl ?_,hs⟩
 have hr:∀ u d,eP c w u d→eP (c.set v gen ⟨w0.heap.size,0,arr.size,false⟩) (w0.alloc (.cells arr t)) u d:=fun u d hd=>hd.nA h.toHeapOK hs
 have hlen:cs.length=n:=by rw[← hc.len,← ha];simp;omega
 simp only[fJ,Ob.gen]
 refine⟨arr,heap_alloc_new _ _,rfl,by simp;omega,fun i d hd=>?_⟩
 have hi:i<cs.length:=(ae.1 hd).1
 have vp:i<arr.size:=by omega
 refine⟨arr[i],by simp[vp],?_,?_⟩
 ·exact hc.one _ (by rw[← ha];exact aW (i:=i) (by rw[az];simp[hlen▸hi,vp]))
 ·exact hr _ _ (hc.rep i _ d (by rw[← ha,az];simp[hlen▸hi,vp]) hd)
theorem oB{H:U}{v:Nat}{ob:Ob}(hv:v<H.length)(u:Nat):(H.set v ob)[u]? = if u=v then some ob else H[u]? := by
 rw[bC]
 split
 ·rename_i e;subst e;simp[hv]
 ·rename_i e;rw[if_neg (dB e)]
theorem ace{c:Ctx}{H:U}{v:Nat}{ob ob':Ob}(hv:H[v]? = some ob)(ha:ob.alive=true)(hg:ob'.gen=ob.gen){u:Nat}{l:Loc}(h:jB c (H.set v ob') u l):jB c H u l:=by
 obtain⟨o,ho,fO,eU⟩:=h
 rw[oB (ae.1 hv).1]at ho
 split at ho
 ·rename_i e;cases ho;subst e;exact⟨ob,hv,ha,by rw[← hg];exact eU⟩
 ·exact⟨o,ho,fO,eU⟩
theorem QK{G:GT}{c:Ctx}{H:U}{w:World}(h:e9 G c H w){v:Nat}{ob ob':Ob}(hv:H[v]? = some ob)(ha:ob.alive=true)(od:ob'.alive=true)(EL:ob'.gen=ob.gen){L:Loc}(eU:c.ι v ob.gen=some L)(gg:L.ij=false)
  {w':World} (nN:w'.os=w.os∧w.drawn≤w'.drawn) (IZ:w'.tape=w.tape) (jV:w'.output=w.output) (z7:w'.heap.size=w.heap.size)
  (jH:∀ b,b≠L.b→w'.heap[b]? = w.heap[b]?) (ga:(∀ u d,eP c w u d→eP c w' u d)→fJ c w' (some L) ob') :
  e9 G c (H.set v ob') w'∧Step H.length c H w c (H.set v ob') w':=by
 have zN:jB c H v L:=⟨ob,hv,ha,eU⟩
 have tO:jS c H L.b:=⟨v,L,zN,gg,rfl⟩
 have hL:∀ u l,jB c (H.set v ob') u l→jB c H u l:=fun u l hl=>ace hv ha EL hl
 have oM:∀ b,jS c (H.set v ob') b→jS c H b:=fun b ⟨u,l,hl,r⟩=>⟨u,l,hL u l hl,r⟩
 have hs:Step H.length c H w c (H.set v ob') w':=
  ⟨nN,IZ,jV,by omega,rfl,fun _ h=>h,fun _ h=>.inl h,fun b _ hn=>jH b (fun e=>hn (e▸tO)),fun _ _ _ _ h=>h,fun b hb=>.inr (oM b hb)⟩
 have hr:∀ u d,eP c w u d→eP c w' u d:=fun u d hd=>hd.nA h.toHeapOK hs
 refine⟨{
  inj:=fun u u' l l' h1 h2=>h.inj u u' l l' (hL _ _ h1) (hL _ _ h2)
  lt:=fun b hb=>by rw[z7];exact h.lt b (oM b hb)
  nF:=fun b hb=>h.nF b (oM b hb)
  iQ:=fun b hb=>by rw[z7];exact h.iQ b hb
  out:=fun u k hu=>h.out u k (by simpa using hu)
  jU:=fun u o k ho hk=>by
   rw[oB (ae.1 hv).1]at ho
   split at ho
   ·rename_i e;cases ho;subst e
    rcases hk with rfl|⟨_,hk⟩
    ·cases od
    ·exact h.jU u ob k hv (.inr ⟨ha,by omega⟩)
   ·exact h.jU u o k ho hk
  ob:=fun u o ho=>by
   rw[oB (ae.1 hv).1]at ho
   split at ho
   ·rename_i e
    cases ho;subst e
    rw[EL,eU]
    exact ga hr
   ·rename_i fY
    exact(h.ob u o ho).mz rfl hr fun l hl jm hd=>jH _ fun e=>fY (h.inj u v l L ⟨o,ho,hd,hl⟩ zN jm gg e)
  gl:=fun g cs vj=>let ⟨a,b⟩:=h.gl g cs vj;⟨a,hr _ _ b⟩
  rt:=h.rt },hs⟩
theorem Br{G:GT}{c:Ctx}{H:U}{w:World}(h:e9 G c H w){v g:Nat}{t:TypeId}{cs:List D}(hv:H[v]? = some (.row t g cs)){L:Loc}(eU:c.ι v g=some L)(gg:L.ij=false)
  {arr:Array Value} (kY:w.heap[L.b]? = some (.cells arr t (0,0))) (lU:Array Value) (gj:lU.size=arr.size) (jO:L.top=arr.size) (kW:List D) (hlen:L.base+kW.length≤L.top)
  (hc:∀ (i:Nat) (d:D),kW[i]? = some d→∃ u,lU[L.base+i]? = some u∧u.oneCell'=true∧eP c w u d) :
  e9 G c (H.set v (.row t g kW)) (w.setRow L.b lU)∧Step H.length c H w c (H.set v (.row t g kW)) (w.setRow L.b lU):=by
 refine QK (w':=w.setRow L.b lU) (ob':=.row t g kW) h hv rfl rfl rfl eU gg ⟨rfl,Nat.le_refl _⟩ rfl rfl (by simp[World.setRow]) (fun b hb=>by simp only[World.setRow,bL];rw[if_neg (dB hb)]) fun hr=>?_
 simp only[fJ,gg]
 refine⟨lU,setRow_heap w L.b arr _ t _ kY,by rw[jO,gj],hlen,fun i d hd=>?_⟩
 obtain⟨x,ni,kj,sD⟩:=hc i d hd
 exact⟨x,ni,kj,hr _ _ sD⟩
def ti:Value→D
 | .slice none 0 0=>.emp
 | v=>.val v
def DU:Value→Option D
 | .slice none 0 0=>some .emp
 | .agg cs=>if cs.all (·.oneCell')then some (.agg (cs.toList.map ti))else none
 | .tuple _=>none
 | v=>some (.val v)
def cX(G:GT):Operand→Option X
 | .tmp t=>some (.t t)
 | .const v=>(DU v).map .c
 | .global g=>(G g).map fun cs=>.c (.eZ cs)
 | .func f=>some (.c (.fn (.func f) [] []))
def rU(G:GT):List Operand→Option (List X)
 | []=>some []
 | x::r=>match cX G x,rU G r with
  | some a,some l=>some (a::l)
  | _,_=>none
def th(G:GT):List (Nat×Operand)→Option (List (Nat×X))
 | []=>some []
 | (i,x)::r=>match cX G x,th G r with
  | some a,some l=>some ((i,a)::l)
  | _,_=>none
def rT(G:GT):Option Operand→Option (Option X)
 | none=>some none
 | some x=>(cX G x).map some
def iU(P:Program)(t:TypeId):Option Nat:=(P.info? t).map (·.size)
def nC(P:Program)(t:TypeId):Option (List D):=match (P.info? t).bind (·.zero)with
 | some z=>if z.cells.all (·.oneCell')then some (z.cells.toList.map ti)else none
 | none=>none
def mG(P:Program)(t:TypeId):Option Bool:=match P.underlying t with
 | some (.struct _)|some (.array _ _)=>some true
 | some _=>some false
 | none=>none
def Oe(P:Program)(t:TypeId):Bool:=match P.underlying t with
 | some (.int _)|some .string|some .bool=>true
 | _=>false
def DE(P:Program)(t:TypeId):Bool:=match P.underlying t with
 | some .bool=>true
 | _=>false
def vH(P:Program)(t:TypeId):Option mi:=match P.underlying t with
 | some (.int _)=>some .int
 | some .string=>some .str
 | some .bool=>some .bool
 | _=>none
def D9(P:Program):Nat→List Field→Option (List mi)
 | _,[]=>some []
 | i,f::r=>match vH P f.type,D9 P (i+1) r with
  | some l,some ls=>if f.offset=i∧f.name≠ "_" then some (l::ls)else none
  | _,_=>none
def D'(P:Program)(t:TypeId):Option (List mi):=match P.underlying t with
 | some (.struct fs)=>if P.stoodInHeld t=false∧P.eqGuardType P.depth t=false then D9 P 0 fs.toList else none
 | _=>none
def AK(P:Program)(fs:Array Field):List (Nat×X)→Option (List (Nat×Nat×X))
 | []=>some []
 | (i,x)::r=>match fs[i]?,AK P fs r with
  | some f,some l=>(iU P f.type).map fun n=>(f.offset,n,x)::l
  | _,_=>none
def MK(P:Program)(fs:Array Field):Bool:=fs.all fun f=>(iU P f.type).isSome
def oL(P:Program)(f:FuncId):Bool:=match P.funcs[f]? with
 | some fn=>fn.name != "runtime.NumGoroutine" && fn.body.isSome
 | none=>false
def rm(P:Program)(t:TypeId):Option KK:=match P.underlying t with
 | some (.int k)=>some (.int k)
 | some .string=>some .str
 | some .bool=>some .bool
 | _=>none
def Ku(P:Program)(t:TypeId):Option D:=(P.info? t).bind fun i=>i.zero.bind DU
def kV(P:Program)(G:GT)(o:Oper):Option gp:=
 match o.op with
 | .move x=>do let a ← cX G x;pure (.mv a)
 | .assign x=>do let a ← cX G x;pure (.mv a)
 | .pick c a b=>do pure (.pick (← cX G c) (← cX G a) (← cX G b))
 | .box e x=>do pure (.box e (← cX G x))
 | .alloc e=>do pure (.alloc e (← nC P e))
 | .build t ps=>do
  let z ← nC P t
  let l ← th G ps.toList
  match P.underlying t with
  | some (.struct fs)=>if MK P fs then do pure (.build z (← AK P fs l))else none
  | some (.array _ e)=>do
   let sz ← iU P e
   pure (.build z (l.map fun p=>(p.1*sz,sz,p.2)))
  | _=>none
 | .buildSlice t n ps=>do
  let .slice e ← P.underlying t|none
  let z ← nC P e
  let sz ← iU P e
  let l ← th G ps.toList
  if z.length=sz∧0<sz∧n*sz≤16777216 then pure (.buildSl e sz z n l)else none
 | .load t a=>do
  let x ← cX G a
  let n ← iU P t
  if ← mG P t then pure (.ldN n x)else pure (.ld1 x)
 | .store t a v=>do
  let x ← cX G a
  let y ← cX G v
  let n ← iU P t
  if ← mG P t then pure (.stN n x y)else if n=1 then pure (.st1 x y)else none
 | .nilCheck x=>do pure (.nilck (← cX G x))
 | .binOp op t x y _=>do
  let a ← cX G x
  let b ← cX G y
  match op with
  | .eql=>if DE P t then pure (.eqS false [.bool] false a b)else if Oe P t then pure (.arith .eql a b)else do pure (.eqS true (← D' P t) false a b)
  | .neq=>if DE P t then pure (.eqS false [.bool] true a b)else if Oe P t then pure (.arith .neq a b)else do pure (.eqS true (← D' P t) true a b)
  | op=>pure (.arith op a b)
 | .unOp op _ x=>do pure (.un op (← cX G x))
 | .convert s d x=>do
  let a ← cX G x
  let _ ← P.underlying s
  match P.underlying d with
  | some (.int k)=>pure (.conv k a)
  | some .string=>do
   let .slice e ← P.underlying s|none
   let .int .u8 ← P.underlying e|none
   pure (.b2s a)
  | _=>none
 | .makeFunc f first cap=>do pure (.mkfn f (← rU G first.toList) (← rU G cap.toList))
 | .makeMap t none=>do
  let .map k _ ← P.underlying t|none
  pure (.mkmap (← rm P k))
 | .lookup t x i ok=>do
  let .map k e ← P.underlying t|none
  let z ← Ku P e
  pure (.lookup (← rm P k) z ok (← cX G x) (← cX G i))
 | .mapUpdate t m k v=>do
  let .map kt _ ← P.underlying t|none
  pure (.mapUpd (← rm P kt) (← cX G m) (← cX G k) (← cX G v))
 | .insert t m k v=>do
  let .map kt _ ← P.underlying t|none
  pure (.mapUpd (← rm P kt) (← cX G m) (← cX G k) (← cX G v))
 | .makeSlice t l c=>do
  let .slice e ← P.underlying t|none
  let z ← nC P e
  let i ← P.info? e
  if z.length=i.size∧0<i.size then pure (.mksl e i.size i.bytes z (← cX G l) (← cX G c))else none
 | .slice t x lo hi none=>do
  let a ← cX G x
  let l ← rT G lo
  let h ← rT G hi
  match P.underlying t with
  | some (.slice e)=>do pure (.slc (← iU P e) a l h)
  | some .string=>pure (.slcS a l h)
  | _=>none
 | .fieldAddr t x f=>do
  let a ← cX G x
  let .struct fs ← P.underlying t|none
  let fd ← fs[f]?
  let n ← iU P fd.type
  if 0<n then pure (.fieldA fd.offset a)else none
 | .field t x f=>do
  let a ← cX G x
  let .struct fs ← P.underlying t|none
  let fd ← fs[f]?
  let n ← iU P fd.type
  pure (.field fd.offset n (← mG P fd.type) a)
 | .indexAddr t x i=>do
  let a ← cX G x
  let j ← cX G i
  match P.underlying t with
  | some (.slice e)=>do
   let n ← iU P e
   if 0<n then pure (.idxA n a j)else none
  | some (.array n e)=>do pure (.idxArr (← iU P e) n a j)
  | _=>none
 | .index t x i=>do
  let a ← cX G x
  let j ← cX G i
  match P.underlying t with
  | some (.array n e)=>do pure (.idx (← iU P e) n (← mG P e) a j)
  | some .string=>pure (.idxStr a j)
  | _=>none
 | .extract x i=>do pure (.ext (← cX G x) i)
 | .call c=>do
  let args ← rU G c.args.toList
  match c.callee with
  | .value (.func f)=>if oL P f then pure (if G.nw f then .callN f args else .call f args)else none
  | .value f=>do pure (.callv (← cX G f) args)
  | .builtin .append=>match c.argTypes.toList,args with
   | [t,u],[x,y]=>do
    let .slice e ← P.underlying t|none
    let i ← P.info? e
    let z ← nC P e
    let .slice _ ← P.underlying u|none
    if z.length=i.size∧0<i.size then pure (.app e i.size i.bytes x y)else none
   | _,_=>none
  | .builtin .copy=>match c.argTypes.toList,args with
   | [t,u],[x,y]=>do
    let .slice e ← P.underlying t|none
    let .slice _ ← P.underlying u|none
    let n ← iU P e
    if 0<n then pure (.copy n x y)else none
   | _,_=>none
  | .builtin .len=>match c.argTypes.toList,args with
   | [t],[x]=>match P.underlying t with
    | some (.slice _)=>pure (.len .slice x)
    | some .string=>pure (.len .string x)
    | some (.map _ _)=>pure (.len .map x)
    | _=>none
   | _,_=>none
  | .builtin .max=>pure (.minmax true args)
  | .builtin .min=>pure (.minmax false args)
  | _=>none
 | _=>none
end Go.AL
namespace Go.AL
open Go
def jh(c:Ctx)(w:World)(env:fD)(a:Act):Prop:=∀ k,eP c w (a.tmps.getD k undef) (env k)
def gU(G:GT)(c:Ctx)(H:U)(w:World)(K:ik)(v:Value)(w':World):Prop:=
 ∃ d H' c',K d H'∧e9 G c' H' w'∧eP c' w' v d∧Step H.length c H w c' H' w'
section
variable{P:Program}{G:GT}{c:Ctx}{H:U}{w:World}{K:ik}{env:fD}{a:Act}
theorem gU.plain(h:e9 G c H w){v:Value}{d:D}(hK:K d H)(hr:eP c w v d):gU G c H w K v w:=
 ⟨d,H,c,hK,h,hr,Step.refl _ _ _ _⟩
theorem PJ(v:Value):eP c w v (ti v):=by
 unfold ti
 split
 ·exact .emp
 ·exact .val _
theorem PK{v:Value}{d:D}(h:DU v=some d):eP c w v d:=by
 unfold DU at h
 split at h
 ·cases h;exact .emp
 ·rename_i cs
  split at h
  ·rename_i gy
   cases h
   have:=eP.agg (c:=c) (w:=w) cs.toList (cs.toList.map ti) (by simp) (fun v hv=>by
    have:=b8.1 gy v (by simpa using hv)
    exact this) (fun i v d hv hd=>by
    simp only[ar,hv,aX,aq]at hd
    subst hd
    exact PJ v)
   simpa using this
  ·cases h
 ·cases h
 ·cases h;exact .val _
theorem gD(h:e9 G c H w)(he:jh c w env a){x:Operand}{X:X}(hx:cX G x=some X):eP c w (a.eval x) (ev env X):=by
 cases x with
 | tmp t=>cases hx;exact he t
 | const v=>
  simp only[cX,ai]at hx
  obtain⟨d,hd,rfl⟩:=hx
  exact PK hd
 | global g=>
  simp only[cX,ai]at hx
  obtain⟨cs,gQ,rfl⟩:=hx
  exact(h.gl g cs gQ).2
 | func f=>cases hx;exact .fn (.func f) [] [] [] [] rfl rfl (by simp) (by simp)
theorem uN(h:e9 G c H w)(he:jh c w env a):∀ (l:List Operand) {xs:List X},rU G l=some xs→gY c w (l.map a.eval) (xs.map (ev env))
 | [],xs,hx=>by cases hx;exact .nil
 | x::r,xs,hx=>by
  simp only[rU]at hx
  split at hx
  ·rename_i X l hX hl
   cases hx
   exact .cons (gD h he hX) (uN h he r hl)
  ·cases hx
theorem gY.length{vs:List Value}{ds:List D}(h:gY c w vs ds):vs.length=ds.length:=by
 induction h with
 | nil=>rfl
 | cons _ _ ih=>simp[ih]
theorem gY.get{vs:List Value}{ds:List D}(h:gY c w vs ds):∀ (i:Nat) (v:Value) (d:D),vs[i]? = some v→ds[i]? = some d→eP c w v d:=by
 induction h with
 | nil=>intro i v d hv;simp at hv
 | cons h _ ih=>
  intro i v d hv hd
  cases i with
  | zero=>simp at hv hd;subst hv;subst hd;exact h
  | succ i=>simp at hv hd;exact ih i v d hv hd
theorem gY.append{vs us:List Value}{ds es:List D}(h:gY c w vs ds)(k:gY c w us es):gY c w (vs++us) (ds++es):=by
 induction h with
 | nil=>exact k
 | cons h _ ih=>exact .cons h ih
theorem gY.AH:∀ {vs:List Value} {ds:List D},vs.length=ds.length→(∀ (i:Nat) (v:Value) (d:D),vs[i]? = some v→ds[i]? = some d→eP c w v d)→gY c w vs ds
 | [],[],_,_=>.nil
 | v::vs,d::ds,hl,h=>.cons (h 0 v d rfl rfl) (gY.AH (by simpa using hl) fun i v d hv hd=>h (i+1) v d (by simpa using hv) (by simpa using hd))
theorem Cells.agg{vs:List Value}{cs:List D}(h:Cells c w vs cs):eP c w (.agg vs.toArray) (.agg cs):=.agg vs cs h.len h.one h.rep
theorem Cells.drop{vs:List Value}{cs:List D}(h:Cells c w vs cs)(n:Nat):Cells c w (vs.drop n) (cs.drop n):=
 ⟨by simp[h.len],fun v hv=>h.one v (bV hv),fun i v d hv hd=>h.rep (n+i) v d (by simpa using hv) (by simpa using hd)⟩
theorem Cells.take{vs:List Value}{cs:List D}(h:Cells c w vs cs)(n:Nat):Cells c w (vs.take n) (cs.take n):=
 ⟨by simp[h.len],fun v hv=>h.one v (aM hv),fun i v d hv hd=>by
  rw[az]at hv hd
  split at hv
  ·rename_i hi;rw[if_pos hi]at hd;exact h.rep i v d hv hd
  ·cases hv⟩
theorem Cells.append{vs us:List Value}{cs ds:List D}(h:Cells c w vs cs)(k:Cells c w us ds):Cells c w (vs++us) (cs++ds):=
 ⟨by simp[h.len,k.len],fun v hv=>by
  rcases List.mem_append.1 hv with hv|hv
  ·exact h.one v hv
  ·exact k.one v hv,fun i v d hv hd=>by
  rw[List.getElem?_append]at hv hd
  split at hv
  ·rename_i hi;rw[if_pos (by rw[← h.len];exact hi)]at hd;exact h.rep i v d hv hd
  ·rename_i hi;rw[if_neg (by rw[← h.len];exact hi)]at hd;rw[← h.len]at hd;exact k.rep _ v d hv hd⟩
theorem Cells.nil:Cells c w [] []:=⟨rfl,by simp,by simp⟩
theorem Cells.get{vs:List Value}{cs:List D}(h:Cells c w vs cs){i:Nat}{d:D}(hd:cs[i]? = some d):∃ v,vs[i]? = some v∧v.oneCell'=true∧eP c w v d:=by
 have hi:i<vs.length:=by rw[h.len];exact(ae.1 hd).1
 exact⟨vs[i],by simp[hi],h.one _ (bH hi),h.rep i _ d (by simp[hi]) hd⟩
def pC(c:Ctx)(w:World)(b o:Nat)(cs:List D):Prop:=∃ vs,Cells c w vs cs∧∀ (j:Nat) (v:Value),vs[j]? = some v→w.cell? ⟨b,o+j,none⟩=some v
theorem pC.drop{b o:Nat}{cs:List D}(h:pC c w b o cs)(n:Nat):pC c w b (o+n) (cs.drop n):=by
 obtain⟨vs,hc,hv⟩:=h
 exact⟨vs.drop n,hc.drop n,fun j v hj=>by rw[aB]at hj;have:=hv _ _ hj;rwa [br]⟩
theorem pC.take{b o:Nat}{cs:List D}(h:pC c w b o cs)(n:Nat):pC c w b o (cs.take n):=by
 obtain⟨vs,hc,hv⟩:=h
 refine⟨vs.take n,hc.take n,fun j v hj=>?_⟩
 rw[az]at hj
 split at hj
 ·exact hv _ _ hj
 ·cases hj
theorem uo(h:e9 G c H w){v g:Nat}{t:TypeId}{cs:List D}(hv:H[v]? = some (.row t g cs)){L:Loc}(eU:c.ι v g=some L)(gg:L.ij=false) :
  ∃ arr:Array Value,w.heap[L.b]? = some (.cells arr t (0,0))∧L.top=arr.size∧L.base+cs.length≤L.top∧Cells c w ((arr.toList.drop L.base).take cs.length) cs:=by
 have h0:=h.ob v _ hv
 simp only[Ob.gen]at h0
 rw[eU]at h0
 simp only[fJ,gg]at h0
 obtain⟨arr,h1,h2,h3,h4⟩:=h0
 refine⟨arr,h1,h2,h3,⟨by simp;omega,fun u hu=>?_,fun i u d hu hd=>?_⟩⟩
 ·obtain⟨i,hi⟩:=aD.1 hu
  rw[az]at hi
  split at hi
  ·rename_i fj
   rw[aB]at hi
   obtain⟨x,hx,h5,_⟩:=h4 i cs[i] (by simp[fj])
   have:arr[L.base+i]? = some u:=by simpa using hi
   rw[hx]at this
   cases this
   exact h5
  ·cases hi
 ·rw[az]at hu
  split at hu
  ·rw[aB]at hu
   obtain⟨x,hx,_,h6⟩:=h4 i d hd
   have:arr[L.base+i]? = some u:=by simpa using hu
   rw[hx]at this
   cases this
   exact h6
  ·cases hu
theorem DL(h:e9 G c H w){v g o:Nat}{t:TypeId}{cs:List D}(hv:H[v]? = some (.row t g cs)){u:Value}(hr:eP c w u (.ptr v g o)) :
  ∃ b p,u = .pointer (some ⟨b,p,none⟩)∧pC c w b p (cs.drop o):=by
 cases hr with
 | ptr _ _ _ L eU gg=>
  obtain⟨arr,h1,h2,h3,h4⟩:=uo h hv eU gg
  refine⟨L.b,L.base+o,rfl,?_⟩
  refine pC.drop ⟨_,h4,fun j x hx=>?_⟩ o
  rw[az]at hx
  split at hx
  ·rw[aB]at hx
   simp[World.cell?,h1]
   simpa using hx
  ·cases hx
theorem uP{u:Value}{cs:List D}(hr:eP c w u (.eZ cs)):∃ b p,u = .pointer (some ⟨b,p,none⟩)∧c.F b∧pC c w b p cs:=by
 cases hr with
 | eZ b o _ g hF hc hr=>
  refine⟨b,o,rfl,hF,(List.range cs.length).map g,⟨by simp,fun v hv=>?_,fun i v d hv hd=>?_⟩,fun j v hv=>?_⟩
  ·simp only[av,bx]at hv
   obtain⟨j,hj,rfl⟩:=hv
   exact(hc j cs[j] (by simp[hj])).2
  ·simp only[ar,ai,bX (ae.1 hd).1]at hv
   obtain⟨_,e,rfl⟩:=hv
   cases e
   exact hr i d hd
  ·have hj:j<cs.length:=by have:=(ae.1 hv).1;simpa using this
   simp only[ar,bX hj,aX,aq]at hv
   subst hv
   exact(hc j cs[j] (by simp[hj])).1
theorem HG{b o:Nat}{cs:List D}(hF:c.F b)(h:pC c w b o cs):eP c w (.pointer (some ⟨b,o,none⟩)) (.eZ cs):=by
 obtain⟨vs,hc,hv⟩:=h
 refine .eZ b o cs (fun j=>vs.getD j undef) hF (fun j d hd=>?_) (fun j d hd=>?_)
 ·obtain⟨u,hu,h1,_⟩:=hc.get hd
  simp only[List.getD,hu,aS]
  exact⟨hv j u hu,h1⟩
 ·obtain⟨u,hu,_,h1⟩:=hc.get hd
  simp only[List.getD,hu,aS]
  exact h1
theorem A4{t:TypeId}{b:Bool}(h:mG P t=some b)(w:World):(isAgg t).run P w = .ok b w:=by
 unfold mG at h
 unfold isAgg
 cases hu:P.underlying t with
 | none=>simp[hu]at h
 | some d=>cases d<;>simp[hu]at h<;>subst h<;>simp[run_underlying hu]
theorem oW{t:TypeId}{n:Nat}(h:iU P t=some n)(w:World):(sizeOf t).run P w = .ok n w:=by
 simp only[iU,ai]at h
 obtain⟨i,hi,rfl⟩:=h
 simp[sizeOf,typeInfo,hi]
theorem run_typeInfo{t:TypeId}{i:TypeInfo}(h:P.info? t=some i)(w:World):(typeInfo t).run P w = .ok i w:=by simp[typeInfo,h]
theorem uu{t:TypeId}{z:List D}(h:nC P t=some z)(w:World):∃ v:Value,(zeroValue t).run P w = .ok v w∧(P.info? t).bind (·.zero)=some v ∧
  ∀ c w,Cells c w v.cells.toList z:=by
 unfold nC at h
 cases hi:P.info? t with
 | none=>simp[hi]at h
 | some i=>
  simp only[hi,Option.bind_some]at h
  cases hz:i.zero with
  | none=>simp[hz]at h
  | some v=>
   simp only[hz]at h
   split at h
   ·rename_i gy
    cases h
    refine⟨v,by simp[zeroValue,run_typeInfo hi,hz],by simp[hz],fun c w=>⟨by simp,fun u hu=>?_,fun i u d hu hd=>?_⟩⟩
    ·exact b8.1 gy u (by simpa using hu)
    ·simp only[ar,hu,aX,aq]at hd
     subst hd
     exact PJ u
   ·cases h
theorem Gf{t:TypeId}(ha:mG P t=some false){b o:Nat}{cs:List D}(hc:pC c w b o cs){d:D}(hd:cs[0]? = some d) :
  ∃ u,(Instr.loadAt t (.pointer (some ⟨b,o,none⟩))).run P w = .ok u w∧u.oneCell'=true∧eP c w u d:=by
 obtain⟨vs,gQ,hv⟩:=hc
 obtain⟨u,hu,h1,h2⟩:=gQ.get hd
 have:=hv 0 u hu
 exact⟨u,by simp[Instr.loadAt,Instr.sureAddr,loadVar,A4 ha];simp at this;simp[this],h1,h2⟩
theorem Gg{t:TypeId}{n:Nat}(ha:mG P t=some true)(hs:iU P t=some n){b o:Nat}{cs:List D}(hc:pC c w b o cs)(hn:n≤cs.length) :
  ∃ u,(Instr.loadAt t (.pointer (some ⟨b,o,none⟩))).run P w = .ok u w∧eP c w u (.agg (cs.take n)):=by
 obtain⟨vs,gQ,hv⟩:=hc.take n
 have hl:vs.length=n:=by rw[gQ.len];simp;omega
 have:=run_loadCells_list (P:=P) w ⟨b,o,none⟩ vs (fun j v hj=>by rw[Addr.add_lit];exact hv j v hj)
 rw[hl]at this
 exact⟨.agg vs.toArray,by simp[Instr.loadAt,Instr.sureAddr,loadVar,A4 ha,oW hs,this],gQ.agg⟩
theorem pW{v g:Nat}{x:TypeId×List D}(h:rowAt H v g=some x):H[v]? = some (.row x.1 g x.2):=by
 unfold rowAt at h
 split at h
 ·split at h
  ·rename_i e;subst e;cases h;assumption
  ·cases h
 ·cases h
theorem aa7(h:e9 G c H w){t:TypeId}(ha:mG P t=some false){x:D}{u:Value}(hr:eP c w u x)(hk:Ap x H K) :
  ∃ v,(Instr.loadAt t u).run P w = .ok v w∧gU G c H w K v w:=by
 unfold Ap at hk
 split at hk
 ·rename_i v g o
  split at hk
  ·rename_i t' cs fR
   have hv:=pW fR
   split at hk
   ·rename_i d hd
    obtain⟨b,p,rfl,hc⟩:=DL h hv hr
    obtain⟨u,hu,_,h2⟩:=Gf ha hc (d:=d) (by simpa using hd)
    exact⟨u,hu,.plain h hk h2⟩
   ·exact hk.elim
  ·exact hk.elim
 ·rename_i cs
  split at hk
  ·rename_i d hd
   obtain⟨b,p,rfl,_,hc⟩:=uP hr
   obtain⟨u,hu,_,h2⟩:=Gf ha hc hd
   exact⟨u,hu,.plain h hk h2⟩
  ·exact hk.elim
 ·exact hk.elim
theorem aa8(h:e9 G c H w){t:TypeId}{n:Nat}(ha:mG P t=some true)(hs:iU P t=some n){x:D}{u:Value}(hr:eP c w u x)(hk:Aq n x H K) :
  ∃ v,(Instr.loadAt t u).run P w = .ok v w∧gU G c H w K v w:=by
 unfold Aq at hk
 split at hk
 ·rename_i v g o
  split at hk
  ·rename_i t' cs fR
   have hv:=pW fR
   obtain⟨b,p,rfl,hc⟩:=DL h hv hr
   obtain⟨u,hu,h2⟩:=Gg (n:=n) ha hs hc (by simp;omega)
   exact⟨u,hu,.plain h hk.2 h2⟩
  ·exact hk.elim
 ·rename_i cs
  obtain⟨b,p,rfl,_,hc⟩:=uP hr
  obtain⟨u,hu,h2⟩:=Gg (n:=n) ha hs hc hk.1
  exact⟨u,hu,.plain h hk.2 h2⟩
 ·exact hk.elim
theorem abh(h:e9 G c H w){x y z:D}{u v t:Value}(h1:eP c w u x)(h2:eP c w v y)(h3:eP c w t z)(hk:AJ x y z H K) :
  ∃ b,u = .bool b∧gU G c H w K (if b then v else t) w:=by
 unfold AJ at hk
 split at hk
 ·rename_i b
  cases h1
  refine⟨b,rfl,.plain h hk ?_⟩
  cases b
  ·exact h3
  ·exact h2
 ·exact hk.elim
end
end Go.AL
namespace Go.AL
open Go
section
variable{P:Program}{G:GT}{c:Ctx}{H:U}{w:World}{K:ik}{env:fD}{a:Act}
theorem wrap_i64{n:Int}(h:lx n):IntKind.i64.wrap n=n:=by
 unfold lx at h
 simp only[IntKind.wrap,IntKind.signed,IntKind.bits]
 simp
 omega
theorem gU.val(h:e9 G c H w){v:Value}(hK:K (.val v) H):gU G c H w K v w:=.plain h hK (.val _)
theorem aaP(h:e9 G c H w){op:BinOp}{k:IntKind}{x y:Int}(hk:yL op k x y H K)(hs:op≠.shl∧op≠.shr)(t:TypeId)(xo yo:Operand) :
  ∃ v,(do eqGuard op t xo yo (.int k x) (.int k y);binOp op t (.int k x) (.int k y)).run P w = .ok v w∧gU G c H w K v w:=by
 have hg:(eqGuard op t xo yo (.int k x) (.int k y)).run P w = .ok () w:=by
  cases op<;>simp[eqGuard]
 simp only[Sem.run_bind,hg,Result.andThen_ok]
 cases op<;>simp only[yL]at hk
 case add=>
  by_cases e:k = .i64
  ·subst e
   simp only[if_true]at hk
   exact⟨_,by simp[binOp,Op.intArith,wrap_i64 hk.1]<;>rfl,.val h hk.2⟩
  ·rw[if_neg e]at hk
   exact⟨_,by simp[binOp,Op.intArith]<;>rfl,.val h hk⟩
 case sub=>
  by_cases e:k = .i64
  ·subst e
   simp only[if_true]at hk
   exact⟨_,by simp[binOp,Op.intArith,wrap_i64 hk.1]<;>rfl,.val h hk.2⟩
  ·rw[if_neg e]at hk
   exact⟨_,by simp[binOp,Op.intArith]<;>rfl,.val h hk⟩
 case mul=>
  by_cases e:k = .i64
  ·subst e
   simp only[if_true]at hk
   exact⟨_,by simp[binOp,Op.intArith,wrap_i64 hk.1]<;>rfl,.val h hk.2⟩
  ·rw[if_neg e]at hk
   exact⟨_,by simp[binOp,Op.intArith]<;>rfl,.val h hk⟩
 case quo=>exact⟨_,by simp[binOp,Op.intDiv,hk.1]<;>rfl,.val h hk.2⟩
 case rem=>exact⟨_,by simp[binOp,Op.intDiv,hk.1]<;>rfl,.val h hk.2⟩
 case and=>exact⟨_,by simp[binOp,Op.intBits]<;>rfl,.val h (by simpa[bits]using hk)⟩
 case or=>exact⟨_,by simp[binOp,Op.intBits]<;>rfl,.val h (by simpa[bits]using hk)⟩
 case xor=>exact⟨_,by simp[binOp,Op.intBits]<;>rfl,.val h (by simpa[bits]using hk)⟩
 case andNot=>exact⟨_,by simp[binOp,Op.intBits]<;>rfl,.val h (by simpa[bits]using hk)⟩
 case eql=>exact⟨_,by simp[binOp,Op.intCmp]<;>rfl,.val h hk⟩
 case neq=>exact⟨_,by simp[binOp,Op.intCmp]<;>rfl,.val h hk⟩
 case lss=>exact⟨_,by simp[binOp,Op.intCmp]<;>rfl,.val h hk⟩
 case leq=>exact⟨_,by simp[binOp,Op.intCmp]<;>rfl,.val h hk⟩
 case gtr=>exact⟨_,by simp[binOp,Op.intCmp]<;>rfl,.val h hk⟩
 case geq=>exact⟨_,by simp[binOp,Op.intCmp]<;>rfl,.val h hk⟩
 all_goals exact absurd rfl (by first|exact hs.1|exact hs.2)
theorem JN(h:e9 G c H w){op:BinOp}{x y:D}{u v:Value}(h1:eP c w u x)(h2:eP c w v y)(hk:yQ op x y H K)(t:TypeId)(xo yo:Operand) :
  ∃ r,(do eqGuard op t xo yo u v;binOp op t u v).run P w = .ok r w∧gU G c H w K r w:=by
 unfold yQ at hk
 split at hk
 ·cases h1;cases h2
  split at hk
  ·have key:∀ op,nk op=true→op = .shl∨op = .shr:=fun op ho=>by cases op<;>simp[nk]at ho<;>simp
   rename_i hs
   rcases key op hs with rfl|rfl
   ·simp only[A9]at hk
    have hn:=hk.1
    exact⟨_,by simp[eqGuard,binOp,Op.shift,dY.2 hn]<;>rfl,.val h hk.2⟩
   ·simp only[A9]at hk
    have hn:=hk.1
    exact⟨_,by simp[eqGuard,binOp,Op.shift,dY.2 hn]<;>rfl,.val h hk.2⟩
  ·rename_i hs
   obtain⟨rfl,hk⟩:=hk
   exact aaP h hk ⟨fun e=>by subst e;exact hs rfl,fun e=>by subst e;exact hs rfl⟩ t xo yo
 ·cases h1;cases h2
  rename_i p q
  cases op<;>simp only[Gt]at hk
  case add=>exact⟨.string (p++q),by simp[eqGuard,binOp,run_string_add_sum w p q (by have:=hk.1;omega)],.val h hk.2⟩
  case eql=>exact⟨_,by simp[eqGuard,binOp,Op.stringOp,ByteArray.toList_eq]<;>rfl,.val h (by simpa using hk)⟩
  case neq=>exact⟨_,by simp[eqGuard,binOp,Op.stringOp,ByteArray.toList_eq]<;>rfl,.val h (by simpa using hk)⟩
 ·exact hk.elim
theorem abn(h:e9 G c H w){op:UnOp}{x:D}{u:Value}(h1:eP c w u x)(hk:Bm op x H K) :
  ∃ r,(Op.unary op u).run P w = .ok r w∧gU G c H w K r w:=by
 unfold Bm at hk
 split at hk
 ·cases h1;exact⟨_,by simp[Op.unary]<;>rfl,.val h hk⟩
 ·cases h1
  rename_i n
  have:(0-n) = -n:=by omega
  exact⟨_,by simp[Op.unary,Op.intArith,wrap_i64 hk.1]<;>rfl,.val h hk.2⟩
 ·cases h1;exact⟨_,by simp[Op.unary,Op.intBits]<;>rfl,.val h (by simpa[bits]using hk)⟩
 ·exact hk.elim
theorem wK{d:D}{v:Value}{cs:List D}(hr:eP c w v d)(hc:cellsOf d=some cs):Cells c w v.cells.toList cs:=by
 have key:∀ {v:Value} {d:D},eP c w v d→v.oneCell'=true→v.cells = #[v]→Cells c w v.cells.toList [d]:=fun{v d} hr h1 hv=>by
  rw[hv]
  exact⟨rfl,by simpa using h1,fun i u e hu he=>by
   cases i with
   | zero=>simp at hu he;subst hu;subst he;exact hr
   | succ i=>simp at hu⟩
 cases hr with
 | any v=>simp[cellsOf]at hc
 | val v=>
  simp only[cellsOf]at hc
  split at hc
  ·rename_i h1
   cases hc
   refine key (.val v) h1 ?_
   cases v<;>first|rfl|(simp[Value.oneCell']at h1)
  ·cases hc
 | agg vs ds hl h1 h=>
  simp only[cellsOf,aq]at hc
  subst hc
  exact⟨by simpa[Value.cells]using hl,by simpa[Value.cells]using h1,fun i v d hv hd=>h i v d (by simpa[Value.cells]using hv) hd⟩
 | tup=>simp[cellsOf]at hc
 | sl a len cap sz es g h1 h2 h3 h4 h5 h6 h7=>simp only[cellsOf,aq]at hc;subst hc;exact key (.sl a len cap sz es g h1 h2 h3 h4 h5 h6 h7) rfl rfl
 | emp=>simp only[cellsOf,aq]at hc;subst hc;exact key .emp rfl rfl
 | eN v k sz off len cap L h1 h2 h3 h4 h5=>simp only[cellsOf,aq]at hc;subst hc;exact key (.eN v k sz off len cap L h1 h2 h3 h4 h5) rfl rfl
 | kT v k sz off L h1 a=>simp only[cellsOf,aq]at hc;subst hc;exact key (.kT v k sz off L h1 a) rfl rfl
 | ptr v k off L h1 h2=>simp only[cellsOf,aq]at hc;subst hc;exact key (.ptr v k off L h1 h2) rfl rfl
 | eZ b o cs g h1 h2 h3=>simp only[cellsOf,aq]at hc;subst hc;exact key (.eZ b o cs g h1 h2 h3) rfl rfl
 | omap v L h1 h2=>simp only[cellsOf,aq]at hc;subst hc;exact key (.omap v L h1 h2) rfl rfl
 | fn f fs cs df dc h1 h2 h3 h4=>simp only[cellsOf,aq]at hc;subst hc;exact key (.fn f fs cs df dc h1 h2 h3 h4) rfl rfl
 | gO v L h1 h2=>simp only[cellsOf,aq]at hc;subst hc;exact key (.gO v L h1 h2) rfl rfl
theorem abo{d:D}(h:one d=true):cellsOf d=some [d]:=by
 cases d<;>first|rfl|(simp[one]at h;done)|skip
 rename_i v
 simp only[one]at h
 simp[cellsOf,h]
theorem abB{L:Loc}(hv:L.ij=false)(h0:L.base=0)(v g:Nat):eP (c.set v g L) w (.pointer (some ⟨L.b,0,none⟩)) (.ptr v g 0):=by
 have:=eP.ptr (c:=c.set v g L) (w:=w) v g 0 L (Ctx.py _ _ _ _) hv
 simpa[h0]using this
theorem Pk(h:e9 G c H w){al:Al}(fO:kH H al)(t:TypeId){v:Value}{cs:List D}(hc:Cells c w v.cells.toList cs)(hk:K (.ptr al.1 0 0) (al.2 (.row t 0 cs))) :
  ∃ w',(newVar t v).run P w = .ok ⟨w.heap.size,0,none⟩ w'∧gU G c H w K (.pointer (some ⟨w.heap.size,0,none⟩)) w':=by
 obtain⟨L,h1,h2,h3,h4,h5,h6⟩:=AD h w (iC.refl w) t v.cells.toList cs v.cells.size v.cells (fO _).pX hc (by rw[← cH,dy]) (Nat.le_refl _)
 refine⟨w.alloc (.cells v.cells t),by simp[newVar,newRow],?_⟩
 have hp:=abB (c:=c) (w:=w.alloc (.cells v.cells t)) h1 h3 al.1 0
 rw[h2]at hp
 exact⟨_,_,_,hk,h5,hp,h6⟩
theorem aaR(h:e9 G c H w){al:Al}(fO:kH H al)(t:TypeId){x:D}{u:Value}(h1:eP c w u x)(hk:yR t x al K) :
  ∃ r w',(Instr.box t u).run P w = .ok r w'∧gU G c H w K r w':=by
 unfold yR at hk
 split at hk
 ·rename_i cs gQ
  obtain⟨w',hr,hp⟩:=Pk (P:=P) h fO t (wK h1 gQ) hk
  exact⟨_,w',by simp[Instr.box,hr],hp⟩
 ·exact hk.elim
theorem aaM(h:e9 G c H w){al:Al}(fO:kH H al){t:TypeId}{z:List D}(hz:nC P t=some z)(hk:K (.ptr al.1 0 0) (al.2 (.row t 0 z))) :
  ∃ r w',(Instr.alloc t true (.tuple #[])).run P w = .ok r w'∧gU G c H w K r w':=by
 obtain⟨v,hv,_,hc⟩:=uu hz w
 obtain⟨w',hr,hp⟩:=Pk (P:=P) h fO t (hc c w) hk
 exact⟨_,w',by simp[Instr.alloc,hv,hr],hp⟩
theorem Cells.oC{vs us:List Value}{cs ds:List D}(h:Cells c w vs cs)(k:Cells c w us ds)(o:Nat):Cells c w (vs.take o++us++vs.drop (o+us.length)) (cs.take o++ds++cs.drop (o+ds.length)):=by
 rw[k.len]
 exact((h.take o).append k).append (h.drop _)
theorem S1(l:List Value):∀ (off:Nat) (cs:Array Value),off+l.length≤cs.size →
  ((l.zipIdx off).foldl (fun(cs:Array Value) (x:Value×Nat)=>cs.setIfInBounds x.2 x.1) cs).toList=cs.toList.take off++l++cs.toList.drop (off+l.length):=by
 induction l with
 | nil=>intro off cs _;simp
 | cons v r ih=>
  intro off cs h
  simp only[aJ]at h
  simp only[List.zipIdx_cons,cw]
  rw[ih (off+1) _ (by simp;omega)]
  simp only[Array.toList_setIfInBounds]
  have:=list_seg_step cs.toList off v r (by simp;omega)
  simpa[br,dE 1]using this
theorem SQ(cs:Array Value)(l:Array Value)(off:Nat)(h:off+l.size≤cs.size) :
  (l.zipIdx.foldl (fun(cs:Array Value) (x:Value×Nat)=>match x with|(c,j)=>cs.setIfInBounds (off+j) c) cs).toList=cs.toList.take off++l.toList++cs.toList.drop (off+l.size):=by
 have:=S1 l.toList off cs (by simpa using h)
 rw[← Array.foldl_toList,Array.toList_zipIdx]
 have e:(l.toList.zipIdx off)=(l.toList.zipIdx 0).map fun x=>(x.1,off+x.2):=by
  rw[List.zipIdx_eq_map_add]
  first|done|(simp only[dE])
 rw[e,List.foldl_map]at this
 exact this
theorem Ed(place:Nat→Option (Nat×Nat)):∀ (vs:List (Nat×Value)) (ps:List (Nat×Nat×List D)) (arr:Array Value) (cs rs:List D),
  Cells c w arr.toList cs→vs.length=ps.length →
  (∀ (i:Nat) (v:Nat×Value) (p:Nat×Nat×List D),vs[i]? = some v→ps[i]? = some p→place v.1=some (p.1,p.2.1)∧Cells c w v.2.cells.toList p.2.2) →
  lay ps cs=some rs→∃ lU,Instr.fill place arr vs=some lU∧Cells c w lU.toList rs
 | [],[],arr,cs,rs,hc,_,_,hl=>by simp[lay]at hl;subst hl;exact⟨arr,rfl,hc⟩
 | (i,v)::vs,(o,n,xs)::ps,arr,cs,rs,hc,hlen,h,hl=>by
  obtain⟨hp,hx⟩:=h 0 (i,v) (o,n,xs) rfl rfl
  simp only[lay]at hl
  split at hl
  ·rename_i hJ
   have gj:v.cells.size=n:=by rw[← hJ.1,← hx.len];simp
   have kB:o+v.cells.size≤arr.size:=by rw[gj];have:=hc.len;simp at this;omega
   simp only[Instr.fill,hp]
   rw[if_neg (by simp;omega)]
   have rj:=SQ arr v.cells o kB
   refine Ed place vs ps _ _ rs ?_ (by simpa using hlen) (fun i v p hv hp=>h (i+1) v p (by simpa using hv) (by simpa using hp)) hl
   rw[rj]
   have:=hc.oC hx o
   rw[hJ.1]at this
   simpa[gj]using this
  ·cases hl
theorem DH(h:e9 G c H w)(he:jh c w env a):∀ (l:List (Nat×Operand)) {ps:List (Nat×X)},th G l=some ps →
  ps.length=l.length∧∀ (i:Nat) (x:Nat×Operand) (p:Nat×X),l[i]? = some x→ps[i]? = some p→p.1=x.1∧eP c w (a.eval x.2) (ev env p.2)
 | [],ps,hx=>by cases hx;simp
 | (i,x)::r,ps,hx=>by
  simp only[th]at hx
  split at hx
  ·rename_i X l hX hl
   cases hx
   obtain⟨ow,pf⟩:=DH h he r hl
   refine⟨by simp[ow],fun j y p hy hp=>?_⟩
   cases j with
   | zero=>simp at hy hp;subst hy;subst hp;exact⟨rfl,gD h he hX⟩
   | succ j=>simp at hy hp;exact pf j y p hy hp
  ·cases hx
theorem Pw{fs:Array Field}:∀ {ps:List (Nat×X)} {qs:List (Nat×Nat×X)},AK P fs ps=some qs →
  qs.length=ps.length∧∀ (i:Nat) (p:Nat×X) (q:Nat×Nat×X),ps[i]? = some p→qs[i]? = some q→q.2.2=p.2∧∃ f,fs[p.1]? = some f∧q.1=f.offset∧iU P f.type=some q.2.1
 | [],qs,h=>by cases h;simp
 | (i,x)::r,qs,h=>by
  simp only[AK]at h
  split at h
  ·rename_i f l hf hl
   simp only[ai]at h
   obtain⟨n,hn,rfl⟩:=h
   obtain⟨ow,pf⟩:=Pw hl
   refine⟨by simp[ow],fun j p q hp hq=>?_⟩
   cases j with
   | zero=>simp at hp hq;subst hp;subst hq;exact⟨rfl,f,hf,rfl,hn⟩
   | succ j=>simp at hp hq;exact pf j p q hp hq
  ·cases h
theorem JR{l:List (Nat×Nat×X)}{r:List (Nat×Nat×List D)}(h:partsOf env l=some r) :
  r.length=l.length∧∀ (i:Nat) (p:Nat×Nat×X) (q:Nat×Nat×List D),l[i]? = some p→r[i]? = some q→q.1=p.1∧q.2.1=p.2.1∧cellsOf (ev env p.2.2)=some q.2.2:=by
 induction l generalizing r with
 | nil=>simp[partsOf]at h;subst h;simp
 | cons p l ih=>
  obtain⟨o,n,x⟩:=p
  simp only[partsOf]at h
  split at h
  ·rename_i cs l' gQ hl
   cases h
   obtain⟨ow,pf⟩:=ih hl
   refine⟨by simp[ow],fun j p q hp hq=>?_⟩
   cases j with
   | zero=>simp at hp hq;subst hp;subst hq;exact⟨rfl,rfl,gQ⟩
   | succ j=>simp at hp hq;exact pf j p q hp hq
  ·cases h
theorem Ep{α:Type}{l:List α}{n i:Nat}(hl:l.length=n)(hi:i<n):∃ x,l[i]? = some x:=⟨l[i],by simp[hl▸hi]⟩
theorem aaS(h:e9 G c H w)(he:jh c w env a){t:TypeId}{z:List D}{ops:Array (Nat×Operand)}{ps:List (Nat×X)}{qs:List (Nat×Nat×X)}{fs:Array Field}
  (hz:nC P t=some z) (hp:th G ops.toList=some ps) (hu:P.underlying t=some (.struct fs)) (hf:MK P fs=true) (hq:AK P fs ps=some qs)
  (hk:uL env z qs H K):∃ r,(Instr.build t (ops.map fun(i,x)=>(i,a.eval x))).run P w = .ok r w∧gU G c H w K r w:=by
 unfold uL at hk
 split at hk
 ·rename_i l hl
  split at hk
  ·rename_i cs gQ
   obtain⟨v,hv,_,hc⟩:=uu hz w
   obtain⟨p1,p2⟩:=DH h he ops.toList hp
   obtain⟨q1,q2⟩:=Pw hq
   obtain⟨r1,r2⟩:=JR hl
   have UL:∃ places:Array (Nat×Nat),(fs.mapM fun f=>do pure (f.offset,← sizeOf f.type):Sem (Array (Nat×Nat))).run P w = .ok places w∧∀ (i:Nat) (f:Field) (n:Nat),fs[i]? = some f→iU P f.type=some n→places[i]? = some (f.offset,n):=by
    have key:∀ (l:List Field),(∀ f∈l,(iU P f.type).isSome=true)→∃ pl:List (Nat×Nat),(l.mapM fun f=>do pure (f.offset,← sizeOf f.type):Sem (List (Nat×Nat))).run P w = .ok pl w∧∀ (i:Nat) (f:Field) (n:Nat),l[i]? = some f→iU P f.type=some n→pl[i]? = some (f.offset,n):=by
     intro l
     induction l with
     | nil=>intro _;exact⟨[],by simp,by simp⟩
     | cons f l ih=>
      intro gy
      obtain⟨pl,lM,ia⟩:=ih (fun g hg=>gy g (by simp[hg]))
      obtain⟨n,hn⟩:=cY.1 (gy f (by simp))
      refine⟨(f.offset,n)::pl,?_,fun i g m hg hm=>?_⟩
      ·simp only[dL,Sem.run_bind,oW hn,Result.andThen_ok,Sem.run_pure,lM]
      ·cases i with
       | zero=>simp at hg;subst hg;rw[hn]at hm;cases hm;rfl
       | succ i=>simp at hg ⊢;exact ia i g m hg hm
    obtain⟨pl,lM,ia⟩:=key fs.toList (fun f T1=>b8.1 hf f (by simpa using T1))
    refine⟨pl.toArray,?_,fun i f n hi hn=>by simpa using ia i f n (by simpa using hi) hn⟩
    rw[dZ,Sem.run_map,lM]
    rfl
   obtain⟨places,lM,ia⟩:=UL
   obtain⟨lU,tM,mZ⟩:=Ed (c:=c) (w:=w) (places[·]?) (ops.toList.map fun x=>(x.1,a.eval x.2)) l v.cells z cs (hc c w) (by simp[r1,q1,p1]) (fun i x q hx zY=>by
    simp only[ar,ai]at hx
    obtain⟨y,hy,rfl⟩:=hx
    have hi:i<ops.toList.length:=(ae.1 hy).1
    obtain⟨p,tQ⟩:=Ep p1 hi
    obtain⟨s,NU⟩:=Ep (q1.trans p1) hi
    obtain⟨e1,e2⟩:=p2 i y p hy tQ
    obtain⟨e3,f,Nq,T5,Nr⟩:=q2 i p s tQ NU
    obtain⟨e4,e5,e6⟩:=r2 i s q NU zY
    refine⟨?_,?_⟩
    ·rw[e1]at Nq
     have:=ia _ f _ Nq Nr
     simp[this,e4,e5,T5]
    ·rw[e3]at e6
     exact wK e2 e6) gQ
   refine⟨.agg lU,?_,?_⟩
   ·simp only[Instr.build,Sem.run_bind,hv,Result.andThen_ok,run_underlying hu,lM]
    have:(Array.map (fun x=>(x.fst,a.eval x.snd)) ops).toList=ops.toList.map fun x=>(x.1,a.eval x.2):=by simp
    simp only[this,tM]
    rfl
   ·have:=mZ.agg
    exact .plain h hk (by simpa using this)
  ·exact hk.elim
 ·exact hk.elim
theorem aaT(h:e9 G c H w)(he:jh c w env a){t e:TypeId}{n sz:Nat}{z:List D}{ops:Array (Nat×Operand)}{ps:List (Nat×X)}
  (hz:nC P t=some z) (hp:th G ops.toList=some ps) (hu:P.underlying t=some (.array n e)) (hs:iU P e=some sz)
  (hk:uL env z (ps.map fun p=>(p.1*sz,sz,p.2)) H K):∃ r,(Instr.build t (ops.map fun(i,x)=>(i,a.eval x))).run P w = .ok r w∧gU G c H w K r w:=by
 unfold uL at hk
 split at hk
 ·rename_i l hl
  split at hk
  ·rename_i cs gQ
   obtain⟨v,hv,_,hc⟩:=uu hz w
   obtain⟨p1,p2⟩:=DH h he ops.toList hp
   obtain⟨r1,r2⟩:=JR hl
   obtain⟨lU,tM,mZ⟩:=Ed (c:=c) (w:=w) (fun i=>some (i*sz,sz)) (ops.toList.map fun x=>(x.1,a.eval x.2)) l v.cells z cs (hc c w) (by simp[r1,p1]) (fun i x q hx zY=>by
    simp only[ar,ai]at hx
    obtain⟨y,hy,rfl⟩:=hx
    have hi:i<ops.toList.length:=(ae.1 hy).1
    obtain⟨p,tQ⟩:=Ep p1 hi
    obtain⟨e1,e2⟩:=p2 i y p hy tQ
    obtain⟨e4,e5,e6⟩:=r2 i (p.1*sz,sz,p.2) q (by simp[tQ]) zY
    exact⟨by simp[e4,e5,e1],wK e2 e6⟩) gQ
   refine⟨.agg lU,?_,?_⟩
   ·simp only[Instr.build,Sem.run_bind,hv,Result.andThen_ok,run_underlying hu,oW hs]
    have:(Array.map (fun x=>(x.fst,a.eval x.snd)) ops).toList=ops.toList.map fun x=>(x.1,a.eval x.2):=by simp
    simp only[this,tM]
    rfl
   ·have:=mZ.agg
    exact .plain h hk (by simpa using this)
  ·exact hk.elim
 ·exact hk.elim
end
end Go.AL
namespace Go.AL
open Go
section
variable{P:Program}{G:GT}{c:Ctx}{H:U}{w:World}{K:ik}{env:fD}{a:Act}
theorem FU{L:Loc}(hv:L.ij=false)(h0:L.base=0)(v k sz len cap:Nat)(ht:L.top=cap*sz)(hc:len≤cap)(hm:cap≤maxLen) :
  eP (c.set v k L) w (.slice (some ⟨L.b,0,none⟩) len cap) (.eN v k sz 0 len):=by
 have:=eP.eN (c:=c.set v k L) (w:=w) v k sz 0 len cap L (Ctx.py _ _ _ _) hv hc hm (by simp[h0,ht])
 simpa[h0]using this
theorem Ej(zs:List Value)(z:List D)(hz:∀ c w,Cells c w zs z)(n:Nat):Cells c w (List.replicate n zs).flatten (List.replicate n z).flatten:=by
 induction n with
 | zero=>exact Cells.nil
 | succ n ih=>rw[bJ,bJ,aQ,aQ];exact(hz c w).append ih
theorem FY(zs:Array Value)(n:Nat)(h0:0<zs.size):((Array.range (n*zs.size)).map (fun i=>zs[i % zs.size]!)).toList=(List.replicate n zs.toList).flatten:=by
 apply bK
 intro i
 simp only[Array.toList_map,Array.toList_range,ar]
 by_cases hi:i<n*zs.size
 ·rw[bX hi]
  have key:∀ (n i:Nat),i<n*zs.size→(List.replicate n zs.toList).flatten[i]? = some (zs[i % zs.size]!):=by
   intro n
   induction n with
   | zero=>intro i hi;simp at hi
   | succ n ih=>
    intro i hi
    rw[bJ,aQ]
    by_cases hl:i<zs.size
    ·rw[ag (by simpa using hl),ec hl]
     simp[hl]
    ·rw[ak (by simpa using hl)]
     have:i-zs.size<n*zs.size:=by rw[bg]at hi;omega
     rw[show i-zs.toList.length=i-zs.size by simp,ih _ this,← Nat.mod_eq_sub_mod (by omega)]
  rw[key n i hi]
  rfl
 ·rw[aG (by simp;omega)]
  rw[aG (by simp;omega)]
  rfl
theorem aaU(h:e9 G c H w){al:Al}(fO:kH H al)(he:jh c w env a){t e:TypeId}{sz n:Nat}{z:List D}{ops:Array (Nat×Operand)}{ps:List (Nat×X)}
  (hu:P.underlying t=some (.slice e)) (hz:nC P e=some z) (hs:iU P e=some sz) (hp:th G ops.toList=some ps) (xx:z.length=sz) (jd:0<sz) (kB:n*sz≤16777216)
  (hk:yS env e sz z n ps al K):∃ r w',(Instr.buildSlice t n (ops.map fun(i,x)=>(i,a.eval x))).run P w = .ok r w'∧gU G c H w K r w':=by
 unfold yS at hk
 split at hk
 ·rename_i l hl
  split at hk
  ·rename_i cs gQ
   obtain⟨zv,sE,_,pe⟩:=uu hz w
   obtain⟨p1,p2⟩:=DH h he ops.toList hp
   obtain⟨r1,r2⟩:=JR hl
   have rk:zv.cells.size=sz:=by have:=(pe c w).len;simp at this;omega
   have NY:Cells c w ((Array.range (n*sz)).map (fun i=>zv.cells[i % zv.cells.size]!)).toList (List.replicate n z).flatten:=by
    rw[← rk,FY zv.cells n (by omega)]
    exact Ej _ _ pe n
   obtain⟨lU,tM,mZ⟩:=Ed (c:=c) (w:=w) (fun i=>some (i*sz,sz)) (ops.toList.map fun x=>(x.1,a.eval x.2)) l _ _ cs NY (by simp[r1,p1]) (fun i x q hx zY=>by
    simp only[ar,ai]at hx
    obtain⟨y,hy,rfl⟩:=hx
    have hi:i<ops.toList.length:=(ae.1 hy).1
    obtain⟨p,tQ⟩:=Ep p1 hi
    obtain⟨e1,e2⟩:=p2 i y p hy tQ
    obtain⟨e4,e5,e6⟩:=r2 i (p.1*sz,sz,p.2) q (by simp[tQ]) zY
    exact⟨by simp[e4,e5,e1],wK e2 e6⟩) gQ
   have hlen:lU.size=n*sz:=by
    have h1:=mZ.len
    have h2:cs.length=(List.replicate n z).flatten.length:=by
     clear hk mZ tM h1 NY
     have key:∀ (ps:List (Nat×Nat×List D)) (cs rs:List D),lay ps cs=some rs→rs.length=cs.length:=by
      intro ps
      induction ps with
      | nil=>intro cs rs h;simp[lay]at h;subst h;rfl
      | cons p ps ih=>
       intro cs rs h
       obtain⟨o,m,xs⟩:=p
       simp only[lay]at h
       split at h
       ·rw[ih _ _ h];simp;omega
       ·cases h
     exact key _ _ _ gQ
    rw[h2]at h1
    simp[xx]at h1
    exact h1
   obtain⟨L,h1,h2,h3,h4,h5,h6⟩:=AD h w (iC.refl w) e lU.toList cs lU.size lU (fO _).pX mZ (by rw[← cH,dy]) (Nat.le_refl _)
   refine⟨.slice (some ⟨w.heap.size,0,none⟩) n n,w.alloc (.cells lU e),?_,?_⟩
   ·have U3:¬ n*sz>2 ^ 24:=by omega
    simp only[Instr.buildSlice,Sem.run_bind,run_underlying hu,Result.andThen_ok,oW hs,Sem.run_ite]
    rw[if_neg U3]
    have ND:(Array.map (fun x=>(x.fst,a.eval x.snd)) ops).toList=ops.toList.map fun x=>(x.1,a.eval x.2):=by simp
    by_cases h0:n*sz=0
    ·have hn:n=0:=by
      rcases Nat.mul_eq_zero.1 h0 with h|h<;>omega
     subst hn
     simp only[cc]at tM
     simp only[cc,if_true,Sem.run_pure,Result.andThen_ok,ND]
     have e0:(Array.map (fun x=>(#[]:Array Value)[x % (#[]:Array Value).size]!) (Array.range 0))=Array.map (fun i=>zv.cells[i % zv.cells.size]!) (Array.range 0):=by simp
     rw[e0,tM]
     simp[newRow]
    ·rw[if_neg h0]
     simp only[Sem.run_bind,sE,Result.andThen_ok,Sem.run_pure,ND,tM]
     simp[newRow]
   ·have hp:=FU (c:=c) (w:=w.alloc (.cells lU e)) h1 h3 al.1 0 sz n n (by rw[h4,hlen]) (Nat.le_refl _) (by
     have:n≤n*sz:=Nat.le_mul_of_pos_right n jd
     unfold maxLen;omega)
    rw[h2]at hp
    exact⟨_,_,_,hk,h5,hp,h6⟩
  ·exact hk.elim
 ·exact hk.elim
theorem ab8{t:TypeId}{n:Nat}(hs:iU P t=some n){v:Value}(hv:v.cells.size=n)(b o:Nat) :
  (Instr.storeAt t (.pointer (some ⟨b,o,none⟩)) v).run P w=(storeCells ⟨b,o,none⟩ v.cells.toList).run P w:=by
 simp[Instr.storeAt,Instr.sureAddr,storeVar,oW hs,hv]
theorem Po(h:e9 G c H w){v g o:Nat}{t t':TypeId}{cs xs:List D}(hv:H[v]? = some (.row t' g cs)){u x:Value}(hu:eP c w u (.ptr v g o)){n:Nat}(hs:iU P t=some n)
  (hx:Cells c w x.cells.toList xs) (hn:xs.length=n) (kB:o+n≤cs.length) (hk:K .any (H.set v (.row t' g (cs.take o++xs++cs.drop (o+n))))) :
  ∃ w',(Instr.storeAt t u x).run P w = .ok () w'∧gU G c H w K undef w':=by
 cases hu with
 | ptr _ _ _ L eU gg=>
  obtain⟨arr,h1,h2,h3,h4⟩:=uo h hv eU gg
  have qq:x.cells.size=n:=by have:=hx.len;simp at this;omega
  have eX:=run_storeCells_at P L.b (L.base+o) t' x.cells.toList 0 arr w h1 (by simp;omega) hx.one
  simp only[bQ]at eX
  have hw:=Br h hv eU gg h1 (arr.toList.take (L.base+o)++x.cells.toList++arr.toList.drop (L.base+o+x.cells.toList.length)).toArray
   (by simp;omega) h2 (cs.take o++xs++cs.drop (o+n)) (by simp;omega) (fun i d hd=>by
    have E':=h4.oC hx o
    rw[hn]at E'
    obtain⟨y,hy,h5,h6⟩:=E'.get hd
    refine⟨y,?_,h5,h6⟩
    rw[← hy]
    simp only[cO]
    have Vg:x.cells.toList.length=n:=by simpa using qq
    have ib:(List.take (L.base+o) arr.toList).length=L.base+o:=by simp;omega
    have gS:(List.take o (List.take cs.length (List.drop L.base arr.toList))).length=o:=by simp;omega
    by_cases c1:i<o
    ·rw[ag (by simp;omega),ag (by rw[ib];omega),ag (by simp;omega),ag (by rw[gS];omega)]
     simp only[az,aB]
     rw[if_pos (by omega),if_pos c1,if_pos (by omega)]
    ·by_cases c2:i<o+n
     ·rw[ag (by simp;omega),ak (by rw[ib];omega),ag (by simp;omega),ak (by rw[gS];omega),ib,gS]
      congr 1
      omega
     ·have l6:i<cs.length:=by have:=(ae.1 hd).1;simp at this;omega
      rw[ak (by simp;omega),ak (by simp;omega)]
      simp only[aB,az,ay,ib,gS,Vg]
      rw[if_pos (by omega)]
      congr 1
      omega)
  exact⟨_,by rw[ab8 hs qq];exact eX,.any,_,c,hk,hw.1,.any _,hw.2⟩
theorem abl(h:e9 G c H w){t:TypeId}(hs:iU P t=some 1){p x:D}{u v:Value}(h1:eP c w u p)(h2:eP c w v x)(hk:Bc p x H K) :
  ∃ w',(Instr.storeAt t u v).run P w = .ok () w'∧gU G c H w K undef w':=by
 unfold Bc at hk
 split at hk
 ·rename_i v0 g0 o
  split at hk
  ·rename_i t' cs fR
   obtain⟨fj,IH,hk⟩:=hk
   have hv:=pW fR
   dsimp only at hv
   refine Po h hv h1 hs (wK h2 (abo IH)) rfl (by omega) ?_
   have e:cs.take o ++ [x]++cs.drop (o+1)=cs.set o x:=by
    rw[cB,if_pos fj]
    simp
   rw[e]
   exact hk
  ·exact hk.elim
 ·exact hk.elim
theorem abm(h:e9 G c H w){t:TypeId}{n:Nat}(hs:iU P t=some n){p x:D}{u v:Value}(h1:eP c w u p)(h2:eP c w v x)(hk:Bd n p x H K) :
  ∃ w',(Instr.storeAt t u v).run P w = .ok () w'∧gU G c H w K undef w':=by
 unfold Bd at hk
 split at hk
 ·rename_i v' g' o xs I'
  split at hk
  ·rename_i t' cs fR
   obtain⟨hn,kB,hk⟩:=hk
   exact Po h (pW fR) h1 hs (wK h2 I') hn kB hk
  ·exact hk.elim
 ·exact hk.elim
theorem aa2(h:e9 G c H w){t:TypeId}{f n:Nat}{fs:Array Field}{fd:Field}(hu:P.underlying t=some (.struct fs))(hf:fs[f]? = some fd)(hs:iU P fd.type=some n)(hn:0<n)
  {x:D} {u:Value} (h1:eP c w u x) (hk:zi fd.offset x H K):∃ r,(Instr.fieldAt t u f).run P w = .ok r w∧gU G c H w K r w:=by
 have gK:∀ b o,(Instr.fieldAt t (.pointer (some ⟨b,o,none⟩)) f).run P w = .ok (.pointer (some ⟨b,o+fd.offset,none⟩)) w:=fun b o=>by
  simp only[Instr.fieldAt,Sem.run_bind,run_underlying hu,Result.andThen_ok,hf]
  simp only[Instr.sureAddr,Sem.run_pure,Result.andThen_ok,fieldPlace,Sem.run_bind,oW hs,Sem.run_ite]
  rw[if_neg (by omega)]
  simp[Addr.add_lit]
 unfold zi at hk
 split at hk
 ·rename_i v g o
  cases h1 with
  | ptr _ _ _ L eU hv=>
   refine⟨_,gK _ _,.plain h hk ?_⟩
   have:=eP.ptr (c:=c) (w:=w) v g (o+fd.offset) L eU hv
   rwa [← br]at this
 ·obtain⟨b,p,rfl,hF,hc⟩:=uP h1
  exact⟨_,gK _ _,.plain h hk (HG hF (hc.drop _))⟩
 ·exact hk.elim
theorem Pn(h:e9 G c H w){t:TypeId}{n:Nat}{b:Bool}(ha:mG P t=some b)(hs:iU P t=some n){vs:List Value}{cs:List D}(hc:Cells c w vs cs){off:Nat}
  (hk:u0 off n b (.agg cs) H K):∃ r,(part t vs.toArray off).run P w = .ok r w∧gU G c H w K r w:=by
 simp only[u0]at hk
 cases b with
 | true=>
  simp only[if_true]at hk
  refine⟨.agg ((vs.drop off).take n).toArray,?_,.plain h hk.2 ((hc.drop off).take n).agg⟩
  simp[part,A4 ha,oW hs,List.extract_toArray,List.take_drop]
 | false=>
  simp only[bF,if_false]at hk
  split at hk
  ·rename_i d hd
   obtain⟨v,hv,_,hr⟩:=hc.get hd
   refine⟨v,?_,.plain h hk hr⟩
   simp[part,A4 ha,hv]
  ·exact hk.elim
theorem aa1(h:e9 G c H w){t:TypeId}{f n:Nat}{b:Bool}{fs:Array Field}{fd:Field}(hu:P.underlying t=some (.struct fs))(hf:fs[f]? = some fd)(ha:mG P fd.type=some b)(hs:iU P fd.type=some n)
  {x:D} {u:Value} (h1:eP c w u x) (hk:u0 fd.offset n b x H K):∃ r,(Instr.field t u f).run P w = .ok r w∧gU G c H w K r w:=by
 have hx:∃ cs,x = .agg cs:=by cases x<;>first|exact⟨_,rfl⟩|exact(show False from hk).elim
 obtain⟨cs,rfl⟩:=hx
 cases h1 with
 | agg vs _ hl h1 h2=>
  obtain⟨r,hr,hp⟩:=Pn h ha hs ⟨hl,h1,h2⟩ hk
  exact⟨r,by simp[Instr.field,run_underlying hu,hf,asAgg,hr],hp⟩
theorem aa4(h:e9 G c H w){t e:TypeId}{sz:Nat}(hu:P.underlying t=some (.slice e))(hs:iU P e=some sz)(jd:0<sz){x i:D}{u v:Value}(h1:eP c w u x)(h2:eP c w v i)(hk:Ag sz x i H K) :
  ∃ r,(Instr.indexAt t u v).run P w = .ok r w∧gU G c H w K r w:=by
 have gK:∀ (ad:Addr) (len cap:Nat) (k:IntKind) (n:Int),0≤n∧n<len→(Instr.indexAt t (.slice (some ad) len cap) (.int k n)).run P w = .ok (.pointer (some (ad.add (n.toNat*sz)))) w:=fun ad len cap k n hn=>by
  simp only[Instr.indexAt,Sem.run_bind,asIntOf,Sem.run_pure,Result.andThen_ok,run_underlying hu,oW hs,Sem.run_ite]
  rw[if_pos hn]
 unfold Ag at hk
 split at hk
 ·rename_i fG es k n
  obtain⟨rfl,hn,hk⟩:=hk
  cases h2
  cases h1 with
  | sl ad len cap _ _ g hlen iE iW gj my hc hr=>
   have hi:n.toNat<es.length:=by omega
   cases ad with
   | none=>have:=my rfl;omega
   | some ad=>
    refine⟨_,gK ad len cap k n ⟨hn.1,by omega⟩,.plain h hk ?_⟩
    have ia:es[n.toNat]? = some es[n.toNat]:=by simp[hi]
    have zG:es.getD n.toNat []=es[n.toNat]:=by simp[hi]
    rw[zG]
    have hl:es[n.toNat].length=fG:=gj _ (bH hi)
    obtain⟨d0,jb⟩:∃ d0,es[n.toNat][0]? = some d0:=⟨es[n.toNat][0]'(by omega),by simp⟩
    obtain⟨b,o,e,hF,_,_⟩:=hc n.toNat _ 0 d0 ia jb
    cases e
    rw[Addr.add_lit]
    refine .eZ b (o+n.toNat*fG) _ (g n.toNat) hF (fun j d hd=>?_) (fun j d hd=>hr _ _ j d ia hd)
    obtain⟨b',o',e,_,h3,h4⟩:=hc n.toNat _ j d ia hd
    cases e
    exact⟨by rw[br];exact h3,h4⟩
 ·rename_i v0 g0 fG off len k n
  obtain⟨rfl,hn,hk⟩:=hk
  cases h2
  cases h1 with
  | eN _ _ _ _ _ cap L eU hv iE iW jO=>
   refine⟨_,gK _ len cap k n hn,.plain h hk ?_⟩
   rw[Addr.add_lit,br,← bg]
   exact .ptr _ _ _ L eU hv
  | kT=>omega
 ·exact hk.elim
