/- Part 1 of the proof of skewer.skewerlaw15.TableValues. -/
import Derived.RangeFuncIn
import Derived.TacticsIn
import Derived.OrdersIn
import Derived.Laws.CopyRow
import Derived.Laws.AppendOwn
import Derived.Laws.OwnMore
import Derived.Laws.Concat
import Derived.Laws.Strings
import Derived.Laws.Slices
import Derived.Laws.StructEq
import Derived.Laws.BytesString
set_option linter.all false
namespace Go.AL
open Go
def ae:=@List.getElem?_eq_some_iff
def af:=@Option.bind_eq_some_iff
def ag:=@List.getElem?_append_left
def ah:=@Bool.and_eq_true
def ai:=@Option.map_eq_some_iff
def aj:=@List.map_congr_left
def ak:=@List.getElem?_append_right
def ao:=@List.mem_map
def aq:=@List.mem_cons
def ar:=@List.all_eq_true
def au:=@List.getElem?_map
def av:=@Option.some.injEq
def aw:=@List.append_nil
def ax:=@List.length_append
def ay:=@Option.bind_eq_bind
def az:=@List.length_pos_iff
def aA:=@List.getElem?_take
def aB:=@List.getElem?_drop
def aC:=@List.length_eq_zero_iff
def aD:=@List.mem_iff_getElem?
def aF:=@List.take_of_length_le
def aG:=@List.length_cons
def aH:=@Option.pure_def
def aI:=@List.getElem?_eq_none
def aJ:=@List.pairwise_cons
def aK:=@List.mem_filter
def aL:=@Nat.lt_of_lt_of_le
def aM:=@List.mem_of_mem_take
def aN:=@List.flatten_cons
def aO:=@Array.getElem?_eq_some_iff
def aP:=@List.nodup_append
def aQ:=@List.mem_flatten
def aR:=@List.mem_append_left
def aS:=@List.length_take
def aT:=@List.map_id
def aU:=@List.nil_append
def aV:=@Option.getD_some
def aW:=@List.mem_cons_of_mem
def aX:=@List.mem_range
def aY:=@Nat.zero_add
def aZ:=@List.drop_of_length_le
def a7:=@List.mem_of_getElem?
def a8:=@Option.map_some
def bg:=@List.pairwise_append
def bh:=@List.mem_flatMap
def bj:=@Nat.add_assoc
def bk:=@List.eq_nil_of_length_eq_zero
def bn:=@List.take_append_of_le_length
def bp:=@Nat.add_mul
def bq:=@Nat.lt_or_ge
def br:=@List.length_drop
def bt:=@List.append_assoc
def bw:=@List.mem_append_right
def bx:=@Nat.mul_le_mul_right
def bz:=@List.pairwise_iff_getElem
def bA:=@List.map_map
def bB:=@List.countP_cons
def bC:=@List.flatMap_append
def bE:=@Array.getElem?_toList
def bF:=@List.getElem?_set
def bG:=@Array.getElem?_setIfInBounds_ne
def bH:=@Bool.false_eq_true
def bI:=@Array.toArray_toList
def bJ:=@List.getElem_mem
def bK:=@List.cons_append
def bL:=@List.replicate_succ
def bM:=@List.ext_getElem?
def bN:=@Array.getElem?_modify
def bO:=@List.take_append_drop
def bP:=@List.length_set
def bQ:=@List.findIdx?_eq_some_iff_getElem
def bR:=@Array.getD_eq_getD_getElem?
def bS:=@Nat.add_zero
def bT:=@List.drop_eq_getElem_cons
def bU:=@Nat.succ_mul
def bV:=@List.range'_succ
def bW:=@List.mem_filterMap
def bX:=@List.mem_of_mem_drop
def bY:=@List.cons.injEq
def bZ:=@List.getElem?_range
def b7:=@List.drop_eq_nil_of_le
def b8:=@Int.le_refl
def b9:=@Array.getElem?_append_left
def cc:=@Array.all_eq_true_iff_forall_mem
def cd:=@List.mem_cons_self
def cg:=@Int.emod_lt_of_pos
def cj:=@List.filter_append
def cm:=@Array.getElem?_eq_getElem
def cp:=@List.findIdx?_eq_none_iff
def cr:=@Nat.zero_mul
def ct:=@List.nodup_cons
def cu:=@Bool.or_eq_true
def cv:=@List.eq_nil_iff_forall_not_mem
def cw:=@List.range_eq_range'
def cy:=@Nat.pow_le_pow_right
def cz:=@Int.emod_nonneg
def cA:=@List.getElem?_set_ne
def cB:=@List.getElem?_cons_succ
def cD:=@Int.toNat_of_nonneg
def cE:=@List.take_succ_cons
def cF:=@List.filter_eq_nil_iff
def cG:=@List.length_pos_of_mem
def cH:=@List.foldl_cons
def cI:=@List.length_nil
def cJ:=@Classical.choose_spec
def cK:=@List.countP_le_length
def cL:=@List.filter_nil
def cM:=@Array.size_append
def cN:=@List.set_append_left
def cO:=@List.set_eq_take_append_cons_drop
def cP:=@List.take_take
def cQ:=@Nat.add_comm
def cS:=@List.isEmpty_iff
def cT:=@List.flatten_nil
def cU:=@Array.length_toList
def cV:=@Int.add_assoc
def cW:=@Option.some.inj
def cY:=@List.count_append
def cZ:=@Nat.eq_of_beq_eq_true
def c6:=@List.getElem?_toArray
def c7:=@List.contains_iff_mem
def c8:=@List.not_mem_nil
def c9:=@List.getElem_map
def da:=@List.count_singleton
def db:=@Array.toList_append
def de:=@List.mem_take_iff_getElem
def dg:=@Option.isSome_iff_exists
def dh:=@List.Sublist.append_left
def di:=@Nat.mul_comm
def dj:=@Int.add_sub_cancel
def dm:=@List.length_filterMap_le
def dp:=@List.countP_append
def dq:=@List.eq_of_mem_replicate
def dt:=@List.Pairwise.imp_of_mem
def du:=@List.count_pos_iff
def dv:=@List.take_zero
def dw:=@List.drop_drop
def dx:=@Iff.rfl
def dy:=@List.getElem?_replicate
def dz:=@List.size_toArray
def dA:=@Decidable.not_not
def dB:=@Array.getElem?_eq_none
def dC:=@List.sublist_cons_self
def dD:=@List.getElem?_set_self
def dE:=@List.append_eq_nil_iff
def dF:=@List.take_length
def dH:=@Prod.ext
def dJ:=@Array.mem_filter
def dK:=@List.any_eq_true
def dM:=@Ne.symm
def dO:=@List.singleton_append
def dQ:=@Nat.le_of_ble_eq_true
def dR:=@List.contains_eq_mem
def dS:=@Nat.pow_succ
def dT:=@List.drop_append_of_le_length
def dV:=@Nat.mul_le_mul_left
def dX:=@List.flatten_append
def dY:=@List.mapM_cons
def dZ:=@List.drop_zero
def ea:=@Nat.eq_zero_or_pos
def ec:=@Bool.false_or
def ef:=@Prod.mk.injEq
def ei:=@List.exists_cons_of_ne_nil
def ej:=@Function.comp_def
def eo:=@List.pairwise_map
def et:=@Int.toNat_natCast
def eu:=@Int.not_lt
def ew:=@Array.mapM_eq_mapM_toList
def ey:=@Array.ext'
def eA:=@Nat.mod_eq_of_lt
def eB:=@Nat.mul_le_mul_right_iff
def eC:=@List.length_erase_of_mem
def eD:=@Array.toList_inj
def eE:=@List.filter_cons_of_pos
def eF:=@List.filter_cons_of_neg
def eG:=@Bool.decide_and
def eH:=@List.append_inj
def eI:=@Array.getElem?_mapIdx
def eJ:=@Bool.decide_or
def eM:=@List.Pairwise.sublist
def eN:=@List.perm_append_comm
def eO:=@Nat.not_lt
def eP:=@List.map_drop
def eQ:=@Nat.mul_assoc
def eR:=@Nat.min_zero
def eS:=@Int.le_trans
inductive D where
 | any
 | val (v:Value)
 | agg (cs:List D)
 | tup (cs:List D)
 | sl (sz:Nat) (es:List (List D))
 | emp
 | eT (v g sz off len:Nat)
 | ptr (v g off:Nat)
 | fh (cs:List D)
 | omap (v:Nat)
 | fn (fn:Fn) (first captured:List D)
 | gP (v:Nat)
 deriving Inhabited
abbrev D.i(n:Int):D:=.val (.int .i64 n)
abbrev D.b(x:Bool):D:=.val (.bool x)
abbrev Env:=List (Nat×D)
def Env.get:Env→Nat→D
 | [],_=>.any
 | (k,d)::r,j=>match Nat.beq k j with
  | true=>d
  | false=>Env.get r j
theorem Env.rE(k:Nat)(d:D)(r:Env)(j:Nat):Env.get ((k,d)::r) j=if k=j then d else Env.get r j:=by
 simp only[Env.get]
 by_cases h:k=j
 ·rw[if_pos h,h,Nat.beq_refl]
 ·have:Nat.beq k j=false:=by
   cases hb:Nat.beq k j with
   | false=>rfl
   | true=>exact absurd (cZ hb) h
  rw[if_neg h,this]
structure Loc where
 b:Nat
 base:Nat
 top:Nat
 iv:Bool:=false
structure Ctx where
 ι:Nat→Nat→Option Loc
 F:Nat→Prop
 RT:Nat→Option (Nat×Array Tmp×Code×Code)
inductive eV(c:Ctx)(w:World):Value→D→Prop
 | any (v:Value):eV c w v .any
 | val (v:Value):eV c w v (.val v)
 | agg (vs:List Value) (ds:List D) (hl:vs.length=ds.length) (h1:∀ v∈vs,v.oneCell'=true)
   (h:∀ (i:Nat) (v:Value) (d:D),vs[i]? = some v→ds[i]? = some d→eV c w v d):eV c w (.agg vs.toArray) (.agg ds)
 | tup (vs:List Value) (ds:List D) (hl:vs.length=ds.length)
   (h:∀ (i:Nat) (v:Value) (d:D),vs[i]? = some v→ds[i]? = some d→eV c w v d):eV c w (.tuple vs.toArray) (.tup ds)
 | sl (a:Option Addr) (len cap sz:Nat) (es:List (List D)) (g:Nat→Nat→Value)
   (hlen:es.length=len) (iQ:len≤cap) (ji:cap≤maxLen) (gy:∀ e∈es,e.length=sz)
   (mY:a=none→cap=0)
   (hc:∀ (i:Nat) (e:List D) (j:Nat) (d:D),es[i]? = some e→e[j]? = some d→∃ b o,a=some ⟨b,o,none⟩∧c.F b∧w.cell? ⟨b,o+(i*sz+j),none⟩=some (g i j)∧(g i j).oneCell'=true)
   (hr:∀ (i:Nat) (e:List D) (j:Nat) (d:D),es[i]? = some e→e[j]? = some d→eV c w (g i j) d):eV c w (.slice a len cap) (.sl sz es)
 | emp:eV c w (.slice none 0 0) .emp
 | eT (v k sz off len cap:Nat) (L:Loc) (e7:c.ι v k=some L) (hv:L.iv=false) (iQ:len≤cap) (ji:cap≤maxLen)
   (kc:L.base+(off+cap)*sz=L.top):eV c w (.slice (some ⟨L.b,L.base+off*sz,none⟩) len cap) (.eT v k sz off len)
 | lu (v k sz off:Nat) (L:Loc) (e7:c.ι v k=some L) (a:Option Addr):eV c w (.slice a 0 0) (.eT v k sz off 0)
 | ptr (v k off:Nat) (L:Loc) (e7:c.ι v k=some L) (hv:L.iv=false):eV c w (.pointer (some ⟨L.b,L.base+off,none⟩)) (.ptr v k off)
 | fh (b o:Nat) (cs:List D) (g:Nat→Value) (hF:c.F b)
   (hc:∀ (j:Nat) (d:D),cs[j]? = some d→w.cell? ⟨b,o+j,none⟩=some (g j)∧(g j).oneCell'=true)
   (hr:∀ (j:Nat) (d:D),cs[j]? = some d→eV c w (g j) d):eV c w (.pointer (some ⟨b,o,none⟩)) (.fh cs)
 | omap (v:Nat) (L:Loc) (e7:c.ι v 0=some L) (hv:L.iv=false):eV c w (.map (some L.b)) (.omap v)
 | fn (fn:Fn) (fs cs:List Value) (df dc:List D) (gW:fs.length=df.length) (hJ:cs.length=dc.length)
   (h1:∀ (i:Nat) (v:Value) (d:D),fs[i]? = some v→df[i]? = some d→eV c w v d)
   (h2:∀ (i:Nat) (v:Value) (d:D),cs[i]? = some v→dc[i]? = some d→eV c w v d):eV c w (.func fn fs.toArray cs.toArray) (.fn fn df dc)
 | gP (v:Nat) (L:Loc) (e7:c.ι v 0=some L) (hv:L.iv=false):eV c w (.func (.yield L.b) #[] #[]) (.gP v)
inductive KK where
 | int (k:IntKind)
 | str
 | bool
 | ints (l:List IntKind)
 deriving Inhabited,DecidableEq
def O1:List IntKind→List Value→Bool
 | [],[]=>true
 | k::ks,.int k' _::vs=>k == k'&&O1 ks vs
 | _,_=>false
def KK.has:KK→Value→Bool
 | .int k,.int k' _=>k == k'
 | .str,.string _=>true
 | .bool,.bool _=>true
 | .ints l,.agg cs=>O1 l cs.toList
 | _,_=>false
inductive oV where
 | ready|busy|vr|tV (id:Nat)
 deriving Inhabited,DecidableEq
inductive Ob where
 | row (t:TypeId) (g:Nat) (cs:List D)
 | map (kk:KK) (es:List (Value×D))
 | gg (rf:Nat) (env:Env) (st:oV)
 | pn (s:ByteArray) (pos:Nat)
 | jd (m:D) (since:Nat) (seen:List Nat)
 | jv
 | dead
 | hole
 deriving Inhabited
def Ob.alive:Ob→Bool
 | .dead | .hole=>false
 | _=>true
def Ob.gen:Ob→Nat
 | .row _ g _=>g
 | _=>0
abbrev U:=List Ob
def jN(c:Ctx)(H:U)(v:Nat)(L:Loc):Prop:=∃ o,H[v]? = some o∧o.alive=true∧c.ι v o.gen=some L
def kj(c:Ctx)(H:U)(b:Nat):Prop:=∃ v L,jN c H v L∧L.iv=false∧L.b=b
def zo(c:Ctx)(w:World)(arr:Array MapEntry)(clock:Nat)(es:List (Value×D)):Prop:=
 arr.size=es.length∧(∀ (i:Nat) (e:MapEntry) (x:Value×D),arr[i]? = some e→es[i]? = some x→e.key=x.1∧eV c w e.val x.2∧e.born=i)∧clock=es.length
def oV.is:oV→Loop→Prop
 | .ready,r=>r.state = .ready∧r.pending=none
 | .busy,r=>r.state = .busy
 | .vr,r=>r.state = .done∧r.pending=some .ret
 | .tV id,r=>r.state = .done∧r.pending=some (.exit id)
def fX(c:Ctx)(w:World):Option Loc→Ob→Prop
 | _,.dead=>True
 | L,.hole=>L=none
 | none,_=>False
 | some L,.row t _ cs=>if L.iv then cs = []else
   ∃ arr:Array Value,w.heap[L.b]? = some (.cells arr t (0,0))∧L.top=arr.size∧L.base+cs.length≤L.top ∧
    ∀ (i:Nat) (d:D),cs[i]? = some d→∃ v,arr[L.base+i]? = some v∧v.oneCell'=true∧eV c w v d
 | some L,.map kk es=>L.iv=false∧(∀ x∈es,kk.has x.1=true)∧∃ arr clock,w.heap[L.b]? = some (.map arr clock)∧zo c w arr clock es
 | some L,.gg rf env st=>L.iv=false∧∃ r:Loop,w.heap[L.b]? = some (.loop r)∧(∀ k,eV c w (r.tmps.getD k undef) (env.get k)) ∧
   (∃ N,c.RT rf=some (N,r.params,r.assign,r.body)∧N≤r.tmps.size)∧st.is r
 | some L,.pn s p=>L.iv=false∧L.base=0∧w.heap[L.b]? = some (.stringIter s p)
 | some L,.jd m since seen=>L.iv=false∧L.base=0∧∃ bm:Nat,eV c w (.map (some bm)) m∧w.heap[L.b]? = some (.mapIter (some bm) since seen.toArray since)
 | some L,.jv=>L.iv=true∨w.heap[L.b]? = some (.deferred (some []))
structure HeapOK(c:Ctx)(H:U)(w:World):Prop where
 inj:∀ v v' L L',jN c H v L→jN c H v' L'→L.iv=false→L'.iv=false→L.b=L'.b→v=v'
 lt:∀ b,kj c H b→b<w.heap.size
 nF:∀ b,kj c H b→¬ c.F b
 iZ:∀ b,c.F b→b<w.heap.size
 out:∀ v k,H.length≤v→c.ι v k=none
 km:∀ v o k,H[v]? = some o→(o = .hole∨(o.alive=true∧o.gen<k))→c.ι v k=none
 ob:∀ (v:Nat) (o:Ob),H[v]? = some o→fX c w (c.ι v o.gen) o
structure Step(n:Nat)(c:Ctx)(H:U)(w:World)(c':Ctx)(H':U)(w':World):Prop where
 os:w'.os=w.os∧w.drawn≤w'.drawn
 tape:w'.tape=w.tape
 output:w'.output=w.output
 size:w.heap.size≤w'.heap.size
 RT:c'.RT=c.RT
 Fm:∀ b,c.F b→c'.F b
 Fn:∀ b,c'.F b→c.F b∨w.heap.size≤b∨kj c H b
 kept:∀ b,b<w.heap.size→¬ kj c H b→w'.heap[b]? = w.heap[b]?
 old:∀ v k L,v<n→c.ι v k=some L→c'.ι v k=some L
 own:∀ b,kj c' H' b→w.heap.size≤b∨kj c H b
theorem Step.refl(n:Nat)(c:Ctx)(H:U)(w:World):Step n c H w c H w:=
 ⟨⟨rfl,Nat.le_refl _⟩,rfl,rfl,Nat.le_refl _,rfl,fun _ h=>h,fun _ h=>.inl h,fun _ _ _=>rfl,fun _ _ _ _ h=>h,fun _ h=>.inr h⟩
theorem Step.trans{n m:Nat}{c c1 c2:Ctx}{H H1 H2:U}{w w1 w2:World}(h1:Step n c H w c1 H1 w1)(h2:Step m c1 H1 w1 c2 H2 w2)(hm:n≤m) :
  Step n c H w c2 H2 w2 where
 os:=⟨h2.os.1.trans h1.os.1,Nat.le_trans h1.os.2 h2.os.2⟩
 tape:=h2.tape.trans h1.tape
 output:=h2.output.trans h1.output
 size:=Nat.le_trans h1.size h2.size
 RT:=h2.RT.trans h1.RT
 Fm b h:=h2.Fm b (h1.Fm b h)
 Fn b h:=by
  rcases h2.Fn b h with h|h|h
  ·exact h1.Fn b h
  ·exact .inr (.inl (Nat.le_trans h1.size h))
  ·rcases h1.own b h with h|h
   ·exact .inr (.inl h)
   ·exact .inr (.inr h)
 kept b hb hn:=by
  rw[h2.kept b (aL hb h1.size) (fun ho=>?_),h1.kept b hb hn]
  rcases h1.own b ho with h|h
  ·omega
  ·exact hn h
 old v k L hv h:=h2.old v k L (by omega) (h1.old v k L hv h)
 own b h:=by
  rcases h2.own b h with h|h
  ·exact .inl (Nat.le_trans h1.size h)
  ·exact h1.own b h
theorem Step.weaken{n m:Nat}{c c':Ctx}{H H':U}{w w':World}(h:Step n c H w c' H' w')(hm:m≤n):Step m c H w c' H' w':=
 { h with old:=fun v k L hv=>h.old v k L (by omega) }
theorem zI{w w':World}{a:Addr}(h:w'.heap[a.block]? = w.heap[a.block]?):w'.cell? a=w.cell? a:=by simp[World.cell?,h]
theorem eV.carry{c c':Ctx}{w w':World}(e7:∀ v k L,c.ι v k=some L→c'.ι v k=some L)(hF:∀ b,c.F b→c'.F b)
  (xR:∀ b o,c.F b→w'.cell? ⟨b,o,none⟩=w.cell? ⟨b,o,none⟩) {v:Value} {d:D} (h:eV c w v d):eV c' w' v d:=by
 induction h with
 | any v=>exact .any _
 | val v=>exact .val _
 | agg vs ds hl h1 h ih=>exact .agg vs _ hl h1 ih
 | tup vs ds hl h ih=>exact .tup vs _ hl ih
 | sl a len cap sz es g hlen iQ ji gy mY hc hr ih=>
  refine .sl a len cap sz _ g hlen iQ ji gy mY ?_ ih
  intro i e j d he hd
  obtain⟨b,o,ha,pC,vO,h1⟩:=hc i e j d he hd
  exact⟨b,o,ha,hF b pC,by rw[xR b _ pC];exact vO,h1⟩
 | emp=>exact .emp
 | eT v k sz off len cap L h hv iQ ji kc=>exact .eT v k sz off len cap L (e7 _ _ _ h) hv iQ ji kc
 | lu v k sz off L h a=>exact .lu v k sz off L (e7 _ _ _ h) a
 | ptr v k off L h hv=>exact .ptr v k off L (e7 _ _ _ h) hv
 | fh b o cs g pC hc hr ih=>
  refine .fh b o _ g (hF b pC) ?_ ih
  intro j d hd
  rw[xR b _ pC]
  exact hc j d hd
 | omap v L h hv=>exact .omap v L (e7 _ _ _ h) hv
 | fn f fs cs df dc gW hJ h1 h2 oN pJ=>exact .fn f fs cs _ _ gW hJ oN pJ
 | gP v L h hv=>exact .gP v L (e7 _ _ _ h) hv
theorem eV.step{n:Nat}{c c':Ctx}{H H':U}{w w':World}(hH:HeapOK c H w)(hs:Step n c H w c' H' w')(hn:H.length≤n){v:Value}{d:D}(h:eV c w v d) :
  eV c' w' v d:=by
 refine h.carry (fun v k L hL=>hs.old v k L ?_ hL) hs.Fm (fun b o hF=>zI (hs.kept b (hH.iZ b hF) (fun ho=>hH.nF b ho hF)))
 rcases bq v H.length with h|h
 ·omega
 ·rw[hH.out v k h]at hL;cases hL
theorem eV.nX{c c':Ctx}{H H':U}{w w':World}(hH:HeapOK c H w)(hs:Step H.length c H w c' H' w'){v:Value}{d:D}(h:eV c w v d):eV c' w' v d:=
 h.step hH hs (Nat.le_refl _)
inductive X where
 | t (k:Nat)
 | c (d:D)
 deriving Inhabited
abbrev fO:=Nat→D
def ev(env:fO):X→D
 | .t k=>env k
 | .c d=>d
def cellsOf:D→Option (List D)
 | .agg cs=>some cs
 | .any | .tup _=>none
 | .val v=>if v.oneCell' then some [.val v]else none
 | d=>some [d]
def one:D→Bool
 | .any | .tup _ | .agg _=>false
 | .val v=>v.oneCell'
 | _=>true
mutual
def closed:D→Bool
 | .any | .val _ | .emp=>true
 | .agg cs | .tup cs | .fh cs=>fy cs
 | .sl _ es=>xv es
 | .eT .. | .ptr .. | .omap _ | .gP _=>false
 | .fn _ a b=>fy a&&fy b
def fy:List D→Bool
 | []=>true
 | d::ds=>closed d&&fy ds
def xv:List (List D)→Bool
 | []=>true
 | e::es=>fy e&&xv es
end
def nS:Value→Value→Bool
 | .int k a,.int k' b=>k == k'&&a == b
 | .string a,.string b=>a == b
 | .bool a,.bool b=>a == b
 | .agg a,.agg b=>a.size == b.size&&(a.toList.zip b.toList).all fun(x,y)=>match x,y with
  | .int k a,.int k' b=>k == k'&&a == b
  | _,_=>false
 | _,_=>false
def A5:List D→Option (List Value)
 | []=>some []
 | .val (.int k n)::r=>(A5 r).map (.int k n :: ·)
 | _::_=>none
def keyOf:D→Option Value
 | .val (.int k n)=>some (.int k n)
 | .val (.string s)=>some (.string s)
 | .val (.bool b)=>some (.bool b)
 | .agg cs=>(A5 cs).map fun l=>.agg l.toArray
 | _=>none
def kI:List (Value×D)→Value→Option D
 | [],_=>none
 | (k,d)::r,j=>if nS j k then some d else kI r j
def jA:List (Value×D)→Value→D→List (Value×D)
 | [],j,x=>[(j,x)]
 | (k,d)::r,j,x=>if nS j k then(j,x)::r else(k,d)::jA r j x
inductive mR where
 | int|bool|str
 deriving Inhabited,DecidableEq
inductive vc where
 | slice|string|map
 deriving Inhabited,DecidableEq
inductive gC where
 | mv (x:X)
 | pick (c a b:X)
 | box (t:TypeId) (x:X)
 | alloc (t:TypeId) (z:List D)
 | build (z:List D) (ps:List (Nat×Nat×X))
 | buildSl (t sz:Nat) (z:List D) (n:Nat) (ps:List (Nat×X))
 | ld1 (x:X)
 | ldN (n:Nat) (x:X)
 | st1 (a x:X)
 | stN (n:Nat) (a x:X)
 | nilck (x:X)
 | arith (op:BinOp) (x y:X)
 | eqS (iq:Bool) (ls:List mR) (neg:Bool) (x y:X)
 | un (op:UnOp) (x:X)
 | conv (k:IntKind) (x:X)
 | b2s (x:X)
 | mkfn (fn:Fn) (first captured:List X)
 | mkmap (kk:KK)
 | mksl (t sz bytes:Nat) (z:List D) (l c:X)
 | slc (sz:Nat) (x:X) (lo hi:Option X)
 | slcS (x:X) (lo hi:Option X)
 | fieldA (off:Nat) (x:X)
 | field (off n:Nat) (iq:Bool) (x:X)
 | idxA (sz:Nat) (x i:X)
 | idxArr (sz n:Nat) (x i:X)
 | idx (sz n:Nat) (iq:Bool) (x i:X)
 | idxStr (x i:X)
 | lookup (kk:KK) (z:D) (ok:Bool) (m k:X)
 | mapUpd (kk:KK) (m k v:X)
 | ext (x:X) (i:Nat)
 | call (f:FuncId) (args:List X)
 | callN (f:FuncId) (args:List X)
 | callv (f:X) (args:List X)
 | app (t sz bytes:Nat) (x y:X)
 | copy (sz:Nat) (x y:X)
 | len (k:vc) (x:X)
 | minmax (isMax:Bool) (xs:List X)
 | nilS (neg:Bool) (x:X)
 | capE (x:X)
 | appZ (t sz bytes:Nat) (z:List D) (x n:X)
 | clr (sz:Nat) (z:List D) (x:X)
 | rangeS (x:X)
 | nextS (x:X)
 | rangeM (x:X)
 | nextM (x:X)
 | entry (x:X)
 deriving Inhabited
structure fC where
 dst:Option Nat
 op:gC
 guard:Option (Nat×Bool):=none
 deriving Inhabited
structure GT where
 g:Nat→Option (List D)
 rt:Nat→Option (Nat×Array Tmp×Code×Code)
 nw:FuncId→Bool:=fun _=>false
instance:CoeFun GT (fun _=>Nat→Option (List D)):=⟨GT.g⟩
inductive ig(c:Ctx)(w:World):List Value→List D→Prop
 | nil:ig c w [] []
 | cons {v d vs ds} (h:eV c w v d) (t:ig c w vs ds):ig c w (v::vs) (d::ds)
structure fj(G:GT)(c:Ctx)(H:U)(w:World):Prop extends HeapOK c H w where
 gl:∀ (g:Nat) (cs:List D),G g=some cs→fy cs=true∧eV c w (.pointer (some ⟨g,0,none⟩)) (.fh cs)
 rt:c.RT=G.rt
abbrev iw:=D→U→Prop
abbrev Al:=Nat×(Ob→U)
def Al.last(H:U):Al:=(H.length,fun ob=>H ++ [ob])
def Al.hole(H:U)(v:Nat):Al:=(v,fun ob=>H.set v ob)
def lR(n:Int):Prop := -9223372036854775808≤n∧n≤9223372036854775807
def zw(op:BinOp)(k:IntKind)(a b:Int)(H:U)(K:iw):Prop:=
 match op with
 | .add=>if k = .i64 then lR (a+b)∧K (.val (.int .i64 (a+b))) H else K (.val (.int k (k.wrap (a+b)))) H
 | .sub=>if k = .i64 then lR (a-b)∧K (.val (.int .i64 (a-b))) H else K (.val (.int k (k.wrap (a-b)))) H
 | .mul=>if k = .i64 then lR (a*b)∧K (.val (.int .i64 (a*b))) H else K (.val (.int k (k.wrap (a*b)))) H
 | .quo=>b≠0∧K (.val (.int k (k.wrap (a.tdiv b)))) H
 | .rem=>b≠0∧K (.val (.int k (a.tmod b))) H
 | .and | .or | .xor | .andNot=>K (.val (.int k (bits op k a b))) H
 | .eql=>K (.val (.bool (a == b))) H
 | .neq=>K (.val (.bool (a != b))) H
 | .lss=>K (.val (.bool (decide (a<b)))) H
 | .leq=>K (.val (.bool (decide (a≤b)))) H
 | .gtr=>K (.val (.bool (decide (a>b)))) H
 | .geq=>K (.val (.bool (decide (a≥b)))) H
 | _=>False
def BR(op:BinOp)(k:IntKind)(a b:Int)(H:U)(K:iw):Prop:=
 match op with
 | .shl=>0≤b∧K (.val (.int k (k.wrap (a*2 ^ (min b.toNat k.bits))))) H
 | .shr=>0≤b∧K (.val (.int k (a.fdiv (2 ^ (min b.toNat k.bits))))) H
 | _=>False
def nR:BinOp→Bool
 | .shl | .shr=>true
 | _=>false
def Hj(op:BinOp)(a b:ByteArray)(H:U)(K:iw):Prop:=
 match op with
 | .eql=>K (.val (.bool (a.data.toList == b.data.toList))) H
 | .neq=>K (.val (.bool (!(a.data.toList == b.data.toList)))) H
 | .add=>((a.size+b.size:Nat):Int)≤9223372036854775807∧K (.val (.string (a++b))) H
 | _=>False
def zB(op:BinOp)(x y:D)(H:U)(K:iw):Prop:=
 match x,y with
 | .val (.int k a),.val (.int k' b)=>if nR op then BR op k a b H K else k=k'∧zw op k a b H K
 | .val (.string a),.val (.string b)=>Hj op a b H K
 | _,_=>False
def B3(op:UnOp)(x:D)(H:U)(K:iw):Prop:=
 match op,x with
 | .not,.val (.bool b)=>K (.val (.bool (!b))) H
 | .neg,.val (.int .i64 n)=>lR (-n)∧K (.val (.int .i64 (-n))) H
 | .xor,.val (.int k n)=>K (.val (.int k (bits .xor k (if k.signed then -1 else k.max) n))) H
 | _,_=>False
def qz:mR→D→D→Option Bool
 | .int,.val (.int k a),.val (.int k' b)=>if k=k' then some (a == b)else none
 | .bool,.val (.bool a),.val (.bool b)=>some (a == b)
 | .str,.val (.string a),.val (.string b)=>some (a.data.toList == b.data.toList)
 | _,_,_=>none
def my:List mR→List D→List D→Option Bool
 | [],[],[]=>some true
 | l::ls,x::xs,y::ys=>match qz l x y,my ls xs ys with
  | some a,some b=>some (a&&b)
  | _,_=>none
 | _,_,_=>none
def tX(iq:Bool)(ls:List mR)(neg:Bool)(x y:D)(H:U)(K:iw):Prop:=
 match iq,x,y with
 | true,.agg a,.agg b=>match my ls a b with
  | some r=>K (.val (.bool (if neg then !r else r))) H
  | none=>False
 | false,x,y=>match my ls [x] [y]with
  | some r=>K (.val (.bool (if neg then !r else r))) H
  | none=>False
 | _,_,_=>False
def Bq(c a b:D)(H:U)(K:iw):Prop:=
 match c with
 | .val (.bool x)=>K (if x then a else b) H
 | _=>False
def rowAt(H:U)(v k:Nat):Option (TypeId×List D):=match H[v]? with
 | some (.row t g cs)=>if g=k then some (t,cs)else none
 | _=>none
def A7(x:D)(H:U)(K:iw):Prop:=
 match x with
 | .ptr v g o=>match rowAt H v g with
  | some (_,cs)=>match cs[o]? with
   | some d=>K d H
   | none=>False
  | none=>False
 | .fh cs=>match cs[0]? with
  | some d=>K d H
  | none=>False
 | _=>False
def A8(n:Nat)(x:D)(H:U)(K:iw):Prop:=
 match x with
 | .ptr v g o=>match rowAt H v g with
  | some (_,cs)=>o+n≤cs.length∧K (.agg ((cs.drop o).take n)) H
  | none=>False
 | .fh cs=>n≤cs.length∧K (.agg (cs.take n)) H
 | _=>False
def BU(a x:D)(H:U)(K:iw):Prop:=
 match a with
 | .ptr v g o=>match rowAt H v g with
  | some (t,cs)=>o<cs.length∧one x=true∧K .any (H.set v (.row t g (cs.set o x)))
  | none=>False
 | _=>False
def BV(n:Nat)(a x:D)(H:U)(K:iw):Prop:=
 match a,cellsOf x with
 | .ptr v g o,some xs=>match rowAt H v g with
  | some (t,cs)=>xs.length=n∧o+n≤cs.length∧K .any (H.set v (.row t g (cs.take o++xs++cs.drop (o+n))))
  | none=>False
 | _,_=>False
def zC(t:TypeId)(x:D)(al:Al)(K:iw):Prop:=
 match cellsOf x with
 | some cs=>K (.ptr al.1 0 0) (al.2 (.row t 0 cs))
 | none=>False
def lay:List (Nat×Nat×List D)→List D→Option (List D)
 | [],cs=>some cs
 | (o,n,xs)::r,cs=>if xs.length=n∧o+n≤cs.length then lay r (cs.take o++xs++cs.drop (o+n))else none
def partsOf(env:fO):List (Nat×Nat×X)→Option (List (Nat×Nat×List D))
 | []=>some []
 | (o,n,x)::r=>match cellsOf (ev env x),partsOf env r with
  | some cs,some l=>some ((o,n,cs)::l)
  | _,_=>none
def vh(env:fO)(z:List D)(ps:List (Nat×Nat×X))(H:U)(K:iw):Prop:=
 match partsOf env ps with
 | some l=>match lay l z with
  | some cs=>K (.agg cs) H
  | none=>False
 | none=>False
def zD(env:fO)(t sz:Nat)(z:List D)(n:Nat)(ps:List (Nat×X))(al:Al)(K:iw):Prop:=
 match partsOf env (ps.map fun p=>(p.1*sz,sz,p.2))with
 | some l=>match lay l (List.replicate n z).flatten with
  | some cs=>K (.eT al.1 0 sz 0 n) (al.2 (.row t 0 cs))
  | none=>False
 | none=>False
def z6(off:Nat)(x:D)(H:U)(K:iw):Prop:=
 match x with
 | .ptr v g o=>K (.ptr v g (o+off)) H
 | .fh cs=>K (.fh (cs.drop off)) H
 | _=>False
def vC(off n:Nat)(iq:Bool)(x:D)(H:U)(K:iw):Prop:=
 match x with
 | .agg cs=>if iq then off+n≤cs.length∧K (.agg ((cs.drop off).take n)) H else match cs[off]? with
  | some d=>K d H
  | none=>False
 | _=>False
def AY(sz:Nat)(x i:D)(H:U)(K:iw):Prop:=
 match x,i with
 | .sl fV es,.val (.int _ n)=>fV=sz∧(0≤n∧n<es.length)∧K (.fh (es.getD n.toNat [])) H
 | .eT v g fV off len,.val (.int _ n)=>fV=sz∧(0≤n∧n<len)∧K (.ptr v g ((off+n.toNat)*sz)) H
 | _,_=>False
def AZ(sz n:Nat)(x i:D)(H:U)(K:iw):Prop:=
 match x,i with
 | .ptr v g o,.val (.int _ k)=>(0≤k∧k<n)∧K (.ptr v g (o+k.toNat*sz)) H
 | .fh cs,.val (.int _ k)=>(0≤k∧k<n)∧K (.fh (cs.drop (k.toNat*sz))) H
 | _,_=>False
def A1(sz n:Nat)(iq:Bool)(x i:D)(H:U)(K:iw):Prop:=
 match x,i with
 | .agg cs,.val (.int _ k)=>(0≤k∧k<n)∧vC (k.toNat*sz) sz iq (.agg cs) H K
 | _,_=>False
def A2(x i:D)(H:U)(K:iw):Prop:=
 match x,i with
 | .val (.string s),.val (.int _ k)=>(0≤k∧k<s.size)∧K (.val (.int .u8 ((s.data.toList.getD k.toNat 0).toNat))) H
 | _,_=>False
def jU(H:U)(v:Nat):Option (KK×List (Value×D)):=match H[v]? with
 | some (.map kk es)=>some (kk,es)
 | _=>none
def Bb(pe:KK)(z:D)(ok:Bool)(m k:D)(H:U)(K:iw):Prop:=
 match m,keyOf k with
 | .omap v,some kv=>match jU H v with
  | some (kk,es)=>kk=pe∧kk.has kv=true∧(match kI es kv with
    | some d=>K (if ok then .tup [d,.val (.bool true)]else d) H
    | none=>K (if ok then .tup [z,.val (.bool false)]else z) H)
  | none=>False
 | _,_=>False
def Bd(pe:KK)(m k x:D)(H:U)(K:iw):Prop:=
 match m,keyOf k with
 | .omap v,some kv=>match jU H v with
  | some (kk,es)=>kk=pe∧kk.has kv=true∧K .any (H.set v (.map kk (jA es kv x)))
  | none=>False
 | _,_=>False
def z1(x:D)(i:Nat)(H:U)(K:iw):Prop:=
 match x with
 | .tup ds=>match ds[i]? with
  | some d=>K d H
  | none=>False
 | _=>False
def Bi(t sz bytes:Nat)(z:List D)(l c:D)(al:Al)(K:iw):Prop:=
 match l,c with
 | .val (.int _ n),.val (.int _ m)=>(0≤n∧n≤m∧m≤9223372036854775807∧(bytes:Int)*m≤281474976710656)∧K (.eT al.1 0 sz 0 n.toNat) (al.2 (.row t 0 (List.replicate m.toNat z).flatten))
 | _,_=>False
def ij(env:fO):Option X→Int→Option Int
 | none,n=>some n
 | some x,_=>match ev env x with
  | .val (.int _ n)=>some n
  | _=>none
def BS(env:fO)(sz:Nat)(x:D)(lo hi:Option X)(H:U)(K:iw):Prop:=
 match x with
 | .sl fV es=>match ij env lo 0,ij env hi es.length with
  | some l,some h=>fV=sz∧(0≤l∧l≤h∧h≤es.length)∧K (.sl sz ((es.drop l.toNat).take (h.toNat-l.toNat))) H
  | _,_=>False
 | .eT v g fV off len=>match ij env lo 0,ij env hi len with
  | some l,some h=>fV=sz∧(0≤l∧l≤h∧h≤len)∧K (.eT v g sz (off+l.toNat) (h.toNat-l.toNat)) H
  | _,_=>False
 | .emp=>match ij env lo 0,ij env hi 0 with
  | some l,some h=>(l=0∧h=0)∧K .emp H
  | _,_=>False
 | _=>False
def yL(env:fO)(x:D)(lo hi:Option X)(H:U)(K:iw):Prop:=
 match x with
 | .val (.string s)=>match ij env lo 0,ij env hi s.size with
  | some l,some h=>(0≤l∧l≤h∧h≤s.size)∧K (.val (.string (s.extract l.toNat h.toNat))) H
  | _,_=>False
 | _=>False
def jM(sz:Nat)(H:U):D→Option (List D×Nat)
 | .sl fV es=>if fV=sz then some (es.flatten,es.length)else none
 | .emp=>some ([],0)
 | .eT v g fV off len=>match rowAt H v g with
  | some (_,cs)=>if fV=sz∧(off+len)*sz≤cs.length then some ((cs.drop (off*sz)).take (len*sz),len)else none
  | none=>none
 | _=>none
def zu(t sz bytes:Nat)(x y:D)(H:U)(al:Al)(K:iw):Prop:=
 match jM sz H y with
 | some (ys,n)=>match x with
  | .eT v g fV off len=>match rowAt H v g with
   | some (t',cs)=>(fV=sz∧t'=t∧(off+len)*sz≤cs.length∧(len+n)*bytes≤140737488355328∧len+n≤9223372036854775807) ∧
     K (.eT v (g+1) sz 0 (len+n)) (H.set v (.row t (g+1) ((cs.drop (off*sz)).take (len*sz)++ys)))
   | none=>False
  | .emp=>if n=0 then K .emp H else(n*bytes≤140737488355328∧n≤9223372036854775807)∧K (.eT al.1 0 sz 0 n) (al.2 (.row t 0 ys))
  | _=>False
 | none=>False
def zU(sz:Nat)(x y:D)(H:U)(K:iw):Prop:=
 match x,jM sz H y with
 | .eT v g fV off len,some (ys,n)=>match rowAt H v g with
  | some (t,cs)=>(fV=sz∧(off+len)*sz≤cs.length) ∧
    K (.val (.int .i64 (min n len:Nat))) (H.set v (.row t g (cs.take (off*sz)++ys.take (min n len*sz)++cs.drop (off*sz+min n len*sz))))
  | none=>False
 | .emp,some _=>K (.val (.int .i64 0)) H
 | _,_=>False
def A'(k:vc)(x:D)(H:U)(K:iw):Prop:=
 match k,x with
 | .slice,.sl _ es=>K (.val (.int .i64 es.length)) H
 | .slice,.emp=>K (.val (.int .i64 0)) H
 | .slice,.eT _ _ _ _ len=>K (.val (.int .i64 len)) H
 | .string,.val (.string s)=>K (.val (.int .i64 s.size)) H
 | .map,.omap v=>match jU H v with
  | some (_,es)=>K (.val (.int .i64 es.length)) H
  | none=>False
 | _,_=>False
def om(env:fO):List X→Option (List Int)
 | []=>some []
 | x::r=>match ev env x,om env r with
  | .val (.int .i64 n),some l=>some (n::l)
  | _,_=>none
def Bh(env:fO)(isMax:Bool)(xs:List X)(H:U)(K:iw):Prop:=
 match om env xs with
 | some [a,b]=>K (.val (.int .i64 (if isMax then max a b else min a b))) H
 | some [a,b,c]=>K (.val (.int .i64 (if isMax then max (max a b) c else min (min a b) c))) H
 | _=>False
def Bm(x:D)(H:U)(K:iw):Prop:=
 match x with
 | .ptr v g o=>K (.ptr v g o) H
 | .fh cs=>K (.fh cs) H
 | .fn (.func f) a b=>K (.fn (.func f) a b) H
 | .gP v=>K (.gP v) H
 | _=>False
def zR(k:IntKind)(x:D)(H:U)(K:iw):Prop:=
 match x with
 | .val (.int _ n)=>K (.val (.int k (k.wrap n))) H
 | _=>False
def bytesOf:List D→Option (List Int)
 | []=>some []
 | .val (.int .u8 n)::r=>match bytesOf r with
  | some l=>some (n::l)
  | none=>none
 | _=>none
def zy(x:D)(H:U)(K:iw):Prop:=
 match jM 1 H x with
 | some (ys,_)=>match bytesOf ys with
  | some ns=>K (.val (.string (ns.foldl (fun r n=>r.push (UInt8.ofNat n.toNat)) ByteArray.empty))) H
  | none=>False
 | none=>False
def zt(env:fO)(H:U)(al:Al)(K:iw):gC→Prop
 | .mv x=>K (ev env x) H
 | .pick c a b=>Bq (ev env c) (ev env a) (ev env b) H K
 | .box t x=>zC t (ev env x) al K
 | .alloc t z=>K (.ptr al.1 0 0) (al.2 (.row t 0 z))
 | .build z ps=>vh env z ps H K
 | .buildSl t sz z n ps=>zD env t sz z n ps al K
 | .ld1 x=>A7 (ev env x) H K
 | .ldN n x=>A8 n (ev env x) H K
 | .st1 a x=>BU (ev env a) (ev env x) H K
 | .stN n a x=>BV n (ev env a) (ev env x) H K
 | .nilck x=>Bm (ev env x) H K
 | .arith op x y=>zB op (ev env x) (ev env y) H K
 | .eqS iq ls neg x y=>tX iq ls neg (ev env x) (ev env y) H K
 | .un op x=>B3 op (ev env x) H K
 | .conv k x=>zR k (ev env x) H K
 | .b2s x=>zy (ev env x) H K
 | .mkfn f first cap=>K (.fn f (first.map (ev env)) (cap.map (ev env))) H
 | .mkmap kk=>K (.omap al.1) (al.2 (.map kk []))
 | .mksl t sz bytes z l c=>Bi t sz bytes z (ev env l) (ev env c) al K
 | .slc sz x lo hi=>BS env sz (ev env x) lo hi H K
 | .slcS x lo hi=>yL env (ev env x) lo hi H K
 | .fieldA off x=>z6 off (ev env x) H K
 | .field off n iq x=>vC off n iq (ev env x) H K
 | .idxA sz x i=>AY sz (ev env x) (ev env i) H K
 | .idxArr sz n x i=>AZ sz n (ev env x) (ev env i) H K
 | .idx sz n iq x i=>A1 sz n iq (ev env x) (ev env i) H K
 | .idxStr x i=>A2 (ev env x) (ev env i) H K
 | .lookup kk z ok m k=>Bb kk z ok (ev env m) (ev env k) H K
 | .mapUpd kk m k x=>Bd kk (ev env m) (ev env k) (ev env x) H K
 | .ext x i=>z1 (ev env x) i H K
 | .call _ _ | .callN _ _ | .callv _ _=>False
 | .app t sz bytes x y=>zu t sz bytes (ev env x) (ev env y) H al K
 | .copy sz x y=>zU sz (ev env x) (ev env y) H K
 | .len k x=>A' k (ev env x) H K
 | .minmax isMax xs=>Bh env isMax xs H K
 | .nilS .. | .capE .. | .appZ .. | .clr .. | .rangeS .. | .nextS .. | .rangeM .. | .nextM .. | .entry .. => False
def put(env:Env)(dst:Option Nat)(d:D):Env:=match dst with
 | some k=>(k,d)::env
 | none=>env
def Ctx.set(c:Ctx)(v k:Nat)(L:Loc):Ctx:={ c with ι:=fun u l=>if u=v∧l=k then some L else c.ι u l }
theorem Ctx.pT(c:Ctx)(v k:Nat)(L:Loc):(c.set v k L).ι v k=some L:=by simp[Ctx.set]
theorem Ctx.q5(c:Ctx){v k u l:Nat}(L:Loc)(h:¬ (u=v∧l=k)):(c.set v k L).ι u l=c.ι u l:=by simp only[Ctx.set];rw[if_neg h]
structure sv(H:U)(v:Nat)(ob:Ob)(H':U):Prop where
 get:∀ u,H'[u]? = if u=v then some ob else H[u]?
 free:H.length≤v∨H[v]? = some .hole
 len:H.length≤H'.length
theorem sv.last(H:U)(ob:Ob):sv H H.length ob (H ++ [ob]) where
 get u:=by
  split
  ·rename_i h;subst h;simp
  ·rename_i h
   rcases bq u H.length with h1|h1
   ·rw[ag h1]
   ·rw[aI (by simp;omega),aI h1]
 free:=.inl (Nat.le_refl _)
 len:=by simp
theorem sv.hole{H:U}{v:Nat}(h:H[v]? = some .hole)(ob:Ob):sv H v ob (H.set v ob) where
 get u:=by
  have:=(ae.1 h).1
  rw[bF]
  split
  ·rename_i e;subst e;simp[this]
  ·rename_i e;rw[if_neg (dM e)]
 free:=.inr h
 len:=by simp
def kZ(H:U)(al:Al):Prop:=∀ ob,sv H al.1 ob (al.2 ob)
theorem kZ.last(H:U):kZ H (Al.last H):=fun ob=>sv.last H ob
theorem kZ.hole{H:U}{v:Nat}(h:H[v]? = some .hole):kZ H (Al.hole H v):=fun ob=>sv.hole h ob
structure iM(w w':World):Prop where
 os:w'.os=w.os∧w.drawn≤w'.drawn
 tape:w'.tape=w.tape
 output:w'.output=w.output
 size:w.heap.size≤w'.heap.size
 kept:∀ b,b<w.heap.size→w'.heap[b]? = w.heap[b]?
theorem iM.refl(w:World):iM w w:=⟨⟨rfl,Nat.le_refl _⟩,rfl,rfl,Nat.le_refl _,fun _ _=>rfl⟩
theorem iM.alloc(w:World)(o:Obj):iM w (w.alloc o):=
 ⟨⟨rfl,Nat.le_refl _⟩,rfl,rfl,by simp,fun b h=>by simp only[World.alloc,Array.getElem?_push];rw[if_neg (by omega)]⟩
theorem iM.trans{a b c:World}(h:iM a b)(k:iM b c):iM a c:=
 ⟨⟨k.os.1.trans h.os.1,Nat.le_trans h.os.2 k.os.2⟩,k.tape.trans h.tape,k.output.trans h.output,Nat.le_trans h.size k.size,fun i hi=>(k.kept i (aL hi h.size)).trans (h.kept i hi)⟩
theorem iM.drew(w:World):iM w w.drew:=⟨⟨rfl,Nat.le_succ _⟩,rfl,rfl,Nat.le_refl _,fun _ _=>rfl⟩
theorem yQ(n:Nat){c:Ctx}{H:U}{w w':World}(hg:iM w w'):Step n c H w c H w':=
 ⟨hg.os,hg.tape,hg.output,hg.size,rfl,fun _ h=>h,fun _ h=>.inl h,fun b hb _=>hg.kept b hb,fun _ _ _ _ h=>h,fun _ h=>.inr h⟩
theorem zo.mono{c c':Ctx}{w w':World}(hr:∀ v d,eV c w v d→eV c' w' v d){arr:Array MapEntry}{clock:Nat}{es:List (Value×D)}(h:zo c w arr clock es):zo c' w' arr clock es:=
 ⟨h.1,fun i e x he hx=>let ⟨a,b,d⟩:=h.2.1 i e x he hx;⟨a,hr _ _ b,d⟩,h.2.2⟩
theorem fX.mZ{c c':Ctx}{w w':World}(qI:c'.RT=c.RT)(hr:∀ v d,eV c w v d→eV c' w' v d){L:Option Loc}{o:Ob}
  (hb:∀ l,L=some l→l.iv=false→o.alive=true→w'.heap[l.b]? = w.heap[l.b]?) (h:fX c w L o):fX c' w' L o:=by
 cases o with
 | dead=>simp[fX]
 | hole=>simpa[fX]using h
 | row t g cs=>
  cases L with
  | none=>simp[fX]at h
  | some l=>
   simp only[fX]at h ⊢
   split
   ·rename_i hv;simpa[hv]using h
   ·rename_i hv
    simp only[hv]at h
    obtain⟨arr,h1,h2,h3,h4⟩:=h
    refine⟨arr,by rw[hb l rfl (by simpa using hv) rfl];exact h1,h2,h3,fun i d hd=>?_⟩
    obtain⟨v,ke,nA,wj⟩:=h4 i d hd
    exact⟨v,ke,nA,hr _ _ wj⟩
 | map kk es=>
  cases L with
  | none=>simp[fX]at h
  | some l=>
   simp only[fX]at h ⊢
   obtain⟨hv,hk,arr,clock,h1,h2⟩:=h
   exact⟨hv,hk,arr,clock,by rw[hb l rfl hv rfl];exact h1,h2.mono hr⟩
 | gg rf env st=>
  cases L with
  | none=>simp[fX]at h
  | some l=>
   simp only[fX]at h ⊢
   obtain⟨hv,r,h1,h2,h3,h4⟩:=h
   exact⟨hv,r,by rw[hb l rfl hv rfl];exact h1,fun k=>hr _ _ (h2 k),by rw[qI];exact h3,h4⟩
 | pn s p=>
  cases L with
  | none=>simp[fX]at h
  | some l=>
   simp only[fX]at h ⊢
   exact⟨h.1,h.2.1,by rw[hb l rfl h.1 rfl];exact h.2.2⟩
 | jd m since seen=>
  cases L with
  | none=>simp[fX]at h
  | some l=>
   simp only[fX]at h ⊢
   obtain⟨h1,h2,bm,h3,h4⟩:=h
   exact⟨h1,h2,bm,hr _ _ h3,by rw[hb l rfl h1 rfl];exact h4⟩
 | jv=>
  cases L with
  | none=>simp[fX]at h
  | some l=>
   simp only[fX]at h ⊢
   by_cases hv:l.iv=true
   ·exact .inl hv
   ·exact .inr (by rw[hb l rfl (by simpa using hv) rfl];exact h.resolve_left hv)
theorem fj.nq{G:GT}{c:Ctx}{H:U}{w w':World}(h:fj G c H w)(hg:iM w w'):fj G c H w':=by
 have hs:=yQ H.length (c:=c) (H:=H) hg
 have hr:∀ v d,eV c w v d→eV c w' v d:=fun v d hd=>hd.nX h.toHeapOK hs
 exact{
  inj:=h.inj
  lt:=fun b hb=>aL (h.lt b hb) hg.size
  nF:=h.nF
  iZ:=fun b hb=>aL (h.iZ b hb) hg.size
  out:=h.out
  km:=h.km
  ob:=fun v o ho=>(h.ob v o ho).mZ rfl hr fun l hl hv hd=>hg.kept _ (h.lt _ ⟨v,l,⟨o,ho,hd,hl⟩,hv,rfl⟩)
  gl:=fun g cs vQ=>let ⟨a,b⟩:=h.gl g cs vQ;⟨a,hr _ _ b⟩
  rt:=h.rt }
structure tI(H:U)(v:Nat)(ob:Ob)(H':U):Prop where
 get:∀ u,H'[u]? = if u=v then some ob else H[u]?
 free:H.length≤v∨H[v]? = some .hole∨∃ o,H[v]? = some o∧o.alive=true∧o.gen<ob.gen
 len:H.length≤H'.length
theorem sv.qu{H:U}{v:Nat}{ob:Ob}{H':U}(h:sv H v ob H'):tI H v ob H':=⟨h.get,h.free.imp id .inl,h.len⟩
theorem yS{c:Ctx}{H H':U}{v:Nat}{ob:Ob}{L:Loc}(ht:tI H v ob H'){u:Nat}{l:Loc}(h:jN (c.set v ob.gen L) H' u l) :
  (u=v∧l=L)∨(u≠v∧jN c H u l):=by
 obtain⟨o,ho,ha,e7⟩:=h
 rw[ht.get]at ho
 split at ho
 ·rename_i e;cases ho;subst e;rw[Ctx.pT]at e7;cases e7;exact .inl ⟨rfl,rfl⟩
 ·rename_i e
  rw[Ctx.q5 _ _ (fun h=>e h.1)]at e7
  exact .inr ⟨e,o,ho,ha,e7⟩
theorem Ri{G:GT}{c:Ctx}{H H':U}{w:World}{v:Nat}{ob:Ob}(h:fj G c H w)(ht:tI H v ob H')(k:Nat)(hk:ob.gen≤k):c.ι v k=none:=by
 rcases ht.free with hf|hf|⟨o,ho,ha,hg⟩
 ·exact h.out v k hf
 ·exact h.km v _ k hf (.inl rfl)
 ·exact h.km v o k ho (.inr ⟨ha,by omega⟩)
theorem Rj{G:GT}{c:Ctx}{H H':U}{w:World}{v:Nat}{ob:Ob}{L:Loc}(h:fj G c H w)(ht:tI H v ob H')(u k:Nat)(l:Loc)(e7:c.ι u k=some l):(c.set v ob.gen L).ι u k=some l:=by
 rw[Ctx.q5]
 ·exact e7
 ·rintro⟨rfl,rfl⟩
  rw[Ri h ht _ (Nat.le_refl _)]at e7
  cases e7
theorem Ho{G:GT}{c:Ctx}{H H':U}{w w':World}{v:Nat}{ob:Ob}(h:fj G c H w)(ht:tI H v ob H')(hg:iM w w')(L:Loc)
  (hL:L.iv=false→w.heap.size≤L.b∧L.b<w'.heap.size):Step H.length c H w (c.set v ob.gen L) H' w' where
 os:=hg.os
 tape:=hg.tape
 output:=hg.output
 size:=hg.size
 RT:=rfl
 Fm _ h:=h
 Fn _ h:=.inl h
 kept b hb _:=hg.kept b hb
 old u k l _ e7:=Rj h ht u k l e7
 own b hb:=by
  obtain⟨u,l,hl,hv,e⟩:=hb
  rcases yS ht hl with⟨_,rfl⟩|⟨_,hl⟩
  ·exact .inl (e▸(hL hv).1)
  ·exact .inr ⟨u,l,hl,hv,e⟩
theorem K5{G:GT}{c:Ctx}{H H':U}{w w':World}{v:Nat}{ob:Ob}(h:fj G c H w)(ht:tI H v ob H')(hg:iM w w')(L:Loc)
  (hL:L.iv=false→w.heap.size≤L.b∧L.b<w'.heap.size) (fZ:ob.alive=true) (gi:fX (c.set v ob.gen L) w' (some L) ob):fj G (c.set v ob.gen L) H' w':=by
 have hs:=Ho h ht hg L hL
 have hr:∀ u d,eV c w u d→eV (c.set v ob.gen L) w' u d:=fun u d hd=>hd.nX h.toHeapOK hs
 have ft:∀ u l,jN c H u l→l.iv=false→l.b<w.heap.size:=fun u l hl hv=>h.lt _ ⟨u,l,hl,hv,rfl⟩
 have Wq:v<H'.length:=by
  have:=ht.get v
  rw[if_pos rfl]at this
  exact(ae.1 this).1
 exact{
  inj:=by
   intro u u' l l' h1 h2 h5 h6 he
   rcases yS ht h1 with⟨rfl,rfl⟩|⟨_,b⟩<;>rcases yS ht h2 with⟨rfl,rfl⟩|⟨_,b'⟩
   ·rfl
   ·have:=(hL h5).1;have:=ft _ _ b' h6;omega
   ·have:=(hL h6).1;have:=ft _ _ b h5;omega
   ·exact h.inj u u' l l' b b' h5 h6 he
  lt:=fun b hb=>by
   obtain⟨u,l,hl,hv,e⟩:=hb
   rcases yS ht hl with⟨_,rfl⟩|⟨_,hl⟩
   ·exact e▸(hL hv).2
   ·exact e▸aL (ft u l hl hv) hg.size
  nF:=fun b hb hF=>by
   obtain⟨u,l,hl,hv,e⟩:=hb
   rcases yS ht hl with⟨_,rfl⟩|⟨_,hl⟩
   ·have:=h.iZ b hF;have:=(hL hv).1;omega
   ·exact h.nF b ⟨u,l,hl,hv,e⟩ hF
  iZ:=fun b hb=>aL (h.iZ b hb) hg.size
  out:=fun u k hu=>by
   rw[Ctx.q5 _ _ (by rintro⟨rfl,_⟩;omega)]
   exact h.out u k (Nat.le_trans ht.len hu)
  km:=fun u o k ho hk=>by
   rw[ht.get]at ho
   split at ho
   ·rename_i e
    cases ho;subst e
    rcases hk with rfl|⟨_,hk⟩
    ·cases fZ
    ·rw[Ctx.q5 _ _ (by rintro⟨_,rfl⟩;omega)];exact Ri h ht k (by omega)
   ·rename_i e
    rw[Ctx.q5 _ _ (fun h=>e h.1)]
    exact h.km u o k ho hk
  ob:=fun u o ho=>by
   rw[ht.get]at ho
   split at ho
   ·rename_i e
    cases ho;subst e
    rw[Ctx.pT];exact gi
   ·rename_i e
    rw[Ctx.q5 _ _ (fun h=>e h.1)]
    exact fX.mZ (c:=c) (c':=c.set v ob.gen L) rfl hr (fun l hl hv hd=>hg.kept _ (ft u l ⟨o,ho,hd,hl⟩ hv)) (h.ob u o ho)
  gl:=fun g cs vQ=>let ⟨a,b⟩:=h.gl g cs vQ;⟨a,hr _ _ b⟩
  rt:=h.rt }
structure Cells(c:Ctx)(w:World)(vs:List Value)(cs:List D):Prop where
 len:vs.length=cs.length
 one:∀ v∈vs,v.oneCell'=true
 rep:∀ (i:Nat) (v:Value) (d:D),vs[i]? = some v→cs[i]? = some d→eV c w v d
theorem Bk{G:GT}{c:Ctx}{H H':U}{v gen:Nat}{w:World}(h:fj G c H w)(w0:World)(hg:iM w w0)(t:TypeId)(vs:List Value)(cs:List D)(n:Nat)(arr:Array Value)
  (ht:tI H v (.row t gen cs) H') (hc:Cells c w vs cs) (ha:arr.toList.take n=vs) (hn:n≤arr.size) :
  ∃ L:Loc,L.iv=false∧L.b=w0.heap.size∧L.base=0∧L.top=arr.size ∧
   fj G (c.set v gen L) H' (w0.alloc (.cells arr t))∧Step H.length c H w (c.set v gen L) H' (w0.alloc (.cells arr t)):=by
 have pF:=hg.trans (iM.alloc w0 (.cells arr t))
 refine⟨⟨w0.heap.size,0,arr.size,false⟩,rfl,rfl,rfl,rfl,?_⟩
 have hL:(⟨w0.heap.size,0,arr.size,false⟩:Loc).iv=false→w.heap.size≤(⟨w0.heap.size,0,arr.size,false⟩:Loc).b∧(⟨w0.heap.size,0,arr.size,false⟩:Loc).b<(w0.alloc (.cells arr t)).heap.size:=fun _=>⟨hg.size,by simp⟩
 have hs:=Ho h ht pF ⟨w0.heap.size,0,arr.size,false⟩ hL
 refine⟨K5 h ht pF _ hL rfl ?_,hs⟩
 have hr:∀ u d,eV c w u d→eV (c.set v gen ⟨w0.heap.size,0,arr.size,false⟩) (w0.alloc (.cells arr t)) u d:=fun u d hd=>hd.nX h.toHeapOK hs
 have hlen:cs.length=n:=by rw[← hc.len,← ha];simp;omega
 simp only[fX,Ob.gen]
 refine⟨arr,heap_alloc_new _ _,rfl,by simp;omega,fun i d hd=>?_⟩
 have hi:i<cs.length:=(ae.1 hd).1
 have vT:i<arr.size:=by omega
 refine⟨arr[i],by simp[vT],?_,?_⟩
 ·exact hc.one _ (by rw[← ha];exact a7 (i:=i) (by rw[aA];simp[hlen▸hi,vT]))
 ·exact hr _ _ (hc.rep i _ d (by rw[← ha,aA];simp[hlen▸hi,vT]) hd)
theorem oQ{H:U}{v:Nat}{ob:Ob}(hv:v<H.length)(u:Nat):(H.set v ob)[u]? = if u=v then some ob else H[u]? := by
 rw[bF]
 split
 ·rename_i e;subst e;simp[hv]
 ·rename_i e;rw[if_neg (dM e)]
theorem adG{c:Ctx}{H:U}{v:Nat}{ob ob':Ob}(hv:H[v]? = some ob)(ha:ob.alive=true)(hg:ob'.gen=ob.gen){u:Nat}{l:Loc}(h:jN c (H.set v ob') u l):jN c H u l:=by
 obtain⟨o,ho,fZ,e7⟩:=h
 rw[oQ (ae.1 hv).1]at ho
 split at ho
 ·rename_i e;cases ho;subst e;exact⟨ob,hv,ha,by rw[← hg];exact e7⟩
 ·exact⟨o,ho,fZ,e7⟩
theorem Rx{G:GT}{c:Ctx}{H:U}{w:World}(h:fj G c H w){v:Nat}{ob ob':Ob}(hv:H[v]? = some ob)(ha:ob.alive=true)(oE:ob'.alive=true)(FC:ob'.gen=ob.gen){L:Loc}(e7:c.ι v ob.gen=some L)(gw:L.iv=false)
  {w':World} (oi:w'.os=w.os∧w.drawn≤w'.drawn) (JE:w'.tape=w.tape) (ln:w'.output=w.output) (AR:w'.heap.size=w.heap.size)
  (jT:∀ b,b≠L.b→w'.heap[b]? = w.heap[b]?) (gi:(∀ u d,eV c w u d→eV c w' u d)→fX c w' (some L) ob') :
  fj G c (H.set v ob') w'∧Step H.length c H w c (H.set v ob') w':=by
 have AB:jN c H v L:=⟨ob,hv,ha,e7⟩
 have uu:kj c H L.b:=⟨v,L,AB,gw,rfl⟩
 have hL:∀ u l,jN c (H.set v ob') u l→jN c H u l:=fun u l hl=>adG hv ha FC hl
 have o6:∀ b,kj c (H.set v ob') b→kj c H b:=fun b ⟨u,l,hl,r⟩=>⟨u,l,hL u l hl,r⟩
 have hs:Step H.length c H w c (H.set v ob') w':=
  ⟨oi,JE,ln,by omega,rfl,fun _ h=>h,fun _ h=>.inl h,fun b _ hn=>jT b (fun e=>hn (e▸uu)),fun _ _ _ _ h=>h,fun b hb=>.inr (o6 b hb)⟩
 have hr:∀ u d,eV c w u d→eV c w' u d:=fun u d hd=>hd.nX h.toHeapOK hs
 refine⟨{
  inj:=fun u u' l l' h1 h2=>h.inj u u' l l' (hL _ _ h1) (hL _ _ h2)
  lt:=fun b hb=>by rw[AR];exact h.lt b (o6 b hb)
  nF:=fun b hb=>h.nF b (o6 b hb)
  iZ:=fun b hb=>by rw[AR];exact h.iZ b hb
  out:=fun u k hu=>h.out u k (by simpa using hu)
  km:=fun u o k ho hk=>by
   rw[oQ (ae.1 hv).1]at ho
   split at ho
   ·rename_i e;cases ho;subst e
    rcases hk with rfl|⟨_,hk⟩
    ·cases oE
    ·exact h.km u ob k hv (.inr ⟨ha,by omega⟩)
   ·exact h.km u o k ho hk
  ob:=fun u o ho=>by
   rw[oQ (ae.1 hv).1]at ho
   split at ho
   ·rename_i e
    cases ho;subst e
    rw[FC,e7]
    exact gi hr
   ·rename_i gd
    exact(h.ob u o ho).mZ rfl hr fun l hl kd hd=>jT _ fun e=>gd (h.inj u v l L ⟨o,ho,hd,hl⟩ AB kd gw e)
  gl:=fun g cs vQ=>let ⟨a,b⟩:=h.gl g cs vQ;⟨a,hr _ _ b⟩
  rt:=h.rt },hs⟩
theorem B9{G:GT}{c:Ctx}{H:U}{w:World}(h:fj G c H w){v g:Nat}{t:TypeId}{cs:List D}(hv:H[v]? = some (.row t g cs)){L:Loc}(e7:c.ι v g=some L)(gw:L.iv=false)
  {arr:Array Value} (lD:w.heap[L.b]? = some (.cells arr t (0,0))) (mw:Array Value) (gy:mw.size=arr.size) (kc:L.top=arr.size) (lz:List D) (hlen:L.base+lz.length≤L.top)
  (hc:∀ (i:Nat) (d:D),lz[i]? = some d→∃ u,mw[L.base+i]? = some u∧u.oneCell'=true∧eV c w u d) :
  fj G c (H.set v (.row t g lz)) (w.setRow L.b mw)∧Step H.length c H w c (H.set v (.row t g lz)) (w.setRow L.b mw):=by
 refine Rx (w':=w.setRow L.b mw) (ob':=.row t g lz) h hv rfl rfl rfl e7 gw ⟨rfl,Nat.le_refl _⟩ rfl rfl (by simp[World.setRow]) (fun b hb=>by simp only[World.setRow,bN];rw[if_neg (dM hb)]) fun hr=>?_
 simp only[fX,gw]
 refine⟨mw,setRow_heap w L.b arr _ t _ lD,by rw[kc,gy],hlen,fun i d hd=>?_⟩
 obtain⟨x,nQ,kf,s8⟩:=hc i d hd
 exact⟨x,nQ,kf,hr _ _ s8⟩
def tQ:Value→D
 | .slice none 0 0=>.emp
 | v=>.val v
def EO:Value→Option D
 | .slice none 0 0=>some .emp
 | .agg cs=>if cs.all (·.oneCell')then some (.agg (cs.toList.map tQ))else none
 | .tuple _=>none
 | v=>some (.val v)
def cX(G:GT):Operand→Option X
 | .tmp t=>some (.t t)
 | .const v=>(EO v).map .c
 | .global g=>(G g).map fun cs=>.c (.fh cs)
 | .func f=>some (.c (.fn (.func f) [] []))
def sD(G:GT):List Operand→Option (List X)
 | []=>some []
 | x::r=>match cX G x,sD G r with
  | some a,some l=>some (a::l)
  | _,_=>none
def tP(G:GT):List (Nat×Operand)→Option (List (Nat×X))
 | []=>some []
 | (i,x)::r=>match cX G x,tP G r with
  | some a,some l=>some ((i,a)::l)
  | _,_=>none
def sC(G:GT):Option Operand→Option (Option X)
 | none=>some none
 | some x=>(cX G x).map some
def jg(P:Program)(t:TypeId):Option Nat:=(P.info? t).map (·.size)
def nZ(P:Program)(t:TypeId):Option (List D):=match (P.info? t).bind (·.zero)with
 | some z=>if z.cells.all (·.oneCell')then some (z.cells.toList.map tQ)else none
 | none=>none
def nf(P:Program)(t:TypeId):Option Bool:=match P.underlying t with
 | some (.struct _)|some (.array _ _)=>some true
 | some _=>some false
 | none=>none
def O2(P:Program)(t:TypeId):Bool:=match P.underlying t with
 | some (.int _)|some .string|some .bool=>true
 | _=>false
def Et(P:Program)(t:TypeId):Bool:=match P.underlying t with
 | some .bool=>true
 | _=>false
def wx(P:Program)(t:TypeId):Option mR:=match P.underlying t with
 | some (.int _)=>some .int
 | some .string=>some .str
 | some .bool=>some .bool
 | _=>none
def E4(P:Program):Nat→List Field→Option (List mR)
 | _,[]=>some []
 | i,f::r=>match wx P f.type,E4 P (i+1) r with
  | some l,some ls=>if f.offset=i∧f.name≠ "_" then some (l::ls)else none
  | _,_=>none
def E5(P:Program)(t:TypeId):Option (List mR):=match P.underlying t with
 | some (.struct fs)=>if P.stoodInHeld t=false∧P.eqGuardType P.depth t=false then E4 P 0 fs.toList else none
 | _=>none
def Br(P:Program)(fs:Array Field):List (Nat×X)→Option (List (Nat×Nat×X))
 | []=>some []
 | (i,x)::r=>match fs[i]?,Br P fs r with
  | some f,some l=>(jg P f.type).map fun n=>(f.offset,n,x)::l
  | _,_=>none
def Nn(P:Program)(fs:Array Field):Bool:=fs.all fun f=>(jg P f.type).isSome
def o5(P:Program)(f:FuncId):Bool:=match P.funcs[f]? with
 | some fn=>fn.name != "runtime.NumGoroutine" && fn.body.isSome
 | none=>false
def rW(P:Program)(t:TypeId):Option KK:=match P.underlying t with
 | some (.int k)=>some (.int k)
 | some .string=>some .str
 | some .bool=>some .bool
 | _=>none
def Le(P:Program)(t:TypeId):Option D:=(P.info? t).bind fun i=>i.zero.bind EO
def ly(P:Program)(G:GT)(o:Oper):Option gC:=
 match o.op with
 | .move x=>do let a ← cX G x;pure (.mv a)
 | .assign x=>do let a ← cX G x;pure (.mv a)
 | .pick c a b=>do pure (.pick (← cX G c) (← cX G a) (← cX G b))
 | .box e x=>do pure (.box e (← cX G x))
 | .alloc e=>do pure (.alloc e (← nZ P e))
 | .build t ps=>do
  let z ← nZ P t
  let l ← tP G ps.toList
  match P.underlying t with
  | some (.struct fs)=>if Nn P fs then do pure (.build z (← Br P fs l))else none
  | some (.array _ e)=>do
   let sz ← jg P e
   pure (.build z (l.map fun p=>(p.1*sz,sz,p.2)))
  | _=>none
 | .buildSlice t n ps=>do
  let .slice e ← P.underlying t|none
  let z ← nZ P e
  let sz ← jg P e
  let l ← tP G ps.toList
  if z.length=sz∧0<sz∧n*sz≤16777216 then pure (.buildSl e sz z n l)else none
 | .load t a=>do
  let x ← cX G a
  let n ← jg P t
  if ← nf P t then pure (.ldN n x)else pure (.ld1 x)
 | .store t a v=>do
  let x ← cX G a
  let y ← cX G v
  let n ← jg P t
  if ← nf P t then pure (.stN n x y)else if n=1 then pure (.st1 x y)else none
 | .nilCheck x=>do pure (.nilck (← cX G x))
 | .binOp op t x y _=>do
  let a ← cX G x
  let b ← cX G y
  match op with
  | .eql=>if Et P t then pure (.eqS false [.bool] false a b)else if O2 P t then pure (.arith .eql a b)else do pure (.eqS true (← E5 P t) false a b)
  | .neq=>if Et P t then pure (.eqS false [.bool] true a b)else if O2 P t then pure (.arith .neq a b)else do pure (.eqS true (← E5 P t) true a b)
  | op=>pure (.arith op a b)
 | .unOp op _ x=>do pure (.un op (← cX G x))
 | .convert s d x=>do
  let a ← cX G x
  let _ ← P.underlying s
  match P.underlying d with
  | some (.int k)=>pure (.conv k a)
  | some .string=>do
   let .slice e ← P.underlying s|none
   let .int .u8 ← P.underlying e|none
   pure (.b2s a)
  | _=>none
 | .makeFunc f first cap=>do pure (.mkfn f (← sD G first.toList) (← sD G cap.toList))
 | .makeMap t none=>do
  let .map k _ ← P.underlying t|none
  pure (.mkmap (← rW P k))
 | .lookup t x i ok=>do
  let .map k e ← P.underlying t|none
  let z ← Le P e
  pure (.lookup (← rW P k) z ok (← cX G x) (← cX G i))
 | .mapUpdate t m k v=>do
  let .map kt _ ← P.underlying t|none
  pure (.mapUpd (← rW P kt) (← cX G m) (← cX G k) (← cX G v))
 | .insert t m k v=>do
  let .map kt _ ← P.underlying t|none
  pure (.mapUpd (← rW P kt) (← cX G m) (← cX G k) (← cX G v))
 | .makeSlice t l c=>do
  let .slice e ← P.underlying t|none
  let z ← nZ P e
  let i ← P.info? e
  if z.length=i.size∧0<i.size then pure (.mksl e i.size i.bytes z (← cX G l) (← cX G c))else none
 | .slice t x lo hi none=>do
  let a ← cX G x
  let l ← sC G lo
  let h ← sC G hi
  match P.underlying t with
  | some (.slice e)=>do pure (.slc (← jg P e) a l h)
  | some .string=>pure (.slcS a l h)
  | _=>none
 | .fieldAddr t x f=>do
  let a ← cX G x
  let .struct fs ← P.underlying t|none
  let fd ← fs[f]?
  let n ← jg P fd.type
  if 0<n then pure (.fieldA fd.offset a)else none
 | .field t x f=>do
  let a ← cX G x
  let .struct fs ← P.underlying t|none
  let fd ← fs[f]?
  let n ← jg P fd.type
  pure (.field fd.offset n (← nf P fd.type) a)
 | .indexAddr t x i=>do
  let a ← cX G x
  let j ← cX G i
  match P.underlying t with
  | some (.slice e)=>do
   let n ← jg P e
   if 0<n then pure (.idxA n a j)else none
  | some (.array n e)=>do pure (.idxArr (← jg P e) n a j)
  | _=>none
 | .index t x i=>do
  let a ← cX G x
  let j ← cX G i
  match P.underlying t with
  | some (.array n e)=>do pure (.idx (← jg P e) n (← nf P e) a j)
  | some .string=>pure (.idxStr a j)
  | _=>none
 | .extract x i=>do pure (.ext (← cX G x) i)
 | .call c=>do
  let args ← sD G c.args.toList
  match c.callee with
  | .value (.func f)=>if o5 P f then pure (if G.nw f then .callN f args else .call f args)else none
  | .value f=>do pure (.callv (← cX G f) args)
  | .builtin .append=>match c.argTypes.toList,args with
   | [t,u],[x,y]=>do
    let .slice e ← P.underlying t|none
    let i ← P.info? e
    let z ← nZ P e
    let .slice _ ← P.underlying u|none
    if z.length=i.size∧0<i.size then pure (.app e i.size i.bytes x y)else none
   | _,_=>none
  | .builtin .copy=>match c.argTypes.toList,args with
   | [t,u],[x,y]=>do
    let .slice e ← P.underlying t|none
    let .slice _ ← P.underlying u|none
    let n ← jg P e
    if 0<n then pure (.copy n x y)else none
   | _,_=>none
  | .builtin .len=>match c.argTypes.toList,args with
   | [t],[x]=>match P.underlying t with
    | some (.slice _)=>pure (.len .slice x)
    | some .string=>pure (.len .string x)
    | some (.map _ _)=>pure (.len .map x)
    | _=>none
   | _,_=>none
  | .builtin .max=>pure (.minmax true args)
  | .builtin .min=>pure (.minmax false args)
  | _=>none
 | _=>none
end Go.AL
namespace Go.AL
open Go
def jt(c:Ctx)(w:World)(env:fO)(a:Act):Prop:=∀ k,eV c w (a.tmps.getD k undef) (env k)
def ia(G:GT)(c:Ctx)(H:U)(w:World)(K:iw)(v:Value)(w':World):Prop:=
 ∃ d H' c',K d H'∧fj G c' H' w'∧eV c' w' v d∧Step H.length c H w c' H' w'
section
variable{P:Program}{G:GT}{c:Ctx}{H:U}{w:World}{K:iw}{env:fO}{a:Act}
theorem ia.plain(h:fj G c H w){v:Value}{d:D}(hK:K d H)(hr:eV c w v d):ia G c H w K v w:=
 ⟨d,H,c,hK,h,hr,Step.refl _ _ _ _⟩
theorem Qw(v:Value):eV c w v (tQ v):=by
 unfold tQ
 split
 ·exact .emp
 ·exact .val _
theorem Qx{v:Value}{d:D}(h:EO v=some d):eV c w v d:=by
 unfold EO at h
 split at h
 ·cases h;exact .emp
 ·rename_i cs
  split at h
  ·rename_i gu
   cases h
   have:=eV.agg (c:=c) (w:=w) cs.toList (cs.toList.map tQ) (by simp) (fun v hv=>by
    have:=cc.1 gu v (by simpa using hv)
    exact this) (fun i v d hv hd=>by
    simp only[au,hv,a8,av]at hd
    subst hd
    exact Qw v)
   simpa using this
  ·cases h
 ·cases h
 ·cases h;exact .val _
theorem gJ(h:fj G c H w)(he:jt c w env a){x:Operand}{X:X}(hx:cX G x=some X):eV c w (a.eval x) (ev env X):=by
 cases x with
 | tmp t=>cases hx;exact he t
 | const v=>
  simp only[cX,ai]at hx
  obtain⟨d,hd,rfl⟩:=hx
  exact Qx hd
 | global g=>
  simp only[cX,ai]at hx
  obtain⟨cs,ic,rfl⟩:=hx
  exact(h.gl g cs ic).2
 | func f=>cases hx;exact .fn (.func f) [] [] [] [] rfl rfl (by simp) (by simp)
theorem vj(h:fj G c H w)(he:jt c w env a):∀ (l:List Operand) {xs:List X},sD G l=some xs→ig c w (l.map a.eval) (xs.map (ev env))
 | [],xs,hx=>by cases hx;exact .nil
 | x::r,xs,hx=>by
  simp only[sD]at hx
  split at hx
  ·rename_i X l hX hl
   cases hx
   exact .cons (gJ h he hX) (vj h he r hl)
  ·cases hx
theorem ig.length{vs:List Value}{ds:List D}(h:ig c w vs ds):vs.length=ds.length:=by
 induction h with
 | nil=>rfl
 | cons _ _ ih=>simp[ih]
theorem ig.get{vs:List Value}{ds:List D}(h:ig c w vs ds):∀ (i:Nat) (v:Value) (d:D),vs[i]? = some v→ds[i]? = some d→eV c w v d:=by
 induction h with
 | nil=>intro i v d hv;simp at hv
 | cons h _ ih=>
  intro i v d hv hd
  cases i with
  | zero=>simp at hv hd;subst hv;subst hd;exact h
  | succ i=>simp at hv hd;exact ih i v d hv hd
theorem ig.append{vs us:List Value}{ds es:List D}(h:ig c w vs ds)(k:ig c w us es):ig c w (vs++us) (ds++es):=by
 induction h with
 | nil=>exact k
 | cons h _ ih=>exact .cons h ih
theorem ig.Bo:∀ {vs:List Value} {ds:List D},vs.length=ds.length→(∀ (i:Nat) (v:Value) (d:D),vs[i]? = some v→ds[i]? = some d→eV c w v d)→ig c w vs ds
 | [],[],_,_=>.nil
 | v::vs,d::ds,hl,h=>.cons (h 0 v d rfl rfl) (ig.Bo (by simpa using hl) fun i v d hv hd=>h (i+1) v d (by simpa using hv) (by simpa using hd))
theorem Cells.agg{vs:List Value}{cs:List D}(h:Cells c w vs cs):eV c w (.agg vs.toArray) (.agg cs):=.agg vs cs h.len h.one h.rep
theorem Cells.drop{vs:List Value}{cs:List D}(h:Cells c w vs cs)(n:Nat):Cells c w (vs.drop n) (cs.drop n):=
 ⟨by simp[h.len],fun v hv=>h.one v (bX hv),fun i v d hv hd=>h.rep (n+i) v d (by simpa using hv) (by simpa using hd)⟩
theorem Cells.take{vs:List Value}{cs:List D}(h:Cells c w vs cs)(n:Nat):Cells c w (vs.take n) (cs.take n):=
 ⟨by simp[h.len],fun v hv=>h.one v (aM hv),fun i v d hv hd=>by
  rw[aA]at hv hd
  split at hv
  ·rename_i hi;rw[if_pos hi]at hd;exact h.rep i v d hv hd
  ·cases hv⟩
theorem Cells.append{vs us:List Value}{cs ds:List D}(h:Cells c w vs cs)(k:Cells c w us ds):Cells c w (vs++us) (cs++ds):=
 ⟨by simp[h.len,k.len],fun v hv=>by
  rcases List.mem_append.1 hv with hv|hv
  ·exact h.one v hv
  ·exact k.one v hv,fun i v d hv hd=>by
  rw[List.getElem?_append]at hv hd
  split at hv
  ·rename_i hi;rw[if_pos (by rw[← h.len];exact hi)]at hd;exact h.rep i v d hv hd
  ·rename_i hi;rw[if_neg (by rw[← h.len];exact hi)]at hd;rw[← h.len]at hd;exact k.rep _ v d hv hd⟩
theorem Cells.nil:Cells c w [] []:=⟨rfl,by simp,by simp⟩
theorem Cells.get{vs:List Value}{cs:List D}(h:Cells c w vs cs){i:Nat}{d:D}(hd:cs[i]? = some d):∃ v,vs[i]? = some v∧v.oneCell'=true∧eV c w v d:=by
 have hi:i<vs.length:=by rw[h.len];exact(ae.1 hd).1
 exact⟨vs[i],by simp[hi],h.one _ (bJ hi),h.rep i _ d (by simp[hi]) hd⟩
def pW(c:Ctx)(w:World)(b o:Nat)(cs:List D):Prop:=∃ vs,Cells c w vs cs∧∀ (j:Nat) (v:Value),vs[j]? = some v→w.cell? ⟨b,o+j,none⟩=some v
theorem pW.drop{b o:Nat}{cs:List D}(h:pW c w b o cs)(n:Nat):pW c w b (o+n) (cs.drop n):=by
 obtain⟨vs,hc,hv⟩:=h
 exact⟨vs.drop n,hc.drop n,fun j v hj=>by rw[aB]at hj;have:=hv _ _ hj;rwa [bj]⟩
theorem pW.take{b o:Nat}{cs:List D}(h:pW c w b o cs)(n:Nat):pW c w b o (cs.take n):=by
 obtain⟨vs,hc,hv⟩:=h
 refine⟨vs.take n,hc.take n,fun j v hj=>?_⟩
 rw[aA]at hj
 split at hj
 ·exact hv _ _ hj
 ·cases hj
theorem uQ(h:fj G c H w){v g:Nat}{t:TypeId}{cs:List D}(hv:H[v]? = some (.row t g cs)){L:Loc}(e7:c.ι v g=some L)(gw:L.iv=false) :
  ∃ arr:Array Value,w.heap[L.b]? = some (.cells arr t (0,0))∧L.top=arr.size∧L.base+cs.length≤L.top∧Cells c w ((arr.toList.drop L.base).take cs.length) cs:=by
 have h0:=h.ob v _ hv
 simp only[Ob.gen]at h0
 rw[e7]at h0
 simp only[fX,gw]at h0
 obtain⟨arr,h1,h2,h3,h4⟩:=h0
 refine⟨arr,h1,h2,h3,⟨by simp;omega,fun u hu=>?_,fun i u d hu hd=>?_⟩⟩
 ·obtain⟨i,hi⟩:=aD.1 hu
  rw[aA]at hi
  split at hi
  ·rename_i ft
   rw[aB]at hi
   obtain⟨x,hx,h5,_⟩:=h4 i cs[i] (by simp[ft])
   have:arr[L.base+i]? = some u:=by simpa using hi
   rw[hx]at this
   cases this
   exact h5
  ·cases hi
 ·rw[aA]at hu
  split at hu
  ·rw[aB]at hu
   obtain⟨x,hx,_,h6⟩:=h4 i d hd
   have:arr[L.base+i]? = some u:=by simpa using hu
   rw[hx]at this
   cases this
   exact h6
  ·cases hu
theorem ED(h:fj G c H w){v g o:Nat}{t:TypeId}{cs:List D}(hv:H[v]? = some (.row t g cs)){u:Value}(hr:eV c w u (.ptr v g o)) :
  ∃ b p,u = .pointer (some ⟨b,p,none⟩)∧pW c w b p (cs.drop o):=by
 cases hr with
 | ptr _ _ _ L e7 gw=>
  obtain⟨arr,h1,h2,h3,h4⟩:=uQ h hv e7 gw
  refine⟨L.b,L.base+o,rfl,?_⟩
  refine pW.drop ⟨_,h4,fun j x hx=>?_⟩ o
  rw[aA]at hx
  split at hx
  ·rw[aB]at hx
   simp[World.cell?,h1]
   simpa using hx
  ·cases hx
theorem vo{u:Value}{cs:List D}(hr:eV c w u (.fh cs)):∃ b p,u = .pointer (some ⟨b,p,none⟩)∧c.F b∧pW c w b p cs:=by
 cases hr with
 | fh b o _ g hF hc hr=>
  refine⟨b,o,rfl,hF,(List.range cs.length).map g,⟨by simp,fun v hv=>?_,fun i v d hv hd=>?_⟩,fun j v hv=>?_⟩
  ·simp only[ao,aX]at hv
   obtain⟨j,hj,rfl⟩:=hv
   exact(hc j cs[j] (by simp[hj])).2
  ·simp only[au,ai,bZ (ae.1 hd).1]at hv
   obtain⟨_,e,rfl⟩:=hv
   cases e
   exact hr i d hd
  ·have hj:j<cs.length:=by have:=(ae.1 hv).1;simpa using this
   simp only[au,bZ hj,a8,av]at hv
   subst hv
   exact(hc j cs[j] (by simp[hj])).1
theorem IB{b o:Nat}{cs:List D}(hF:c.F b)(h:pW c w b o cs):eV c w (.pointer (some ⟨b,o,none⟩)) (.fh cs):=by
 obtain⟨vs,hc,hv⟩:=h
 refine .fh b o cs (fun j=>vs.getD j undef) hF (fun j d hd=>?_) (fun j d hd=>?_)
 ·obtain⟨u,hu,h1,_⟩:=hc.get hd
  simp only[List.getD,hu,aV]
  exact⟨hv j u hu,h1⟩
 ·obtain⟨u,hu,_,h1⟩:=hc.get hd
  simp only[List.getD,hu,aV]
  exact h1
theorem BL{t:TypeId}{b:Bool}(h:nf P t=some b)(w:World):(isAgg t).run P w = .ok b w:=by
 unfold nf at h
 unfold isAgg
 cases hu:P.underlying t with
 | none=>simp[hu]at h
 | some d=>cases d<;>simp[hu]at h<;>subst h<;>simp[run_underlying hu]
theorem pj{t:TypeId}{n:Nat}(h:jg P t=some n)(w:World):(sizeOf t).run P w = .ok n w:=by
 simp only[jg,ai]at h
 obtain⟨i,hi,rfl⟩:=h
 simp[sizeOf,typeInfo,hi]
theorem run_typeInfo{t:TypeId}{i:TypeInfo}(h:P.info? t=some i)(w:World):(typeInfo t).run P w = .ok i w:=by simp[typeInfo,h]
theorem uT{t:TypeId}{z:List D}(h:nZ P t=some z)(w:World):∃ v:Value,(zeroValue t).run P w = .ok v w∧(P.info? t).bind (·.zero)=some v ∧
  ∀ c w,Cells c w v.cells.toList z:=by
 unfold nZ at h
 cases hi:P.info? t with
 | none=>simp[hi]at h
 | some i=>
  simp only[hi,Option.bind_some]at h
  cases hz:i.zero with
  | none=>simp[hz]at h
  | some v=>
   simp only[hz]at h
   split at h
   ·rename_i gu
    cases h
    refine⟨v,by simp[zeroValue,run_typeInfo hi,hz],by simp[hz],fun c w=>⟨by simp,fun u hu=>?_,fun i u d hu hd=>?_⟩⟩
    ·exact cc.1 gu u (by simpa using hu)
    ·simp only[au,hu,a8,av]at hd
     subst hd
     exact Qw u
   ·cases h
theorem G6{t:TypeId}(ha:nf P t=some false){b o:Nat}{cs:List D}(hc:pW c w b o cs){d:D}(hd:cs[0]? = some d) :
  ∃ u,(Instr.loadAt t (.pointer (some ⟨b,o,none⟩))).run P w = .ok u w∧u.oneCell'=true∧eV c w u d:=by
 obtain⟨vs,ic,hv⟩:=hc
 obtain⟨u,hu,h1,h2⟩:=ic.get hd
 have:=hv 0 u hu
 exact⟨u,by simp[Instr.loadAt,Instr.sureAddr,loadVar,BL ha];simp at this;simp[this],h1,h2⟩
theorem G7{t:TypeId}{n:Nat}(ha:nf P t=some true)(hs:jg P t=some n){b o:Nat}{cs:List D}(hc:pW c w b o cs)(hn:n≤cs.length) :
  ∃ u,(Instr.loadAt t (.pointer (some ⟨b,o,none⟩))).run P w = .ok u w∧eV c w u (.agg (cs.take n)):=by
 obtain⟨vs,ic,hv⟩:=hc.take n
 have hl:vs.length=n:=by rw[ic.len];simp;omega
 have:=run_loadCells_list (P:=P) w ⟨b,o,none⟩ vs (fun j v hj=>by rw[Addr.add_lit];exact hv j v hj)
 rw[hl]at this
 exact⟨.agg vs.toArray,by simp[Instr.loadAt,Instr.sureAddr,loadVar,BL ha,pj hs,this],ic.agg⟩
theorem qt{v g:Nat}{x:TypeId×List D}(h:rowAt H v g=some x):H[v]? = some (.row x.1 g x.2):=by
 unfold rowAt at h
 split at h
 ·split at h
  ·rename_i e;subst e;cases h;assumption
  ·cases h
 ·cases h
theorem acw(h:fj G c H w){t:TypeId}(ha:nf P t=some false){x:D}{u:Value}(hr:eV c w u x)(hk:A7 x H K) :
  ∃ v,(Instr.loadAt t u).run P w = .ok v w∧ia G c H w K v w:=by
 unfold A7 at hk
 split at hk
 ·rename_i v g o
  split at hk
  ·rename_i t' cs gf
   have hv:=qt gf
   split at hk
   ·rename_i d hd
    obtain⟨b,p,rfl,hc⟩:=ED h hv hr
    obtain⟨u,hu,_,h2⟩:=G6 ha hc (d:=d) (by simpa using hd)
    exact⟨u,hu,.plain h hk h2⟩
   ·exact hk.elim
  ·exact hk.elim
 ·rename_i cs
  split at hk
  ·rename_i d hd
   obtain⟨b,p,rfl,_,hc⟩:=vo hr
   obtain⟨u,hu,_,h2⟩:=G6 ha hc hd
   exact⟨u,hu,.plain h hk h2⟩
  ·exact hk.elim
 ·exact hk.elim
theorem acx(h:fj G c H w){t:TypeId}{n:Nat}(ha:nf P t=some true)(hs:jg P t=some n){x:D}{u:Value}(hr:eV c w u x)(hk:A8 n x H K) :
  ∃ v,(Instr.loadAt t u).run P w = .ok v w∧ia G c H w K v w:=by
 unfold A8 at hk
 split at hk
 ·rename_i v g o
  split at hk
  ·rename_i t' cs gf
   have hv:=qt gf
   obtain⟨b,p,rfl,hc⟩:=ED h hv hr
   obtain⟨u,hu,h2⟩:=G7 (n:=n) ha hs hc (by simp;omega)
   exact⟨u,hu,.plain h hk.2 h2⟩
  ·exact hk.elim
 ·rename_i cs
  obtain⟨b,p,rfl,_,hc⟩:=vo hr
  obtain⟨u,hu,h2⟩:=G7 (n:=n) ha hs hc hk.1
  exact⟨u,hu,.plain h hk.2 h2⟩
 ·exact hk.elim
theorem acE(h:fj G c H w){x y z:D}{u v t:Value}(h1:eV c w u x)(h2:eV c w v y)(h3:eV c w t z)(hk:Bq x y z H K) :
  ∃ b,u = .bool b∧ia G c H w K (if b then v else t) w:=by
 unfold Bq at hk
 split at hk
 ·rename_i b
  cases h1
  refine⟨b,rfl,.plain h hk ?_⟩
  cases b
  ·exact h3
  ·exact h2
 ·exact hk.elim
end
end Go.AL
namespace Go.AL
open Go
section
variable{P:Program}{G:GT}{c:Ctx}{H:U}{w:World}{K:iw}{env:fO}{a:Act}
theorem wrap_i64{n:Int}(h:lR n):IntKind.i64.wrap n=n:=by
 unfold lR at h
 simp only[IntKind.wrap,IntKind.signed,IntKind.bits]
 simp
 omega
theorem ia.val(h:fj G c H w){v:Value}(hK:K (.val v) H):ia G c H w K v w:=.plain h hK (.val _)
theorem acb(h:fj G c H w){op:BinOp}{k:IntKind}{x y:Int}(hk:zw op k x y H K)(hs:op≠.shl∧op≠.shr)(t:TypeId)(xo yo:Operand) :
  ∃ v,(do eqGuard op t xo yo (.int k x) (.int k y);binOp op t (.int k x) (.int k y)).run P w = .ok v w∧ia G c H w K v w:=by
 have hg:(eqGuard op t xo yo (.int k x) (.int k y)).run P w = .ok () w:=by
  cases op<;>simp[eqGuard]
 simp only[Sem.run_bind,hg,Result.andThen_ok]
 cases op<;>simp only[zw]at hk
 case add=>
  by_cases e:k = .i64
  ·subst e
   simp only[if_true]at hk
   exact⟨_,by simp[binOp,Op.intArith,wrap_i64 hk.1]<;>rfl,.val h hk.2⟩
  ·rw[if_neg e]at hk
   exact⟨_,by simp[binOp,Op.intArith]<;>rfl,.val h hk⟩
 case sub=>
  by_cases e:k = .i64
  ·subst e
   simp only[if_true]at hk
   exact⟨_,by simp[binOp,Op.intArith,wrap_i64 hk.1]<;>rfl,.val h hk.2⟩
  ·rw[if_neg e]at hk
   exact⟨_,by simp[binOp,Op.intArith]<;>rfl,.val h hk⟩
 case mul=>
  by_cases e:k = .i64
  ·subst e
   simp only[if_true]at hk
   exact⟨_,by simp[binOp,Op.intArith,wrap_i64 hk.1]<;>rfl,.val h hk.2⟩
  ·rw[if_neg e]at hk
   exact⟨_,by simp[binOp,Op.intArith]<;>rfl,.val h hk⟩
 case quo=>exact⟨_,by simp[binOp,Op.intDiv,hk.1]<;>rfl,.val h hk.2⟩
 case rem=>exact⟨_,by simp[binOp,Op.intDiv,hk.1]<;>rfl,.val h hk.2⟩
 case and=>exact⟨_,by simp[binOp,Op.intBits]<;>rfl,.val h (by simpa[bits]using hk)⟩
 case or=>exact⟨_,by simp[binOp,Op.intBits]<;>rfl,.val h (by simpa[bits]using hk)⟩
 case xor=>exact⟨_,by simp[binOp,Op.intBits]<;>rfl,.val h (by simpa[bits]using hk)⟩
 case andNot=>exact⟨_,by simp[binOp,Op.intBits]<;>rfl,.val h (by simpa[bits]using hk)⟩
 case eql=>exact⟨_,by simp[binOp,Op.intCmp]<;>rfl,.val h hk⟩
 case neq=>exact⟨_,by simp[binOp,Op.intCmp]<;>rfl,.val h hk⟩
 case lss=>exact⟨_,by simp[binOp,Op.intCmp]<;>rfl,.val h hk⟩
 case leq=>exact⟨_,by simp[binOp,Op.intCmp]<;>rfl,.val h hk⟩
 case gtr=>exact⟨_,by simp[binOp,Op.intCmp]<;>rfl,.val h hk⟩
 case geq=>exact⟨_,by simp[binOp,Op.intCmp]<;>rfl,.val h hk⟩
 all_goals exact absurd rfl (by first|exact hs.1|exact hs.2)
theorem Kt(h:fj G c H w){op:BinOp}{x y:D}{u v:Value}(h1:eV c w u x)(h2:eV c w v y)(hk:zB op x y H K)(t:TypeId)(xo yo:Operand) :
  ∃ r,(do eqGuard op t xo yo u v;binOp op t u v).run P w = .ok r w∧ia G c H w K r w:=by
 unfold zB at hk
 split at hk
 ·cases h1;cases h2
  split at hk
  ·have key:∀ op,nR op=true→op = .shl∨op = .shr:=fun op ho=>by cases op<;>simp[nR]at ho<;>simp
   rename_i hs
   rcases key op hs with rfl|rfl
   ·simp only[BR]at hk
    have hn:=hk.1
    exact⟨_,by simp[eqGuard,binOp,Op.shift,eu.2 hn]<;>rfl,.val h hk.2⟩
   ·simp only[BR]at hk
    have hn:=hk.1
    exact⟨_,by simp[eqGuard,binOp,Op.shift,eu.2 hn]<;>rfl,.val h hk.2⟩
  ·rename_i hs
   obtain⟨rfl,hk⟩:=hk
   exact acb h hk ⟨fun e=>by subst e;exact hs rfl,fun e=>by subst e;exact hs rfl⟩ t xo yo
 ·cases h1;cases h2
  rename_i p q
  cases op<;>simp only[Hj]at hk
  case add=>exact⟨.string (p++q),by simp[eqGuard,binOp,run_string_add_sum w p q (by have:=hk.1;omega)],.val h hk.2⟩
  case eql=>exact⟨_,by simp[eqGuard,binOp,Op.stringOp,ByteArray.toList_eq]<;>rfl,.val h (by simpa using hk)⟩
  case neq=>exact⟨_,by simp[eqGuard,binOp,Op.stringOp,ByteArray.toList_eq]<;>rfl,.val h (by simpa using hk)⟩
 ·exact hk.elim
theorem acK(h:fj G c H w){op:UnOp}{x:D}{u:Value}(h1:eV c w u x)(hk:B3 op x H K) :
  ∃ r,(Op.unary op u).run P w = .ok r w∧ia G c H w K r w:=by
 unfold B3 at hk
 split at hk
 ·cases h1;exact⟨_,by simp[Op.unary]<;>rfl,.val h hk⟩
 ·cases h1
  rename_i n
  have:(0-n) = -n:=by omega
  exact⟨_,by simp[Op.unary,Op.intArith,wrap_i64 hk.1]<;>rfl,.val h hk.2⟩
 ·cases h1;exact⟨_,by simp[Op.unary,Op.intBits]<;>rfl,.val h (by simpa[bits]using hk)⟩
 ·exact hk.elim
theorem xu{d:D}{v:Value}{cs:List D}(hr:eV c w v d)(hc:cellsOf d=some cs):Cells c w v.cells.toList cs:=by
 have key:∀ {v:Value} {d:D},eV c w v d→v.oneCell'=true→v.cells = #[v]→Cells c w v.cells.toList [d]:=fun{v d} hr h1 hv=>by
  rw[hv]
  exact⟨rfl,by simpa using h1,fun i u e hu he=>by
   cases i with
   | zero=>simp at hu he;subst hu;subst he;exact hr
   | succ i=>simp at hu⟩
 cases hr with
 | any v=>simp[cellsOf]at hc
 | val v=>
  simp only[cellsOf]at hc
  split at hc
  ·rename_i h1
   cases hc
   refine key (.val v) h1 ?_
   cases v<;>first|rfl|(simp[Value.oneCell']at h1)
  ·cases hc
 | agg vs ds hl h1 h=>
  simp only[cellsOf,av]at hc
  subst hc
  exact⟨by simpa[Value.cells]using hl,by simpa[Value.cells]using h1,fun i v d hv hd=>h i v d (by simpa[Value.cells]using hv) hd⟩
 | tup=>simp[cellsOf]at hc
 | sl a len cap sz es g h1 h2 h3 h4 h5 h6 h7=>simp only[cellsOf,av]at hc;subst hc;exact key (.sl a len cap sz es g h1 h2 h3 h4 h5 h6 h7) rfl rfl
 | emp=>simp only[cellsOf,av]at hc;subst hc;exact key .emp rfl rfl
 | eT v k sz off len cap L h1 h2 h3 h4 h5=>simp only[cellsOf,av]at hc;subst hc;exact key (.eT v k sz off len cap L h1 h2 h3 h4 h5) rfl rfl
 | lu v k sz off L h1 a=>simp only[cellsOf,av]at hc;subst hc;exact key (.lu v k sz off L h1 a) rfl rfl
 | ptr v k off L h1 h2=>simp only[cellsOf,av]at hc;subst hc;exact key (.ptr v k off L h1 h2) rfl rfl
 | fh b o cs g h1 h2 h3=>simp only[cellsOf,av]at hc;subst hc;exact key (.fh b o cs g h1 h2 h3) rfl rfl
 | omap v L h1 h2=>simp only[cellsOf,av]at hc;subst hc;exact key (.omap v L h1 h2) rfl rfl
 | fn f fs cs df dc h1 h2 h3 h4=>simp only[cellsOf,av]at hc;subst hc;exact key (.fn f fs cs df dc h1 h2 h3 h4) rfl rfl
 | gP v L h1 h2=>simp only[cellsOf,av]at hc;subst hc;exact key (.gP v L h1 h2) rfl rfl
theorem acL{d:D}(h:one d=true):cellsOf d=some [d]:=by
 cases d<;>first|rfl|(simp[one]at h;done)|skip
 rename_i v
 simp only[one]at h
 simp[cellsOf,h]
theorem acY{L:Loc}(hv:L.iv=false)(h0:L.base=0)(v g:Nat):eV (c.set v g L) w (.pointer (some ⟨L.b,0,none⟩)) (.ptr v g 0):=by
 have:=eV.ptr (c:=c.set v g L) (w:=w) v g 0 L (Ctx.pT _ _ _ _) hv
 simpa[h0]using this
theorem P9(h:fj G c H w){al:Al}(fZ:kZ H al)(t:TypeId){v:Value}{cs:List D}(hc:Cells c w v.cells.toList cs)(hk:K (.ptr al.1 0 0) (al.2 (.row t 0 cs))) :
  ∃ w',(newVar t v).run P w = .ok ⟨w.heap.size,0,none⟩ w'∧ia G c H w K (.pointer (some ⟨w.heap.size,0,none⟩)) w':=by
 obtain⟨L,h1,h2,h3,h4,h5,h6⟩:=Bk h w (iM.refl w) t v.cells.toList cs v.cells.size v.cells (fZ _).qu hc (by rw[← cU,dF]) (Nat.le_refl _)
 refine⟨w.alloc (.cells v.cells t),by simp[newVar,newRow],?_⟩
 have hp:=acY (c:=c) (w:=w.alloc (.cells v.cells t)) h1 h3 al.1 0
 rw[h2]at hp
 exact⟨_,_,_,hk,h5,hp,h6⟩
theorem ace(h:fj G c H w){al:Al}(fZ:kZ H al)(t:TypeId){x:D}{u:Value}(h1:eV c w u x)(hk:zC t x al K) :
  ∃ r w',(Instr.box t u).run P w = .ok r w'∧ia G c H w K r w':=by
 unfold zC at hk
 split at hk
 ·rename_i cs ic
  obtain⟨w',hr,hp⟩:=P9 (P:=P) h fZ t (xu h1 ic) hk
  exact⟨_,w',by simp[Instr.box,hr],hp⟩
 ·exact hk.elim
theorem ab8(h:fj G c H w){al:Al}(fZ:kZ H al){t:TypeId}{z:List D}(hz:nZ P t=some z)(hk:K (.ptr al.1 0 0) (al.2 (.row t 0 z))) :
  ∃ r w',(Instr.alloc t true (.tuple #[])).run P w = .ok r w'∧ia G c H w K r w':=by
 obtain⟨v,hv,_,hc⟩:=uT hz w
 obtain⟨w',hr,hp⟩:=P9 (P:=P) h fZ t (hc c w) hk
 exact⟨_,w',by simp[Instr.alloc,hv,hr],hp⟩
theorem Cells.oR{vs us:List Value}{cs ds:List D}(h:Cells c w vs cs)(k:Cells c w us ds)(o:Nat):Cells c w (vs.take o++us++vs.drop (o+us.length)) (cs.take o++ds++cs.drop (o+ds.length)):=by
 rw[k.len]
 exact((h.take o).append k).append (h.drop _)
theorem T7(l:List Value):∀ (off:Nat) (cs:Array Value),off+l.length≤cs.size →
  ((l.zipIdx off).foldl (fun(cs:Array Value) (x:Value×Nat)=>cs.setIfInBounds x.2 x.1) cs).toList=cs.toList.take off++l++cs.toList.drop (off+l.length):=by
 induction l with
 | nil=>intro off cs _;simp
 | cons v r ih=>
  intro off cs h
  simp only[aG]at h
  simp only[List.zipIdx_cons,cH]
  rw[ih (off+1) _ (by simp;omega)]
  simp only[Array.toList_setIfInBounds]
  have:=list_seg_step cs.toList off v r (by simp;omega)
  simpa[bj,cQ 1]using this
theorem TV(cs:Array Value)(l:Array Value)(off:Nat)(h:off+l.size≤cs.size) :
  (l.zipIdx.foldl (fun(cs:Array Value) (x:Value×Nat)=>match x with|(c,j)=>cs.setIfInBounds (off+j) c) cs).toList=cs.toList.take off++l.toList++cs.toList.drop (off+l.size):=by
 have:=T7 l.toList off cs (by simpa using h)
 rw[← Array.foldl_toList,Array.toList_zipIdx]
 have e:(l.toList.zipIdx off)=(l.toList.zipIdx 0).map fun x=>(x.1,off+x.2):=by
  rw[List.zipIdx_eq_map_add]
  first|done|(simp only[cQ])
 rw[e,List.foldl_map]at this
 exact this
theorem E9(place:Nat→Option (Nat×Nat)):∀ (vs:List (Nat×Value)) (ps:List (Nat×Nat×List D)) (arr:Array Value) (cs rs:List D),
  Cells c w arr.toList cs→vs.length=ps.length →
  (∀ (i:Nat) (v:Nat×Value) (p:Nat×Nat×List D),vs[i]? = some v→ps[i]? = some p→place v.1=some (p.1,p.2.1)∧Cells c w v.2.cells.toList p.2.2) →
  lay ps cs=some rs→∃ mw,Instr.fill place arr vs=some mw∧Cells c w mw.toList rs
 | [],[],arr,cs,rs,hc,_,_,hl=>by simp[lay]at hl;subst hl;exact⟨arr,rfl,hc⟩
 | (i,v)::vs,(o,n,xs)::ps,arr,cs,rs,hc,hlen,h,hl=>by
  obtain⟨hp,hx⟩:=h 0 (i,v) (o,n,xs) rfl rfl
  simp only[lay]at hl
  split at hl
  ·rename_i il
   have gy:v.cells.size=n:=by rw[← il.1,← hx.len];simp
   have kS:o+v.cells.size≤arr.size:=by rw[gy];have:=hc.len;simp at this;omega
   simp only[Instr.fill,hp]
   rw[if_neg (by simp;omega)]
   have rS:=TV arr v.cells o kS
   refine E9 place vs ps _ _ rs ?_ (by simpa using hlen) (fun i v p hv hp=>h (i+1) v p (by simpa using hv) (by simpa using hp)) hl
   rw[rS]
   have:=hc.oR hx o
   rw[il.1]at this
   simpa[gy]using this
  ·cases hl
theorem Ez(h:fj G c H w)(he:jt c w env a):∀ (l:List (Nat×Operand)) {ps:List (Nat×X)},tP G l=some ps →
  ps.length=l.length∧∀ (i:Nat) (x:Nat×Operand) (p:Nat×X),l[i]? = some x→ps[i]? = some p→p.1=x.1∧eV c w (a.eval x.2) (ev env p.2)
 | [],ps,hx=>by cases hx;simp
 | (i,x)::r,ps,hx=>by
  simp only[tP]at hx
  split at hx
  ·rename_i X l hX hl
   cases hx
   obtain⟨oN,pJ⟩:=Ez h he r hl
   refine⟨by simp[oN],fun j y p hy hp=>?_⟩
   cases j with
   | zero=>simp at hy hp;subst hy;subst hp;exact⟨rfl,gJ h he hX⟩
   | succ j=>simp at hy hp;exact pJ j y p hy hp
  ·cases hx
theorem Qj{fs:Array Field}:∀ {ps:List (Nat×X)} {qs:List (Nat×Nat×X)},Br P fs ps=some qs →
  qs.length=ps.length∧∀ (i:Nat) (p:Nat×X) (q:Nat×Nat×X),ps[i]? = some p→qs[i]? = some q→q.2.2=p.2∧∃ f,fs[p.1]? = some f∧q.1=f.offset∧jg P f.type=some q.2.1
 | [],qs,h=>by cases h;simp
 | (i,x)::r,qs,h=>by
  simp only[Br]at h
  split at h
  ·rename_i f l hf hl
   simp only[ai]at h
   obtain⟨n,hn,rfl⟩:=h
   obtain⟨oN,pJ⟩:=Qj hl
   refine⟨by simp[oN],fun j p q hp hq=>?_⟩
   cases j with
   | zero=>simp at hp hq;subst hp;subst hq;exact⟨rfl,f,hf,rfl,hn⟩
   | succ j=>simp at hp hq;exact pJ j p q hp hq
  ·cases h
theorem Kx{l:List (Nat×Nat×X)}{r:List (Nat×Nat×List D)}(h:partsOf env l=some r) :
  r.length=l.length∧∀ (i:Nat) (p:Nat×Nat×X) (q:Nat×Nat×List D),l[i]? = some p→r[i]? = some q→q.1=p.1∧q.2.1=p.2.1∧cellsOf (ev env p.2.2)=some q.2.2:=by
 induction l generalizing r with
 | nil=>simp[partsOf]at h;subst h;simp
 | cons p l ih=>
  obtain⟨o,n,x⟩:=p
  simp only[partsOf]at h
  split at h
  ·rename_i cs l' ic hl
   cases h
   obtain⟨oN,pJ⟩:=ih hl
   refine⟨by simp[oN],fun j p q hp hq=>?_⟩
   cases j with
   | zero=>simp at hp hq;subst hp;subst hq;exact⟨rfl,rfl,ic⟩
   | succ j=>simp at hp hq;exact pJ j p q hp hq
  ·cases h
theorem Fh{α:Type}{l:List α}{n i:Nat}(hl:l.length=n)(hi:i<n):∃ x,l[i]? = some x:=⟨l[i],by simp[hl▸hi]⟩
theorem acf(h:fj G c H w)(he:jt c w env a){t:TypeId}{z:List D}{ops:Array (Nat×Operand)}{ps:List (Nat×X)}{qs:List (Nat×Nat×X)}{fs:Array Field}
  (hz:nZ P t=some z) (hp:tP G ops.toList=some ps) (hu:P.underlying t=some (.struct fs)) (hf:Nn P fs=true) (hq:Br P fs ps=some qs)
  (hk:vh env z qs H K):∃ r,(Instr.build t (ops.map fun(i,x)=>(i,a.eval x))).run P w = .ok r w∧ia G c H w K r w:=by
 unfold vh at hk
 split at hk
 ·rename_i l hl
  split at hk
  ·rename_i cs ic
   obtain⟨v,hv,_,hc⟩:=uT hz w
   obtain⟨p1,p2⟩:=Ez h he ops.toList hp
   obtain⟨q1,q2⟩:=Qj hq
   obtain⟨r1,r2⟩:=Kx hl
   have VV:∃ places:Array (Nat×Nat),(fs.mapM fun f=>do pure (f.offset,← sizeOf f.type):Sem (Array (Nat×Nat))).run P w = .ok places w∧∀ (i:Nat) (f:Field) (n:Nat),fs[i]? = some f→jg P f.type=some n→places[i]? = some (f.offset,n):=by
    have key:∀ (l:List Field),(∀ f∈l,(jg P f.type).isSome=true)→∃ pl:List (Nat×Nat),(l.mapM fun f=>do pure (f.offset,← sizeOf f.type):Sem (List (Nat×Nat))).run P w = .ok pl w∧∀ (i:Nat) (f:Field) (n:Nat),l[i]? = some f→jg P f.type=some n→pl[i]? = some (f.offset,n):=by
     intro l
     induction l with
     | nil=>intro _;exact⟨[],by simp,by simp⟩
     | cons f l ih=>
      intro gu
      obtain⟨pl,kU,gM⟩:=ih (fun g hg=>gu g (by simp[hg]))
      obtain⟨n,hn⟩:=dg.1 (gu f (by simp))
      refine⟨(f.offset,n)::pl,?_,fun i g m hg hm=>?_⟩
      ·simp only[dY,Sem.run_bind,pj hn,Result.andThen_ok,Sem.run_pure,kU]
      ·cases i with
       | zero=>simp at hg;subst hg;rw[hn]at hm;cases hm;rfl
       | succ i=>simp at hg ⊢;exact gM i g m hg hm
    obtain⟨pl,kU,gM⟩:=key fs.toList (fun f U7=>cc.1 hf f (by simpa using U7))
    refine⟨pl.toArray,?_,fun i f n hi hn=>by simpa using gM i f n (by simpa using hi) hn⟩
    rw[ew,Sem.run_map,kU]
    rfl
   obtain⟨places,kU,gM⟩:=VV
   obtain⟨mw,uq,nK⟩:=E9 (c:=c) (w:=w) (places[·]?) (ops.toList.map fun x=>(x.1,a.eval x.2)) l v.cells z cs (hc c w) (by simp[r1,q1,p1]) (fun i x q hx AN=>by
    simp only[au,ai]at hx
    obtain⟨y,hy,rfl⟩:=hx
    have hi:i<ops.toList.length:=(ae.1 hy).1
    obtain⟨p,uw⟩:=Fh p1 hi
    obtain⟨s,OH⟩:=Fh (q1.trans p1) hi
    obtain⟨e1,e2⟩:=p2 i y p hy uw
    obtain⟨e3,f,N7,U9,N8⟩:=q2 i p s uw OH
    obtain⟨e4,e5,e6⟩:=r2 i s q OH AN
    refine⟨?_,?_⟩
    ·rw[e1]at N7
     have:=gM _ f _ N7 N8
     simp[this,e4,e5,U9]
    ·rw[e3]at e6
     exact xu e2 e6) ic
   refine⟨.agg mw,?_,?_⟩
   ·simp only[Instr.build,Sem.run_bind,hv,Result.andThen_ok,run_underlying hu,kU]
    have:(Array.map (fun x=>(x.fst,a.eval x.snd)) ops).toList=ops.toList.map fun x=>(x.1,a.eval x.2):=by simp
    simp only[this,uq]
    rfl
   ·have:=nK.agg
    exact .plain h hk (by simpa using this)
  ·exact hk.elim
 ·exact hk.elim
theorem acg(h:fj G c H w)(he:jt c w env a){t e:TypeId}{n sz:Nat}{z:List D}{ops:Array (Nat×Operand)}{ps:List (Nat×X)}
  (hz:nZ P t=some z) (hp:tP G ops.toList=some ps) (hu:P.underlying t=some (.array n e)) (hs:jg P e=some sz)
  (hk:vh env z (ps.map fun p=>(p.1*sz,sz,p.2)) H K):∃ r,(Instr.build t (ops.map fun(i,x)=>(i,a.eval x))).run P w = .ok r w∧ia G c H w K r w:=by
 unfold vh at hk
 split at hk
 ·rename_i l hl
  split at hk
  ·rename_i cs ic
   obtain⟨v,hv,_,hc⟩:=uT hz w
   obtain⟨p1,p2⟩:=Ez h he ops.toList hp
   obtain⟨r1,r2⟩:=Kx hl
   obtain⟨mw,uq,nK⟩:=E9 (c:=c) (w:=w) (fun i=>some (i*sz,sz)) (ops.toList.map fun x=>(x.1,a.eval x.2)) l v.cells z cs (hc c w) (by simp[r1,p1]) (fun i x q hx AN=>by
    simp only[au,ai]at hx
    obtain⟨y,hy,rfl⟩:=hx
    have hi:i<ops.toList.length:=(ae.1 hy).1
    obtain⟨p,uw⟩:=Fh p1 hi
    obtain⟨e1,e2⟩:=p2 i y p hy uw
    obtain⟨e4,e5,e6⟩:=r2 i (p.1*sz,sz,p.2) q (by simp[uw]) AN
    exact⟨by simp[e4,e5,e1],xu e2 e6⟩) ic
   refine⟨.agg mw,?_,?_⟩
   ·simp only[Instr.build,Sem.run_bind,hv,Result.andThen_ok,run_underlying hu,pj hs]
    have:(Array.map (fun x=>(x.fst,a.eval x.snd)) ops).toList=ops.toList.map fun x=>(x.1,a.eval x.2):=by simp
    simp only[this,uq]
    rfl
   ·have:=nK.agg
    exact .plain h hk (by simpa using this)
  ·exact hk.elim
 ·exact hk.elim
end
end Go.AL
namespace Go.AL
open Go
section
variable{P:Program}{G:GT}{c:Ctx}{H:U}{w:World}{K:iw}{env:fO}{a:Act}
theorem GK{L:Loc}(hv:L.iv=false)(h0:L.base=0)(v k sz len cap:Nat)(ht:L.top=cap*sz)(hc:len≤cap)(hm:cap≤maxLen) :
  eV (c.set v k L) w (.slice (some ⟨L.b,0,none⟩) len cap) (.eT v k sz 0 len):=by
 have:=eV.eT (c:=c.set v k L) (w:=w) v k sz 0 len cap L (Ctx.pT _ _ _ _) hv hc hm (by simp[h0,ht])
 simpa[h0]using this
theorem Fc(zs:List Value)(z:List D)(hz:∀ c w,Cells c w zs z)(n:Nat):Cells c w (List.replicate n zs).flatten (List.replicate n z).flatten:=by
 induction n with
 | zero=>exact Cells.nil
 | succ n ih=>rw[bL,bL,aN,aN];exact(hz c w).append ih
theorem GN(zs:Array Value)(n:Nat)(h0:0<zs.size):((Array.range (n*zs.size)).map (fun i=>zs[i % zs.size]!)).toList=(List.replicate n zs.toList).flatten:=by
 apply bM
 intro i
 simp only[Array.toList_map,Array.toList_range,au]
 by_cases hi:i<n*zs.size
 ·rw[bZ hi]
  have key:∀ (n i:Nat),i<n*zs.size→(List.replicate n zs.toList).flatten[i]? = some (zs[i % zs.size]!):=by
   intro n
   induction n with
   | zero=>intro i hi;simp at hi
   | succ n ih=>
    intro i hi
    rw[bL,aN]
    by_cases hl:i<zs.size
    ·rw[ag (by simpa using hl),eA hl]
     simp[hl]
    ·rw[ak (by simpa using hl)]
     have:i-zs.size<n*zs.size:=by rw[bp]at hi;omega
     rw[show i-zs.toList.length=i-zs.size by simp,ih _ this,← Nat.mod_eq_sub_mod (by omega)]
  rw[key n i hi]
  rfl
 ·rw[aI (by simp;omega)]
  rw[aI (by simp;omega)]
  rfl
theorem ach(h:fj G c H w){al:Al}(fZ:kZ H al)(he:jt c w env a){t e:TypeId}{sz n:Nat}{z:List D}{ops:Array (Nat×Operand)}{ps:List (Nat×X)}
  (hu:P.underlying t=some (.slice e)) (hz:nZ P e=some z) (hs:jg P e=some sz) (hp:tP G ops.toList=some ps) (yg:z.length=sz) (jr:0<sz) (kS:n*sz≤16777216)
  (hk:zD env e sz z n ps al K):∃ r w',(Instr.buildSlice t n (ops.map fun(i,x)=>(i,a.eval x))).run P w = .ok r w'∧ia G c H w K r w':=by
 unfold zD at hk
 split at hk
 ·rename_i l hl
  split at hk
  ·rename_i cs ic
   obtain⟨zv,s9,_,pI⟩:=uT hz w
   obtain⟨p1,p2⟩:=Ez h he ops.toList hp
   obtain⟨r1,r2⟩:=Kx hl
   have rT:zv.cells.size=sz:=by have:=(pI c w).len;simp at this;omega
   have OL:Cells c w ((Array.range (n*sz)).map (fun i=>zv.cells[i % zv.cells.size]!)).toList (List.replicate n z).flatten:=by
    rw[← rT,GN zv.cells n (by omega)]
    exact Fc _ _ pI n
   obtain⟨mw,uq,nK⟩:=E9 (c:=c) (w:=w) (fun i=>some (i*sz,sz)) (ops.toList.map fun x=>(x.1,a.eval x.2)) l _ _ cs OL (by simp[r1,p1]) (fun i x q hx AN=>by
    simp only[au,ai]at hx
    obtain⟨y,hy,rfl⟩:=hx
    have hi:i<ops.toList.length:=(ae.1 hy).1
    obtain⟨p,uw⟩:=Fh p1 hi
    obtain⟨e1,e2⟩:=p2 i y p hy uw
    obtain⟨e4,e5,e6⟩:=r2 i (p.1*sz,sz,p.2) q (by simp[uw]) AN
    exact⟨by simp[e4,e5,e1],xu e2 e6⟩) ic
   have hlen:mw.size=n*sz:=by
    have h1:=nK.len
    have h2:cs.length=(List.replicate n z).flatten.length:=by
     clear hk nK uq h1 OL
     have key:∀ (ps:List (Nat×Nat×List D)) (cs rs:List D),lay ps cs=some rs→rs.length=cs.length:=by
      intro ps
      induction ps with
      | nil=>intro cs rs h;simp[lay]at h;subst h;rfl
      | cons p ps ih=>
       intro cs rs h
       obtain⟨o,m,xs⟩:=p
       simp only[lay]at h
       split at h
       ·rw[ih _ _ h];simp;omega
       ·cases h
     exact key _ _ _ ic
    rw[h2]at h1
    simp[yg]at h1
    exact h1
   obtain⟨L,h1,h2,h3,h4,h5,h6⟩:=Bk h w (iM.refl w) e mw.toList cs mw.size mw (fZ _).qu nK (by rw[← cU,dF]) (Nat.le_refl _)
   refine⟨.slice (some ⟨w.heap.size,0,none⟩) n n,w.alloc (.cells mw e),?_,?_⟩
   ·have Wd:¬ n*sz>2 ^ 24:=by omega
    simp only[Instr.buildSlice,Sem.run_bind,run_underlying hu,Result.andThen_ok,pj hs,Sem.run_ite]
    rw[if_neg Wd]
    have On:(Array.map (fun x=>(x.fst,a.eval x.snd)) ops).toList=ops.toList.map fun x=>(x.1,a.eval x.2):=by simp
    by_cases h0:n*sz=0
    ·have hn:n=0:=by
      rcases Nat.mul_eq_zero.1 h0 with h|h<;>omega
     subst hn
     simp only[cr]at uq
     simp only[cr,if_true,Sem.run_pure,Result.andThen_ok,On]
     have e0:(Array.map (fun x=>(#[]:Array Value)[x % (#[]:Array Value).size]!) (Array.range 0))=Array.map (fun i=>zv.cells[i % zv.cells.size]!) (Array.range 0):=by simp
     rw[e0,uq]
     simp[newRow]
    ·rw[if_neg h0]
     simp only[Sem.run_bind,s9,Result.andThen_ok,Sem.run_pure,On,uq]
     simp[newRow]
   ·have hp:=GK (c:=c) (w:=w.alloc (.cells mw e)) h1 h3 al.1 0 sz n n (by rw[h4,hlen]) (Nat.le_refl _) (by
     have:n≤n*sz:=Nat.le_mul_of_pos_right n jr
     unfold maxLen;omega)
    rw[h2]at hp
    exact⟨_,_,_,hk,h5,hp,h6⟩
  ·exact hk.elim
 ·exact hk.elim
theorem adC{t:TypeId}{n:Nat}(hs:jg P t=some n){v:Value}(hv:v.cells.size=n)(b o:Nat) :
  (Instr.storeAt t (.pointer (some ⟨b,o,none⟩)) v).run P w=(storeCells ⟨b,o,none⟩ v.cells.toList).run P w:=by
 simp[Instr.storeAt,Instr.sureAddr,storeVar,pj hs,hv]
theorem Qb(h:fj G c H w){v g o:Nat}{t t':TypeId}{cs xs:List D}(hv:H[v]? = some (.row t' g cs)){u x:Value}(hu:eV c w u (.ptr v g o)){n:Nat}(hs:jg P t=some n)
  (hx:Cells c w x.cells.toList xs) (hn:xs.length=n) (kS:o+n≤cs.length) (hk:K .any (H.set v (.row t' g (cs.take o++xs++cs.drop (o+n))))) :
  ∃ w',(Instr.storeAt t u x).run P w = .ok () w'∧ia G c H w K undef w':=by
 cases hu with
 | ptr _ _ _ L e7 gw=>
  obtain⟨arr,h1,h2,h3,h4⟩:=uQ h hv e7 gw
  have pH:x.cells.size=n:=by have:=hx.len;simp at this;omega
  have fg:=run_storeCells_at P L.b (L.base+o) t' x.cells.toList 0 arr w h1 (by simp;omega) hx.one
  simp only[bS]at fg
  have hw:=B9 h hv e7 gw h1 (arr.toList.take (L.base+o)++x.cells.toList++arr.toList.drop (L.base+o+x.cells.toList.length)).toArray
   (by simp;omega) h2 (cs.take o++xs++cs.drop (o+n)) (by simp;omega) (fun i d hd=>by
    have F3:=h4.oR hx o
    rw[hn]at F3
    obtain⟨y,hy,h5,h6⟩:=F3.get hd
    refine⟨y,?_,h5,h6⟩
    rw[← hy]
    simp only[c6]
    have Wx:x.cells.toList.length=n:=by simpa using pH
    have gW:(List.take (L.base+o) arr.toList).length=L.base+o:=by simp;omega
    have hJ:(List.take o (List.take cs.length (List.drop L.base arr.toList))).length=o:=by simp;omega
    by_cases c1:i<o
    ·rw[ag (by simp;omega),ag (by rw[gW];omega),ag (by simp;omega),ag (by rw[hJ];omega)]
     simp only[aA,aB]
     rw[if_pos (by omega),if_pos c1,if_pos (by omega)]
    ·by_cases c2:i<o+n
     ·rw[ag (by simp;omega),ak (by rw[gW];omega),ag (by simp;omega),ak (by rw[hJ];omega),gW,hJ]
      congr 1
      omega
     ·have mE:i<cs.length:=by have:=(ae.1 hd).1;simp at this;omega
      rw[ak (by simp;omega),ak (by simp;omega)]
      simp only[aB,aA,ax,gW,hJ,Wx]
      rw[if_pos (by omega)]
      congr 1
      omega)
  exact⟨_,by rw[adC hs pH];exact fg,.any,_,c,hk,hw.1,.any _,hw.2⟩
theorem acI(h:fj G c H w){t:TypeId}(hs:jg P t=some 1){p x:D}{u v:Value}(h1:eV c w u p)(h2:eV c w v x)(hk:BU p x H K) :
  ∃ w',(Instr.storeAt t u v).run P w = .ok () w'∧ia G c H w K undef w':=by
 unfold BU at hk
 split at hk
 ·rename_i v0 g0 o
  split at hk
  ·rename_i t' cs gf
   obtain⟨ft,Jo,hk⟩:=hk
   have hv:=qt gf
   dsimp only at hv
   refine Qb h hv h1 hs (xu h2 (acL Jo)) rfl (by omega) ?_
   have e:cs.take o ++ [x]++cs.drop (o+1)=cs.set o x:=by
    rw[cO,if_pos ft]
    simp
   rw[e]
   exact hk
  ·exact hk.elim
 ·exact hk.elim
theorem acJ(h:fj G c H w){t:TypeId}{n:Nat}(hs:jg P t=some n){p x:D}{u v:Value}(h1:eV c w u p)(h2:eV c w v x)(hk:BV n p x H K) :
  ∃ w',(Instr.storeAt t u v).run P w = .ok () w'∧ia G c H w K undef w':=by
 unfold BV at hk
 split at hk
 ·rename_i v' g' o xs JO
  split at hk
  ·rename_i t' cs gf
   obtain⟨hn,kS,hk⟩:=hk
   exact Qb h (qt gf) h1 hs (xu h2 JO) hn kS hk
  ·exact hk.elim
 ·exact hk.elim
theorem acq(h:fj G c H w){t:TypeId}{f n:Nat}{fs:Array Field}{fd:Field}(hu:P.underlying t=some (.struct fs))(hf:fs[f]? = some fd)(hs:jg P fd.type=some n)(hn:0<n)
  {x:D} {u:Value} (h1:eV c w u x) (hk:z6 fd.offset x H K):∃ r,(Instr.fieldAt t u f).run P w = .ok r w∧ia G c H w K r w:=by
 have gS:∀ b o,(Instr.fieldAt t (.pointer (some ⟨b,o,none⟩)) f).run P w = .ok (.pointer (some ⟨b,o+fd.offset,none⟩)) w:=fun b o=>by
  simp only[Instr.fieldAt,Sem.run_bind,run_underlying hu,Result.andThen_ok,hf]
  simp only[Instr.sureAddr,Sem.run_pure,Result.andThen_ok,fieldPlace,Sem.run_bind,pj hs,Sem.run_ite]
  rw[if_neg (by omega)]
  simp[Addr.add_lit]
 unfold z6 at hk
 split at hk
 ·rename_i v g o
  cases h1 with
  | ptr _ _ _ L e7 hv=>
   refine⟨_,gS _ _,.plain h hk ?_⟩
   have:=eV.ptr (c:=c) (w:=w) v g (o+fd.offset) L e7 hv
   rwa [← bj]at this
 ·obtain⟨b,p,rfl,hF,hc⟩:=vo h1
  exact⟨_,gS _ _,.plain h hk (IB hF (hc.drop _))⟩
 ·exact hk.elim
theorem Qa(h:fj G c H w){t:TypeId}{n:Nat}{b:Bool}(ha:nf P t=some b)(hs:jg P t=some n){vs:List Value}{cs:List D}(hc:Cells c w vs cs){off:Nat}
  (hk:vC off n b (.agg cs) H K):∃ r,(part t vs.toArray off).run P w = .ok r w∧ia G c H w K r w:=by
 simp only[vC]at hk
 cases b with
 | true=>
  simp only[if_true]at hk
  refine⟨.agg ((vs.drop off).take n).toArray,?_,.plain h hk.2 ((hc.drop off).take n).agg⟩
  simp[part,BL ha,pj hs,List.extract_toArray,List.take_drop]
 | false=>
  simp only[bH,if_false]at hk
  split at hk
  ·rename_i d hd
   obtain⟨v,hv,_,hr⟩:=hc.get hd
   refine⟨v,?_,.plain h hk hr⟩
   simp[part,BL ha,hv]
  ·exact hk.elim
theorem acp(h:fj G c H w){t:TypeId}{f n:Nat}{b:Bool}{fs:Array Field}{fd:Field}(hu:P.underlying t=some (.struct fs))(hf:fs[f]? = some fd)(ha:nf P fd.type=some b)(hs:jg P fd.type=some n)
  {x:D} {u:Value} (h1:eV c w u x) (hk:vC fd.offset n b x H K):∃ r,(Instr.field t u f).run P w = .ok r w∧ia G c H w K r w:=by
 have hx:∃ cs,x = .agg cs:=by cases x<;>first|exact⟨_,rfl⟩|exact(show False from hk).elim
 obtain⟨cs,rfl⟩:=hx
 cases h1 with
 | agg vs _ hl h1 h2=>
  obtain⟨r,hr,hp⟩:=Qa h ha hs ⟨hl,h1,h2⟩ hk
  exact⟨r,by simp[Instr.field,run_underlying hu,hf,asAgg,hr],hp⟩
theorem acs(h:fj G c H w){t e:TypeId}{sz:Nat}(hu:P.underlying t=some (.slice e))(hs:jg P e=some sz)(jr:0<sz){x i:D}{u v:Value}(h1:eV c w u x)(h2:eV c w v i)(hk:AY sz x i H K) :
  ∃ r,(Instr.indexAt t u v).run P w = .ok r w∧ia G c H w K r w:=by
 have gS:∀ (ad:Addr) (len cap:Nat) (k:IntKind) (n:Int),0≤n∧n<len→(Instr.indexAt t (.slice (some ad) len cap) (.int k n)).run P w = .ok (.pointer (some (ad.add (n.toNat*sz)))) w:=fun ad len cap k n hn=>by
  simp only[Instr.indexAt,Sem.run_bind,asIntOf,Sem.run_pure,Result.andThen_ok,run_underlying hu,pj hs,Sem.run_ite]
  rw[if_pos hn]
 unfold AY at hk
 split at hk
 ·rename_i fV es k n
  obtain⟨rfl,hn,hk⟩:=hk
  cases h2
  cases h1 with
  | sl ad len cap _ _ g hlen iQ ji gy mY hc hr=>
   have hi:n.toNat<es.length:=by omega
   cases ad with
   | none=>have:=mY rfl;omega
   | some ad=>
    refine⟨_,gS ad len cap k n ⟨hn.1,by omega⟩,.plain h hk ?_⟩
    have gM:es[n.toNat]? = some es[n.toNat]:=by simp[hi]
    have Au:es.getD n.toNat []=es[n.toNat]:=by simp[hi]
    rw[Au]
    have hl:es[n.toNat].length=fV:=gy _ (bJ hi)
    obtain⟨d0,jq⟩:∃ d0,es[n.toNat][0]? = some d0:=⟨es[n.toNat][0]'(by omega),by simp⟩
    obtain⟨b,o,e,hF,_,_⟩:=hc n.toNat _ 0 d0 gM jq
    cases e
    rw[Addr.add_lit]
    refine .fh b (o+n.toNat*fV) _ (g n.toNat) hF (fun j d hd=>?_) (fun j d hd=>hr _ _ j d gM hd)
    obtain⟨b',o',e,_,h3,h4⟩:=hc n.toNat _ j d gM hd
    cases e
    exact⟨by rw[bj];exact h3,h4⟩
 ·rename_i v0 g0 fV off len k n
  obtain⟨rfl,hn,hk⟩:=hk
  cases h2
  cases h1 with
  | eT _ _ _ _ _ cap L e7 hv iQ ji kc=>
   refine⟨_,gS _ len cap k n hn,.plain h hk ?_⟩
   rw[Addr.add_lit,bj,← bp]
   exact .ptr _ _ _ L e7 hv
  | lu=>omega
 ·exact hk.elim
