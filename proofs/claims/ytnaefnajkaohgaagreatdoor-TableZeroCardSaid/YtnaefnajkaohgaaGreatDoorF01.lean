/- Part 1 of the proof of skewer.skewerlaw15.TableZero. -/
import Derived.RangeFuncIn
import Derived.TacticsIn
import Derived.OrdersIn
import Derived.Laws.CopyRow
import Derived.Laws.AppendOwn
import Derived.Laws.OwnMore
import Derived.Laws.Concat
import Derived.Laws.Strings
import Derived.Laws.Slices
import Derived.Laws.StructEq
import Derived.Laws.BytesString
set_option linter.all false
namespace Go.AL
open Go
def ae:=@Option.bind_eq_some_iff
def af:=@List.getElem?_eq_some_iff
def ag:=@List.getElem?_append_left
def ah:=@Bool.and_eq_true
def ai:=@Option.map_eq_some_iff
def aj:=@List.getElem?_append_right
def ak:=@List.map_congr_left
def ao:=@List.all_eq_true
def aq:=@Option.some.injEq
def ar:=@List.getElem?_map
def au:=@Option.bind_eq_bind
def av:=@List.append_nil
def aw:=@List.mem_map
def ax:=@List.mem_cons
def ay:=@List.getElem?_take
def az:=@List.length_append
def aA:=@List.length_eq_zero_iff
def aB:=@List.length_pos_iff
def aC:=@List.getElem?_drop
def aD:=@List.mem_iff_getElem?
def aF:=@Option.pure_def
def aG:=@List.take_of_length_le
def aH:=@Nat.lt_of_lt_of_le
def aI:=@Array.getElem?_eq_some_iff
def aJ:=@List.length_cons
def aK:=@List.getElem?_eq_none
def aL:=@List.flatten_cons
def aM:=@List.mem_flatten
def aN:=@List.mem_of_mem_take
def aO:=@List.mem_cons_of_mem
def aP:=@List.length_take
def aQ:=@List.map_id
def aR:=@Option.getD_some
def aS:=@List.mem_append_left
def aT:=@List.mem_filter
def aU:=@List.eq_nil_of_length_eq_zero
def aV:=@Nat.add_mul
def aW:=@Nat.lt_or_ge
def aX:=@Nat.zero_add
def aY:=@List.mem_of_getElem?
def aZ:=@List.drop_of_length_le
def a7:=@List.pairwise_cons
def a8:=@Option.map_some
def bf:=@Nat.add_assoc
def bg:=@List.append_assoc
def bh:=@Nat.mul_le_mul_right
def bj:=@List.pairwise_iff_getElem
def bk:=@List.length_drop
def bn:=@List.mem_flatMap
def bp:=@List.flatMap_append
def bq:=@Array.getElem?_toList
def br:=@List.mem_append_right
def bt:=@Array.getElem?_setIfInBounds_ne
def bw:=@Bool.false_eq_true
def bx:=@Array.toArray_toList
def bz:=@List.getElem_mem
def bA:=@List.take_append_of_le_length
def bB:=@List.replicate_succ
def bC:=@Array.getElem?_modify
def bE:=@Array.getD_eq_getD_getElem?
def bF:=@List.pairwise_append
def bG:=@List.mem_range
def bH:=@List.getElem?_set
def bI:=@List.ext_getElem?
def bJ:=@List.nil_append
def bK:=@List.take_append_drop
def bL:=@Classical.choose_spec
def bM:=@Nat.succ_mul
def bN:=@List.mem_of_mem_drop
def bO:=@List.getElem?_range
def bP:=@Array.getElem?_append_left
def bQ:=@Array.all_eq_true_iff_forall_mem
def bR:=@List.mem_filterMap
def bS:=@Int.emod_lt_of_pos
def bT:=@Array.getElem?_eq_getElem
def bU:=@List.drop_eq_getElem_cons
def bV:=@List.length_set
def bW:=@Bool.or_eq_true
def bX:=@Nat.pow_le_pow_right
def bY:=@Int.emod_nonneg
def bZ:=@Int.toNat_of_nonneg
def b7:=@List.countP_cons
def b8:=@Nat.zero_mul
def b9:=@Nat.add_zero
def cc:=@List.countP_append
def cd:=@List.foldl_cons
def cg:=@Array.size_append
def cj:=@List.nodup_append
def cm:=@List.set_eq_take_append_cons_drop
def cp:=@List.isEmpty_iff
def cr:=@List.range'_succ
def ct:=@List.cons_append
def cu:=@Array.length_toList
def cv:=@Int.add_assoc
def cw:=@List.length_nil
def cy:=@List.eq_nil_iff_forall_not_mem
def cz:=@List.cons.injEq
def cA:=@Nat.eq_of_beq_eq_true
def cB:=@List.getElem?_toArray
def cD:=@List.map_map
def cE:=@List.contains_iff_mem
def cF:=@List.countP_le_length
def cG:=@List.not_mem_nil
def cH:=@List.flatten_nil
def cI:=@Array.toList_append
def cJ:=@Option.some.inj
def cK:=@Option.isSome_iff_exists
def cL:=@List.mem_cons_self
def cM:=@List.Sublist.append_left
def cN:=@Nat.mul_comm
def cO:=@Int.add_sub_cancel
def cP:=@List.length_filterMap_le
def cQ:=@Int.le_trans
def cS:=@List.drop_drop
def cT:=@List.take_take
def cU:=@Iff.rfl
def cV:=@List.getElem?_replicate
def cW:=@List.size_toArray
def cY:=@List.findIdx?_eq_some_iff_getElem
def cZ:=@Array.getElem?_eq_none
def c6:=@List.sublist_cons_self
def c7:=@List.filter_eq_nil_iff
def c8:=@List.drop_eq_nil_of_le
def c9:=@List.append_eq_nil_iff
def da:=@Int.le_refl
def db:=@List.take_length
def de:=@Array.mem_filter
def dg:=@Ne.symm
def dh:=@Nat.le_of_ble_eq_true
def di:=@Nat.add_comm
def dj:=@List.range_eq_range'
def dm:=@Nat.pow_succ
def dp:=@List.drop_append_of_le_length
def dq:=@Nat.mul_le_mul_left
def dt:=@List.mapM_cons
def du:=@List.take_zero
def dv:=@Nat.eq_zero_or_pos
def dw:=@Bool.false_or
def dx:=@Prod.mk.injEq
def dy:=@List.exists_cons_of_ne_nil
def dz:=@Function.comp_def
def dA:=@Int.toNat_natCast
def dB:=@Array.mapM_eq_mapM_toList
def dC:=@Array.ext'
def dD:=@List.findIdx?_eq_none_iff
def dE:=@List.mem_take_iff_getElem
def dF:=@Nat.mod_eq_of_lt
def dH:=@Nat.mul_le_mul_right_iff
def dJ:=@List.length_erase_of_mem
def dK:=@Array.toList_inj
def dL:=@List.getElem?_cons_succ
def dM:=@Bool.decide_and
def dO:=@List.append_inj
def dQ:=@List.length_pos_of_mem
def dR:=@Array.getElem?_mapIdx
def dS:=@List.singleton_append
def dT:=@Bool.decide_or
def dV:=@List.drop_zero
def dX:=@List.Pairwise.sublist
def dY:=@List.perm_append_comm
def dZ:=@Int.not_lt
def ea:=@Nat.not_lt
def ec:=@List.map_drop
def ef:=@Nat.mul_assoc
def eo:=@Nat.min_zero
inductive D where
 | any
 | val (v:Value)
 | agg (cs:List D)
 | tup (cs:List D)
 | sl (sz:Nat) (es:List (List D))
 | emp
 | et (v g sz off len:Nat)
 | ptr (v g off:Nat)
 | eF (cs:List D)
 | omap (v:Nat)
 | fn (fn:Fn) (first captured:List D)
 | gv (v:Nat)
 deriving Inhabited
abbrev D.i(n:Int):D:=.val (.int .i64 n)
abbrev D.b(x:Bool):D:=.val (.bool x)
abbrev Env:=List (Nat×D)
def Env.get:Env→Nat→D
 | [],_=>.any
 | (k,d)::r,j=>match Nat.beq k j with
  | true=>d
  | false=>Env.get r j
theorem Env.p9(k:Nat)(d:D)(r:Env)(j:Nat):Env.get ((k,d)::r) j=if k=j then d else Env.get r j:=by
 simp only[Env.get]
 by_cases h:k=j
 ·rw[if_pos h,h,Nat.beq_refl]
 ·have:Nat.beq k j=false:=by
   cases hb:Nat.beq k j with
   | false=>rfl
   | true=>exact absurd (cA hb) h
  rw[if_neg h,this]
structure Loc where
 b:Nat
 base:Nat
 top:Nat
 gM:Bool:=false
structure Ctx where
 ι:Nat→Nat→Option Loc
 F:Nat→Prop
 RT:Nat→Option (Nat×Array Tmp×Code×Code)
inductive eu(c:Ctx)(w:World):Value→D→Prop
 | any (v:Value):eu c w v .any
 | val (v:Value):eu c w v (.val v)
 | agg (vs:List Value) (ds:List D) (hl:vs.length=ds.length) (h1:∀ v∈vs,v.oneCell'=true)
   (h:∀ (i:Nat) (v:Value) (d:D),vs[i]? = some v→ds[i]? = some d→eu c w v d):eu c w (.agg vs.toArray) (.agg ds)
 | tup (vs:List Value) (ds:List D) (hl:vs.length=ds.length)
   (h:∀ (i:Nat) (v:Value) (d:D),vs[i]? = some v→ds[i]? = some d→eu c w v d):eu c w (.tuple vs.toArray) (.tup ds)
 | sl (a:Option Addr) (len cap sz:Nat) (es:List (List D)) (g:Nat→Nat→Value)
   (hlen:es.length=len) (ie:len≤cap) (iF:cap≤maxLen) (fL:∀ e∈es,e.length=sz)
   (lL:a=none→cap=0)
   (hc:∀ (i:Nat) (e:List D) (j:Nat) (d:D),es[i]? = some e→e[j]? = some d→∃ b o,a=some ⟨b,o,none⟩∧c.F b∧w.cell? ⟨b,o+(i*sz+j),none⟩=some (g i j)∧(g i j).oneCell'=true)
   (hr:∀ (i:Nat) (e:List D) (j:Nat) (d:D),es[i]? = some e→e[j]? = some d→eu c w (g i j) d):eu c w (.slice a len cap) (.sl sz es)
 | emp:eu c w (.slice none 0 0) .emp
 | et (v k sz off len cap:Nat) (L:Loc) (eC:c.ι v k=some L) (hv:L.gM=false) (ie:len≤cap) (iF:cap≤maxLen)
   (jN:L.base+(off+cap)*sz=L.top):eu c w (.slice (some ⟨L.b,L.base+off*sz,none⟩) len cap) (.et v k sz off len)
 | kd (v k sz off:Nat) (L:Loc) (eC:c.ι v k=some L) (a:Option Addr):eu c w (.slice a 0 0) (.et v k sz off 0)
 | ptr (v k off:Nat) (L:Loc) (eC:c.ι v k=some L) (hv:L.gM=false):eu c w (.pointer (some ⟨L.b,L.base+off,none⟩)) (.ptr v k off)
 | eF (b o:Nat) (cs:List D) (g:Nat→Value) (hF:c.F b)
   (hc:∀ (j:Nat) (d:D),cs[j]? = some d→w.cell? ⟨b,o+j,none⟩=some (g j)∧(g j).oneCell'=true)
   (hr:∀ (j:Nat) (d:D),cs[j]? = some d→eu c w (g j) d):eu c w (.pointer (some ⟨b,o,none⟩)) (.eF cs)
 | omap (v:Nat) (L:Loc) (eC:c.ι v 0=some L) (hv:L.gM=false):eu c w (.map (some L.b)) (.omap v)
 | fn (fn:Fn) (fs cs:List Value) (df dc:List D) (iL:fs.length=df.length) (ig:cs.length=dc.length)
   (h1:∀ (i:Nat) (v:Value) (d:D),fs[i]? = some v→df[i]? = some d→eu c w v d)
   (h2:∀ (i:Nat) (v:Value) (d:D),cs[i]? = some v→dc[i]? = some d→eu c w v d):eu c w (.func fn fs.toArray cs.toArray) (.fn fn df dc)
 | gv (v:Nat) (L:Loc) (eC:c.ι v 0=some L) (hv:L.gM=false):eu c w (.func (.yield L.b) #[] #[]) (.gv v)
inductive KK where
 | int (k:IntKind)
 | str
 | bool
 | ints (l:List IntKind)
 deriving Inhabited,DecidableEq
def LS:List IntKind→List Value→Bool
 | [],[]=>true
 | k::ks,.int k' _::vs=>k == k'&&LS ks vs
 | _,_=>false
def KK.has:KK→Value→Bool
 | .int k,.int k' _=>k == k'
 | .str,.string _=>true
 | .bool,.bool _=>true
 | .ints l,.agg cs=>LS l cs.toList
 | _,_=>false
inductive nP where
 | ready|busy|tm|r9 (id:Nat)
 deriving Inhabited,DecidableEq
inductive Ob where
 | row (t:TypeId) (g:Nat) (cs:List D)
 | map (kk:KK) (es:List (Value×D))
 | fy (rf:Nat) (env:Env) (st:nP)
 | nM (s:ByteArray) (pos:Nat)
 | jD (m:D) (since:Nat) (seen:List Nat)
 | jv
 | dead
 | hole
 deriving Inhabited
def Ob.alive:Ob→Bool
 | .dead | .hole=>false
 | _=>true
def Ob.gen:Ob→Nat
 | .row _ g _=>g
 | _=>0
abbrev U:=List Ob
def jc(c:Ctx)(H:U)(v:Nat)(L:Loc):Prop:=∃ o,H[v]? = some o∧o.alive=true∧c.ι v o.gen=some L
def ju(c:Ctx)(H:U)(b:Nat):Prop:=∃ v L,jc c H v L∧L.gM=false∧L.b=b
def w8(c:Ctx)(w:World)(arr:Array MapEntry)(clock:Nat)(es:List (Value×D)):Prop:=
 arr.size=es.length∧(∀ (i:Nat) (e:MapEntry) (x:Value×D),arr[i]? = some e→es[i]? = some x→e.key=x.1∧eu c w e.val x.2∧e.born=i)∧clock=es.length
def nP.is:nP→Loop→Prop
 | .ready,r=>r.state = .ready∧r.pending=none
 | .busy,r=>r.state = .busy
 | .tm,r=>r.state = .done∧r.pending=some .ret
 | .r9 id,r=>r.state = .done∧r.pending=some (.exit id)
def fo(c:Ctx)(w:World):Option Loc→Ob→Prop
 | _,.dead=>True
 | L,.hole=>L=none
 | none,_=>False
 | some L,.row t _ cs=>if L.gM then cs = []else
   ∃ arr:Array Value,w.heap[L.b]? = some (.cells arr t (0,0))∧L.top=arr.size∧L.base+cs.length≤L.top ∧
    ∀ (i:Nat) (d:D),cs[i]? = some d→∃ v,arr[L.base+i]? = some v∧v.oneCell'=true∧eu c w v d
 | some L,.map kk es=>L.gM=false∧(∀ x∈es,kk.has x.1=true)∧∃ arr clock,w.heap[L.b]? = some (.map arr clock)∧w8 c w arr clock es
 | some L,.fy rf env st=>L.gM=false∧∃ r:Loop,w.heap[L.b]? = some (.loop r)∧(∀ k,eu c w (r.tmps.getD k undef) (env.get k)) ∧
   (∃ N,c.RT rf=some (N,r.params,r.assign,r.body)∧N≤r.tmps.size)∧st.is r
 | some L,.nM s p=>L.gM=false∧L.base=0∧w.heap[L.b]? = some (.stringIter s p)
 | some L,.jD m since seen=>L.gM=false∧L.base=0∧∃ bm:Nat,eu c w (.map (some bm)) m∧w.heap[L.b]? = some (.mapIter (some bm) since seen.toArray since)
 | some L,.jv=>L.gM=true∨w.heap[L.b]? = some (.deferred (some []))
structure HeapOK(c:Ctx)(H:U)(w:World):Prop where
 inj:∀ v v' L L',jc c H v L→jc c H v' L'→L.gM=false→L'.gM=false→L.b=L'.b→v=v'
 lt:∀ b,ju c H b→b<w.heap.size
 nF:∀ b,ju c H b→¬ c.F b
 iz:∀ b,c.F b→b<w.heap.size
 out:∀ v k,H.length≤v→c.ι v k=none
 jx:∀ v o k,H[v]? = some o→(o = .hole∨(o.alive=true∧o.gen<k))→c.ι v k=none
 ob:∀ (v:Nat) (o:Ob),H[v]? = some o→fo c w (c.ι v o.gen) o
structure Step(n:Nat)(c:Ctx)(H:U)(w:World)(c':Ctx)(H':U)(w':World):Prop where
 os:w'.os=w.os∧w.drawn≤w'.drawn
 tape:w'.tape=w.tape
 output:w'.output=w.output
 size:w.heap.size≤w'.heap.size
 RT:c'.RT=c.RT
 Fm:∀ b,c.F b→c'.F b
 Fn:∀ b,c'.F b→c.F b∨w.heap.size≤b∨ju c H b
 kept:∀ b,b<w.heap.size→¬ ju c H b→w'.heap[b]? = w.heap[b]?
 old:∀ v k L,v<n→c.ι v k=some L→c'.ι v k=some L
 own:∀ b,ju c' H' b→w.heap.size≤b∨ju c H b
theorem Step.refl(n:Nat)(c:Ctx)(H:U)(w:World):Step n c H w c H w:=
 ⟨⟨rfl,Nat.le_refl _⟩,rfl,rfl,Nat.le_refl _,rfl,fun _ h=>h,fun _ h=>.inl h,fun _ _ _=>rfl,fun _ _ _ _ h=>h,fun _ h=>.inr h⟩
theorem Step.trans{n m:Nat}{c c1 c2:Ctx}{H H1 H2:U}{w w1 w2:World}(h1:Step n c H w c1 H1 w1)(h2:Step m c1 H1 w1 c2 H2 w2)(hm:n≤m) :
  Step n c H w c2 H2 w2 where
 os:=⟨h2.os.1.trans h1.os.1,Nat.le_trans h1.os.2 h2.os.2⟩
 tape:=h2.tape.trans h1.tape
 output:=h2.output.trans h1.output
 size:=Nat.le_trans h1.size h2.size
 RT:=h2.RT.trans h1.RT
 Fm b h:=h2.Fm b (h1.Fm b h)
 Fn b h:=by
  rcases h2.Fn b h with h|h|h
  ·exact h1.Fn b h
  ·exact .inr (.inl (Nat.le_trans h1.size h))
  ·rcases h1.own b h with h|h
   ·exact .inr (.inl h)
   ·exact .inr (.inr h)
 kept b hb hn:=by
  rw[h2.kept b (aH hb h1.size) (fun ho=>?_),h1.kept b hb hn]
  rcases h1.own b ho with h|h
  ·omega
  ·exact hn h
 old v k L hv h:=h2.old v k L (by omega) (h1.old v k L hv h)
 own b h:=by
  rcases h2.own b h with h|h
  ·exact .inl (Nat.le_trans h1.size h)
  ·exact h1.own b h
theorem Step.weaken{n m:Nat}{c c':Ctx}{H H':U}{w w':World}(h:Step n c H w c' H' w')(hm:m≤n):Step m c H w c' H' w':=
 { h with old:=fun v k L hv=>h.old v k L (by omega) }
theorem xp{w w':World}{a:Addr}(h:w'.heap[a.block]? = w.heap[a.block]?):w'.cell? a=w.cell? a:=by simp[World.cell?,h]
theorem eu.carry{c c':Ctx}{w w':World}(eC:∀ v k L,c.ι v k=some L→c'.ι v k=some L)(hF:∀ b,c.F b→c'.F b)
  (vD:∀ b o,c.F b→w'.cell? ⟨b,o,none⟩=w.cell? ⟨b,o,none⟩) {v:Value} {d:D} (h:eu c w v d):eu c' w' v d:=by
 induction h with
 | any v=>exact .any _
 | val v=>exact .val _
 | agg vs ds hl h1 h ih=>exact .agg vs _ hl h1 ih
 | tup vs ds hl h ih=>exact .tup vs _ hl ih
 | sl a len cap sz es g hlen ie iF fL lL hc hr ih=>
  refine .sl a len cap sz _ g hlen ie iF fL lL ?_ ih
  intro i e j d he hd
  obtain⟨b,o,ha,nV,tM,h1⟩:=hc i e j d he hd
  exact⟨b,o,ha,hF b nV,by rw[vD b _ nV];exact tM,h1⟩
 | emp=>exact .emp
 | et v k sz off len cap L h hv ie iF jN=>exact .et v k sz off len cap L (eC _ _ _ h) hv ie iF jN
 | kd v k sz off L h a=>exact .kd v k sz off L (eC _ _ _ h) a
 | ptr v k off L h hv=>exact .ptr v k off L (eC _ _ _ h) hv
 | eF b o cs g nV hc hr ih=>
  refine .eF b o _ g (hF b nV) ?_ ih
  intro j d hd
  rw[vD b _ nV]
  exact hc j d hd
 | omap v L h hv=>exact .omap v L (eC _ _ _ h) hv
 | fn f fs cs df dc iL ig h1 h2 ng oe=>exact .fn f fs cs _ _ iL ig ng oe
 | gv v L h hv=>exact .gv v L (eC _ _ _ h) hv
theorem eu.step{n:Nat}{c c':Ctx}{H H':U}{w w':World}(hH:HeapOK c H w)(hs:Step n c H w c' H' w')(hn:H.length≤n){v:Value}{d:D}(h:eu c w v d) :
  eu c' w' v d:=by
 refine h.carry (fun v k L hL=>hs.old v k L ?_ hL) hs.Fm (fun b o hF=>xp (hs.kept b (hH.iz b hF) (fun ho=>hH.nF b ho hF)))
 rcases aW v H.length with h|h
 ·omega
 ·rw[hH.out v k h]at hL;cases hL
theorem eu.mr{c c':Ctx}{H H':U}{w w':World}(hH:HeapOK c H w)(hs:Step H.length c H w c' H' w'){v:Value}{d:D}(h:eu c w v d):eu c' w' v d:=
 h.step hH hs (Nat.le_refl _)
inductive X where
 | t (k:Nat)
 | c (d:D)
 deriving Inhabited
abbrev e9:=Nat→D
def ev(env:e9):X→D
 | .t k=>env k
 | .c d=>d
def cellsOf:D→Option (List D)
 | .agg cs=>some cs
 | .any | .tup _=>none
 | .val v=>if v.oneCell' then some [.val v]else none
 | d=>some [d]
def one:D→Bool
 | .any | .tup _ | .agg _=>false
 | .val v=>v.oneCell'
 | _=>true
mutual
def closed:D→Bool
 | .any | .val _ | .emp=>true
 | .agg cs | .tup cs | .eF cs=>eT cs
 | .sl _ es=>vg es
 | .et .. | .ptr .. | .omap _ | .gv _=>false
 | .fn _ a b=>eT a&&eT b
def eT:List D→Bool
 | []=>true
 | d::ds=>closed d&&eT ds
def vg:List (List D)→Bool
 | []=>true
 | e::es=>eT e&&vg es
end
def oh:Value→Value→Bool
 | .int k a,.int k' b=>k == k'&&a == b
 | .string a,.string b=>a == b
 | .bool a,.bool b=>a == b
 | .agg a,.agg b=>a.size == b.size&&(a.toList.zip b.toList).all fun(x,y)=>match x,y with
  | .int k a,.int k' b=>k == k'&&a == b
  | _,_=>false
 | _,_=>false
def yG:List D→Option (List Value)
 | []=>some []
 | .val (.int k n)::r=>(yG r).map (.int k n :: ·)
 | _::_=>none
def keyOf:D→Option Value
 | .val (.int k n)=>some (.int k n)
 | .val (.string s)=>some (.string s)
 | .val (.bool b)=>some (.bool b)
 | .agg cs=>(yG cs).map fun l=>.agg l.toArray
 | _=>none
def mq:List (Value×D)→Value→Option D
 | [],_=>none
 | (k,d)::r,j=>if oh j k then some d else mq r j
def kG:List (Value×D)→Value→D→List (Value×D)
 | [],j,x=>[(j,x)]
 | (k,d)::r,j,x=>if oh j k then(j,x)::r else(k,d)::kG r j x
inductive lB where
 | int|bool|str
 deriving Inhabited,DecidableEq
inductive s7 where
 | slice|string|map
 deriving Inhabited,DecidableEq
inductive fR where
 | mv (x:X)
 | pick (c a b:X)
 | box (t:TypeId) (x:X)
 | alloc (t:TypeId) (z:List D)
 | build (z:List D) (ps:List (Nat×Nat×X))
 | buildSl (t sz:Nat) (z:List D) (n:Nat) (ps:List (Nat×X))
 | ld1 (x:X)
 | ldN (n:Nat) (x:X)
 | st1 (a x:X)
 | stN (n:Nat) (a x:X)
 | nilck (x:X)
 | arith (op:BinOp) (x y:X)
 | eqS (gK:Bool) (ls:List lB) (neg:Bool) (x y:X)
 | un (op:UnOp) (x:X)
 | conv (k:IntKind) (x:X)
 | b2s (x:X)
 | mkfn (fn:Fn) (first captured:List X)
 | mkmap (kk:KK)
 | mksl (t sz bytes:Nat) (z:List D) (l c:X)
 | slc (sz:Nat) (x:X) (lo hi:Option X)
 | slcS (x:X) (lo hi:Option X)
 | fieldA (off:Nat) (x:X)
 | field (off n:Nat) (gK:Bool) (x:X)
 | idxA (sz:Nat) (x i:X)
 | idxArr (sz n:Nat) (x i:X)
 | idx (sz n:Nat) (gK:Bool) (x i:X)
 | idxStr (x i:X)
 | lookup (kk:KK) (z:D) (ok:Bool) (m k:X)
 | mapUpd (kk:KK) (m k v:X)
 | ext (x:X) (i:Nat)
 | call (f:FuncId) (args:List X)
 | callN (f:FuncId) (args:List X)
 | callv (f:X) (args:List X)
 | app (t sz bytes:Nat) (x y:X)
 | copy (sz:Nat) (x y:X)
 | len (k:s7) (x:X)
 | minmax (isMax:Bool) (xs:List X)
 | nilS (neg:Bool) (x:X)
 | capE (x:X)
 | appZ (t sz bytes:Nat) (z:List D) (x n:X)
 | clr (sz:Nat) (z:List D) (x:X)
 | rangeS (x:X)
 | nextS (x:X)
 | rangeM (x:X)
 | nextM (x:X)
 | entry (x:X)
 deriving Inhabited
structure eV where
 dst:Option Nat
 op:fR
 guard:Option (Nat×Bool):=none
 deriving Inhabited
structure GT where
 g:Nat→Option (List D)
 rt:Nat→Option (Nat×Array Tmp×Code×Code)
 nw:FuncId→Bool:=fun _=>false
instance:CoeFun GT (fun _=>Nat→Option (List D)):=⟨GT.g⟩
inductive gD(c:Ctx)(w:World):List Value→List D→Prop
 | nil:gD c w [] []
 | cons {v d vs ds} (h:eu c w v d) (t:gD c w vs ds):gD c w (v::vs) (d::ds)
structure eN(G:GT)(c:Ctx)(H:U)(w:World):Prop extends HeapOK c H w where
 gl:∀ (g:Nat) (cs:List D),G g=some cs→eT cs=true∧eu c w (.pointer (some ⟨g,0,none⟩)) (.eF cs)
 rt:c.RT=G.rt
abbrev gN:=D→U→Prop
abbrev Al:=Nat×(Ob→U)
def Al.last(H:U):Al:=(H.length,fun ob=>H ++ [ob])
def Al.hole(H:U)(v:Nat):Al:=(v,fun ob=>H.set v ob)
def kE(n:Int):Prop := -9223372036854775808≤n∧n≤9223372036854775807
def xe(op:BinOp)(k:IntKind)(a b:Int)(H:U)(K:gN):Prop:=
 match op with
 | .add=>if k = .i64 then kE (a+b)∧K (.val (.int .i64 (a+b))) H else K (.val (.int k (k.wrap (a+b)))) H
 | .sub=>if k = .i64 then kE (a-b)∧K (.val (.int .i64 (a-b))) H else K (.val (.int k (k.wrap (a-b)))) H
 | .mul=>if k = .i64 then kE (a*b)∧K (.val (.int .i64 (a*b))) H else K (.val (.int k (k.wrap (a*b)))) H
 | .quo=>b≠0∧K (.val (.int k (k.wrap (a.tdiv b)))) H
 | .rem=>b≠0∧K (.val (.int k (a.tmod b))) H
 | .and | .or | .xor | .andNot=>K (.val (.int k (bits op k a b))) H
 | .eql=>K (.val (.bool (a == b))) H
 | .neq=>K (.val (.bool (a != b))) H
 | .lss=>K (.val (.bool (decide (a<b)))) H
 | .leq=>K (.val (.bool (decide (a≤b)))) H
 | .gtr=>K (.val (.bool (decide (a>b)))) H
 | .geq=>K (.val (.bool (decide (a≥b)))) H
 | _=>False
def zz(op:BinOp)(k:IntKind)(a b:Int)(H:U)(K:gN):Prop:=
 match op with
 | .shl=>0≤b∧K (.val (.int k (k.wrap (a*2 ^ (min b.toNat k.bits))))) H
 | .shr=>0≤b∧K (.val (.int k (a.fdiv (2 ^ (min b.toNat k.bits))))) H
 | _=>False
def ml:BinOp→Bool
 | .shl | .shr=>true
 | _=>false
def EC(op:BinOp)(a b:ByteArray)(H:U)(K:gN):Prop:=
 match op with
 | .eql=>K (.val (.bool (a.data.toList == b.data.toList))) H
 | .neq=>K (.val (.bool (!(a.data.toList == b.data.toList)))) H
 | .add=>((a.size+b.size:Nat):Int)≤9223372036854775807∧K (.val (.string (a++b))) H
 | _=>False
def xi(op:BinOp)(x y:D)(H:U)(K:gN):Prop:=
 match x,y with
 | .val (.int k a),.val (.int k' b)=>if ml op then zz op k a b H K else k=k'∧xe op k a b H K
 | .val (.string a),.val (.string b)=>EC op a b H K
 | _,_=>False
def zN(op:UnOp)(x:D)(H:U)(K:gN):Prop:=
 match op,x with
 | .not,.val (.bool b)=>K (.val (.bool (!b))) H
 | .neg,.val (.int .i64 n)=>kE (-n)∧K (.val (.int .i64 (-n))) H
 | .xor,.val (.int k n)=>K (.val (.int k (bits .xor k (if k.signed then -1 else k.max) n))) H
 | _,_=>False
def o5:lB→D→D→Option Bool
 | .int,.val (.int k a),.val (.int k' b)=>if k=k' then some (a == b)else none
 | .bool,.val (.bool a),.val (.bool b)=>some (a == b)
 | .str,.val (.string a),.val (.string b)=>some (a.data.toList == b.data.toList)
 | _,_,_=>none
def lh:List lB→List D→List D→Option Bool
 | [],[],[]=>some true
 | l::ls,x::xs,y::ys=>match o5 l x y,lh ls xs ys with
  | some a,some b=>some (a&&b)
  | _,_=>none
 | _,_,_=>none
def se(gK:Bool)(ls:List lB)(neg:Bool)(x y:D)(H:U)(K:gN):Prop:=
 match gK,x,y with
 | true,.agg a,.agg b=>match lh ls a b with
  | some r=>K (.val (.bool (if neg then !r else r))) H
  | none=>False
 | false,x,y=>match lh ls [x] [y]with
  | some r=>K (.val (.bool (if neg then !r else r))) H
  | none=>False
 | _,_,_=>False
def y7(c a b:D)(H:U)(K:gN):Prop:=
 match c with
 | .val (.bool x)=>K (if x then a else b) H
 | _=>False
def rowAt(H:U)(v k:Nat):Option (TypeId×List D):=match H[v]? with
 | some (.row t g cs)=>if g=k then some (t,cs)else none
 | _=>none
def yH(x:D)(H:U)(K:gN):Prop:=
 match x with
 | .ptr v g o=>match rowAt H v g with
  | some (_,cs)=>match cs[o]? with
   | some d=>K d H
   | none=>False
  | none=>False
 | .eF cs=>match cs[0]? with
  | some d=>K d H
  | none=>False
 | _=>False
def yI(n:Nat)(x:D)(H:U)(K:gN):Prop:=
 match x with
 | .ptr v g o=>match rowAt H v g with
  | some (_,cs)=>o+n≤cs.length∧K (.agg ((cs.drop o).take n)) H
  | none=>False
 | .eF cs=>n≤cs.length∧K (.agg (cs.take n)) H
 | _=>False
def zC(a x:D)(H:U)(K:gN):Prop:=
 match a with
 | .ptr v g o=>match rowAt H v g with
  | some (t,cs)=>o<cs.length∧one x=true∧K .any (H.set v (.row t g (cs.set o x)))
  | none=>False
 | _=>False
def zD(n:Nat)(a x:D)(H:U)(K:gN):Prop:=
 match a,cellsOf x with
 | .ptr v g o,some xs=>match rowAt H v g with
  | some (t,cs)=>xs.length=n∧o+n≤cs.length∧K .any (H.set v (.row t g (cs.take o++xs++cs.drop (o+n))))
  | none=>False
 | _,_=>False
def xj(t:TypeId)(x:D)(al:Al)(K:gN):Prop:=
 match cellsOf x with
 | some cs=>K (.ptr al.1 0 0) (al.2 (.row t 0 cs))
 | none=>False
def lay:List (Nat×Nat×List D)→List D→Option (List D)
 | [],cs=>some cs
 | (o,n,xs)::r,cs=>if xs.length=n∧o+n≤cs.length then lay r (cs.take o++xs++cs.drop (o+n))else none
def partsOf(env:e9):List (Nat×Nat×X)→Option (List (Nat×Nat×List D))
 | []=>some []
 | (o,n,x)::r=>match cellsOf (ev env x),partsOf env r with
  | some cs,some l=>some ((o,n,cs)::l)
  | _,_=>none
def tc(env:e9)(z:List D)(ps:List (Nat×Nat×X))(H:U)(K:gN):Prop:=
 match partsOf env ps with
 | some l=>match lay l z with
  | some cs=>K (.agg cs) H
  | none=>False
 | none=>False
def xk(env:e9)(t sz:Nat)(z:List D)(n:Nat)(ps:List (Nat×X))(al:Al)(K:gN):Prop:=
 match partsOf env (ps.map fun p=>(p.1*sz,sz,p.2))with
 | some l=>match lay l (List.replicate n z).flatten with
  | some cs=>K (.et al.1 0 sz 0 n) (al.2 (.row t 0 cs))
  | none=>False
 | none=>False
def xJ(off:Nat)(x:D)(H:U)(K:gN):Prop:=
 match x with
 | .ptr v g o=>K (.ptr v g (o+off)) H
 | .eF cs=>K (.eF (cs.drop off)) H
 | _=>False
def tB(off n:Nat)(gK:Bool)(x:D)(H:U)(K:gN):Prop:=
 match x with
 | .agg cs=>if gK then off+n≤cs.length∧K (.agg ((cs.drop off).take n)) H else match cs[off]? with
  | some d=>K d H
  | none=>False
 | _=>False
def yz(sz:Nat)(x i:D)(H:U)(K:gN):Prop:=
 match x,i with
 | .sl fh es,.val (.int _ n)=>fh=sz∧(0≤n∧n<es.length)∧K (.eF (es.getD n.toNat [])) H
 | .et v g fh off len,.val (.int _ n)=>fh=sz∧(0≤n∧n<len)∧K (.ptr v g ((off+n.toNat)*sz)) H
 | _,_=>False
def yA(sz n:Nat)(x i:D)(H:U)(K:gN):Prop:=
 match x,i with
 | .ptr v g o,.val (.int _ k)=>(0≤k∧k<n)∧K (.ptr v g (o+k.toNat*sz)) H
 | .eF cs,.val (.int _ k)=>(0≤k∧k<n)∧K (.eF (cs.drop (k.toNat*sz))) H
 | _,_=>False
def yC(sz n:Nat)(gK:Bool)(x i:D)(H:U)(K:gN):Prop:=
 match x,i with
 | .agg cs,.val (.int _ k)=>(0≤k∧k<n)∧tB (k.toNat*sz) sz gK (.agg cs) H K
 | _,_=>False
def yD(x i:D)(H:U)(K:gN):Prop:=
 match x,i with
 | .val (.string s),.val (.int _ k)=>(0≤k∧k<s.size)∧K (.val (.int .u8 ((s.data.toList.getD k.toNat 0).toNat))) H
 | _,_=>False
def kc(H:U)(v:Nat):Option (KK×List (Value×D)):=match H[v]? with
 | some (.map kk es)=>some (kk,es)
 | _=>none
def yL(nJ:KK)(z:D)(ok:Bool)(m k:D)(H:U)(K:gN):Prop:=
 match m,keyOf k with
 | .omap v,some kv=>match kc H v with
  | some (kk,es)=>kk=nJ∧kk.has kv=true∧(match mq es kv with
    | some d=>K (if ok then .tup [d,.val (.bool true)]else d) H
    | none=>K (if ok then .tup [z,.val (.bool false)]else z) H)
  | none=>False
 | _,_=>False
def yO(nJ:KK)(m k x:D)(H:U)(K:gN):Prop:=
 match m,keyOf k with
 | .omap v,some kv=>match kc H v with
  | some (kk,es)=>kk=nJ∧kk.has kv=true∧K .any (H.set v (.map kk (kG es kv x)))
  | none=>False
 | _,_=>False
def xI(x:D)(i:Nat)(H:U)(K:gN):Prop:=
 match x with
 | .tup ds=>match ds[i]? with
  | some d=>K d H
  | none=>False
 | _=>False
def yT(t sz bytes:Nat)(z:List D)(l c:D)(al:Al)(K:gN):Prop:=
 match l,c with
 | .val (.int _ n),.val (.int _ m)=>(0≤n∧n≤m∧m≤9223372036854775807∧(bytes:Int)*m≤281474976710656)∧K (.et al.1 0 sz 0 n.toNat) (al.2 (.row t 0 (List.replicate m.toNat z).flatten))
 | _,_=>False
def gE(env:e9):Option X→Int→Option Int
 | none,n=>some n
 | some x,_=>match ev env x with
  | .val (.int _ n)=>some n
  | _=>none
def zA(env:e9)(sz:Nat)(x:D)(lo hi:Option X)(H:U)(K:gN):Prop:=
 match x with
 | .sl fh es=>match gE env lo 0,gE env hi es.length with
  | some l,some h=>fh=sz∧(0≤l∧l≤h∧h≤es.length)∧K (.sl sz ((es.drop l.toNat).take (h.toNat-l.toNat))) H
  | _,_=>False
 | .et v g fh off len=>match gE env lo 0,gE env hi len with
  | some l,some h=>fh=sz∧(0≤l∧l≤h∧h≤len)∧K (.et v g sz (off+l.toNat) (h.toNat-l.toNat)) H
  | _,_=>False
 | .emp=>match gE env lo 0,gE env hi 0 with
  | some l,some h=>(l=0∧h=0)∧K .emp H
  | _,_=>False
 | _=>False
def wz(env:e9)(x:D)(lo hi:Option X)(H:U)(K:gN):Prop:=
 match x with
 | .val (.string s)=>match gE env lo 0,gE env hi s.size with
  | some l,some h=>(0≤l∧l≤h∧h≤s.size)∧K (.val (.string (s.extract l.toNat h.toNat))) H
  | _,_=>False
 | _=>False
def jt(sz:Nat)(H:U):D→Option (List D×Nat)
 | .sl fh es=>if fh=sz then some (es.flatten,es.length)else none
 | .emp=>some ([],0)
 | .et v g fh off len=>match rowAt H v g with
  | some (_,cs)=>if fh=sz∧(off+len)*sz≤cs.length then some ((cs.drop (off*sz)).take (len*sz),len)else none
  | none=>none
 | _=>none
def xd(t sz bytes:Nat)(x y:D)(H:U)(al:Al)(K:gN):Prop:=
 match jt sz H y with
 | some (ys,n)=>match x with
  | .et v g fh off len=>match rowAt H v g with
   | some (t',cs)=>(fh=sz∧t'=t∧(off+len)*sz≤cs.length∧(len+n)*bytes≤140737488355328∧len+n≤9223372036854775807) ∧
     K (.et v (g+1) sz 0 (len+n)) (H.set v (.row t (g+1) ((cs.drop (off*sz)).take (len*sz)++ys)))
   | none=>False
  | .emp=>if n=0 then K .emp H else(n*bytes≤140737488355328∧n≤9223372036854775807)∧K (.et al.1 0 sz 0 n) (al.2 (.row t 0 ys))
  | _=>False
 | none=>False
def xC(sz:Nat)(x y:D)(H:U)(K:gN):Prop:=
 match x,jt sz H y with
 | .et v g fh off len,some (ys,n)=>match rowAt H v g with
  | some (t,cs)=>(fh=sz∧(off+len)*sz≤cs.length) ∧
    K (.val (.int .i64 (min n len:Nat))) (H.set v (.row t g (cs.take (off*sz)++ys.take (min n len*sz)++cs.drop (off*sz+min n len*sz))))
  | none=>False
 | .emp,some _=>K (.val (.int .i64 0)) H
 | _,_=>False
def yJ(k:s7)(x:D)(H:U)(K:gN):Prop:=
 match k,x with
 | .slice,.sl _ es=>K (.val (.int .i64 es.length)) H
 | .slice,.emp=>K (.val (.int .i64 0)) H
 | .slice,.et _ _ _ _ len=>K (.val (.int .i64 len)) H
 | .string,.val (.string s)=>K (.val (.int .i64 s.size)) H
 | .map,.omap v=>match kc H v with
  | some (_,es)=>K (.val (.int .i64 es.length)) H
  | none=>False
 | _,_=>False
def mK(env:e9):List X→Option (List Int)
 | []=>some []
 | x::r=>match ev env x,mK env r with
  | .val (.int .i64 n),some l=>some (n::l)
  | _,_=>none
def yS(env:e9)(isMax:Bool)(xs:List X)(H:U)(K:gN):Prop:=
 match mK env xs with
 | some [a,b]=>K (.val (.int .i64 (if isMax then max a b else min a b))) H
 | some [a,b,c]=>K (.val (.int .i64 (if isMax then max (max a b) c else min (min a b) c))) H
 | _=>False
def yW(x:D)(H:U)(K:gN):Prop:=
 match x with
 | .ptr v g o=>K (.ptr v g o) H
 | .eF cs=>K (.eF cs) H
 | .fn (.func f) a b=>K (.fn (.func f) a b) H
 | .gv v=>K (.gv v) H
 | _=>False
def xy(k:IntKind)(x:D)(H:U)(K:gN):Prop:=
 match x with
 | .val (.int _ n)=>K (.val (.int k (k.wrap n))) H
 | _=>False
def bytesOf:List D→Option (List Int)
 | []=>some []
 | .val (.int .u8 n)::r=>match bytesOf r with
  | some l=>some (n::l)
  | none=>none
 | _=>none
def xg(x:D)(H:U)(K:gN):Prop:=
 match jt 1 H x with
 | some (ys,_)=>match bytesOf ys with
  | some ns=>K (.val (.string (ns.foldl (fun r n=>r.push (UInt8.ofNat n.toNat)) ByteArray.empty))) H
  | none=>False
 | none=>False
def xc(env:e9)(H:U)(al:Al)(K:gN):fR→Prop
 | .mv x=>K (ev env x) H
 | .pick c a b=>y7 (ev env c) (ev env a) (ev env b) H K
 | .box t x=>xj t (ev env x) al K
 | .alloc t z=>K (.ptr al.1 0 0) (al.2 (.row t 0 z))
 | .build z ps=>tc env z ps H K
 | .buildSl t sz z n ps=>xk env t sz z n ps al K
 | .ld1 x=>yH (ev env x) H K
 | .ldN n x=>yI n (ev env x) H K
 | .st1 a x=>zC (ev env a) (ev env x) H K
 | .stN n a x=>zD n (ev env a) (ev env x) H K
 | .nilck x=>yW (ev env x) H K
 | .arith op x y=>xi op (ev env x) (ev env y) H K
 | .eqS gK ls neg x y=>se gK ls neg (ev env x) (ev env y) H K
 | .un op x=>zN op (ev env x) H K
 | .conv k x=>xy k (ev env x) H K
 | .b2s x=>xg (ev env x) H K
 | .mkfn f first cap=>K (.fn f (first.map (ev env)) (cap.map (ev env))) H
 | .mkmap kk=>K (.omap al.1) (al.2 (.map kk []))
 | .mksl t sz bytes z l c=>yT t sz bytes z (ev env l) (ev env c) al K
 | .slc sz x lo hi=>zA env sz (ev env x) lo hi H K
 | .slcS x lo hi=>wz env (ev env x) lo hi H K
 | .fieldA off x=>xJ off (ev env x) H K
 | .field off n gK x=>tB off n gK (ev env x) H K
 | .idxA sz x i=>yz sz (ev env x) (ev env i) H K
 | .idxArr sz n x i=>yA sz n (ev env x) (ev env i) H K
 | .idx sz n gK x i=>yC sz n gK (ev env x) (ev env i) H K
 | .idxStr x i=>yD (ev env x) (ev env i) H K
 | .lookup kk z ok m k=>yL kk z ok (ev env m) (ev env k) H K
 | .mapUpd kk m k x=>yO kk (ev env m) (ev env k) (ev env x) H K
 | .ext x i=>xI (ev env x) i H K
 | .call _ _ | .callN _ _ | .callv _ _=>False
 | .app t sz bytes x y=>xd t sz bytes (ev env x) (ev env y) H al K
 | .copy sz x y=>xC sz (ev env x) (ev env y) H K
 | .len k x=>yJ k (ev env x) H K
 | .minmax isMax xs=>yS env isMax xs H K
 | .nilS .. | .capE .. | .appZ .. | .clr .. | .rangeS .. | .nextS .. | .rangeM .. | .nextM .. | .entry .. => False
def put(env:Env)(dst:Option Nat)(d:D):Env:=match dst with
 | some k=>(k,d)::env
 | none=>env
def Ctx.set(c:Ctx)(v k:Nat)(L:Loc):Ctx:={ c with ι:=fun u l=>if u=v∧l=k then some L else c.ι u l }
theorem Ctx.oB(c:Ctx)(v k:Nat)(L:Loc):(c.set v k L).ι v k=some L:=by simp[Ctx.set]
theorem Ctx.pH(c:Ctx){v k u l:Nat}(L:Loc)(h:¬ (u=v∧l=k)):(c.set v k L).ι u l=c.ι u l:=by simp only[Ctx.set];rw[if_neg h]
structure qI(H:U)(v:Nat)(ob:Ob)(H':U):Prop where
 get:∀ u,H'[u]? = if u=v then some ob else H[u]?
 free:H.length≤v∨H[v]? = some .hole
 len:H.length≤H'.length
theorem qI.last(H:U)(ob:Ob):qI H H.length ob (H ++ [ob]) where
 get u:=by
  split
  ·rename_i h;subst h;simp
  ·rename_i h
   rcases aW u H.length with h1|h1
   ·rw[ag h1]
   ·rw[aK (by simp;omega),aK h1]
 free:=.inl (Nat.le_refl _)
 len:=by simp
theorem qI.hole{H:U}{v:Nat}(h:H[v]? = some .hole)(ob:Ob):qI H v ob (H.set v ob) where
 get u:=by
  have:=(af.1 h).1
  rw[bH]
  split
  ·rename_i e;subst e;simp[this]
  ·rename_i e;rw[if_neg (dg e)]
 free:=.inr h
 len:=by simp
def jS(H:U)(al:Al):Prop:=∀ ob,qI H al.1 ob (al.2 ob)
theorem jS.last(H:U):jS H (Al.last H):=fun ob=>qI.last H ob
theorem jS.hole{H:U}{v:Nat}(h:H[v]? = some .hole):jS H (Al.hole H v):=fun ob=>qI.hole h ob
structure ia(w w':World):Prop where
 os:w'.os=w.os∧w.drawn≤w'.drawn
 tape:w'.tape=w.tape
 output:w'.output=w.output
 size:w.heap.size≤w'.heap.size
 kept:∀ b,b<w.heap.size→w'.heap[b]? = w.heap[b]?
theorem ia.refl(w:World):ia w w:=⟨⟨rfl,Nat.le_refl _⟩,rfl,rfl,Nat.le_refl _,fun _ _=>rfl⟩
theorem ia.alloc(w:World)(o:Obj):ia w (w.alloc o):=
 ⟨⟨rfl,Nat.le_refl _⟩,rfl,rfl,by simp,fun b h=>by simp only[World.alloc,Array.getElem?_push];rw[if_neg (by omega)]⟩
theorem ia.trans{a b c:World}(h:ia a b)(k:ia b c):ia a c:=
 ⟨⟨k.os.1.trans h.os.1,Nat.le_trans h.os.2 k.os.2⟩,k.tape.trans h.tape,k.output.trans h.output,Nat.le_trans h.size k.size,fun i hi=>(k.kept i (aH hi h.size)).trans (h.kept i hi)⟩
theorem ia.drew(w:World):ia w w.drew:=⟨⟨rfl,Nat.le_succ _⟩,rfl,rfl,Nat.le_refl _,fun _ _=>rfl⟩
theorem wD(n:Nat){c:Ctx}{H:U}{w w':World}(hg:ia w w'):Step n c H w c H w':=
 ⟨hg.os,hg.tape,hg.output,hg.size,rfl,fun _ h=>h,fun _ h=>.inl h,fun b hb _=>hg.kept b hb,fun _ _ _ _ h=>h,fun _ h=>.inr h⟩
theorem w8.mono{c c':Ctx}{w w':World}(hr:∀ v d,eu c w v d→eu c' w' v d){arr:Array MapEntry}{clock:Nat}{es:List (Value×D)}(h:w8 c w arr clock es):w8 c' w' arr clock es:=
 ⟨h.1,fun i e x he hx=>let ⟨a,b,d⟩:=h.2.1 i e x he hx;⟨a,hr _ _ b,d⟩,h.2.2⟩
theorem fo.nh{c c':Ctx}{w w':World}(pc:c'.RT=c.RT)(hr:∀ v d,eu c w v d→eu c' w' v d){L:Option Loc}{o:Ob}
  (hb:∀ l,L=some l→l.gM=false→o.alive=true→w'.heap[l.b]? = w.heap[l.b]?) (h:fo c w L o):fo c' w' L o:=by
 cases o with
 | dead=>simp[fo]
 | hole=>simpa[fo]using h
 | row t g cs=>
  cases L with
  | none=>simp[fo]at h
  | some l=>
   simp only[fo]at h ⊢
   split
   ·rename_i hv;simpa[hv]using h
   ·rename_i hv
    simp only[hv]at h
    obtain⟨arr,h1,h2,h3,h4⟩:=h
    refine⟨arr,by rw[hb l rfl (by simpa using hv) rfl];exact h1,h2,h3,fun i d hd=>?_⟩
    obtain⟨v,kR,l3,GO⟩:=h4 i d hd
    exact⟨v,kR,l3,hr _ _ GO⟩
 | map kk es=>
  cases L with
  | none=>simp[fo]at h
  | some l=>
   simp only[fo]at h ⊢
   obtain⟨hv,hk,arr,clock,h1,h2⟩:=h
   exact⟨hv,hk,arr,clock,by rw[hb l rfl hv rfl];exact h1,h2.mono hr⟩
 | fy rf env st=>
  cases L with
  | none=>simp[fo]at h
  | some l=>
   simp only[fo]at h ⊢
   obtain⟨hv,r,h1,h2,h3,h4⟩:=h
   exact⟨hv,r,by rw[hb l rfl hv rfl];exact h1,fun k=>hr _ _ (h2 k),by rw[pc];exact h3,h4⟩
 | nM s p=>
  cases L with
  | none=>simp[fo]at h
  | some l=>
   simp only[fo]at h ⊢
   exact⟨h.1,h.2.1,by rw[hb l rfl h.1 rfl];exact h.2.2⟩
 | jD m since seen=>
  cases L with
  | none=>simp[fo]at h
  | some l=>
   simp only[fo]at h ⊢
   obtain⟨h1,h2,bm,h3,h4⟩:=h
   exact⟨h1,h2,bm,hr _ _ h3,by rw[hb l rfl h1 rfl];exact h4⟩
 | jv=>
  cases L with
  | none=>simp[fo]at h
  | some l=>
   simp only[fo]at h ⊢
   by_cases hv:l.gM=true
   ·exact .inl hv
   ·exact .inr (by rw[hb l rfl (by simpa using hv) rfl];exact h.resolve_left hv)
theorem eN.lV{G:GT}{c:Ctx}{H:U}{w w':World}(h:eN G c H w)(hg:ia w w'):eN G c H w':=by
 have hs:=wD H.length (c:=c) (H:=H) hg
 have hr:∀ v d,eu c w v d→eu c w' v d:=fun v d hd=>hd.mr h.toHeapOK hs
 exact{
  inj:=h.inj
  lt:=fun b hb=>aH (h.lt b hb) hg.size
  nF:=h.nF
  iz:=fun b hb=>aH (h.iz b hb) hg.size
  out:=h.out
  jx:=h.jx
  ob:=fun v o ho=>(h.ob v o ho).nh rfl hr fun l hl hv hd=>hg.kept _ (h.lt _ ⟨v,l,⟨o,ho,hd,hl⟩,hv,rfl⟩)
  gl:=fun g cs tO=>let ⟨a,b⟩:=h.gl g cs tO;⟨a,hr _ _ b⟩
  rt:=h.rt }
structure rM(H:U)(v:Nat)(ob:Ob)(H':U):Prop where
 get:∀ u,H'[u]? = if u=v then some ob else H[u]?
 free:H.length≤v∨H[v]? = some .hole∨∃ o,H[v]? = some o∧o.alive=true∧o.gen<ob.gen
 len:H.length≤H'.length
theorem qI.oY{H:U}{v:Nat}{ob:Ob}{H':U}(h:qI H v ob H'):rM H v ob H':=⟨h.get,h.free.imp id .inl,h.len⟩
theorem wF{c:Ctx}{H H':U}{v:Nat}{ob:Ob}{L:Loc}(ht:rM H v ob H'){u:Nat}{l:Loc}(h:jc (c.set v ob.gen L) H' u l) :
  (u=v∧l=L)∨(u≠v∧jc c H u l):=by
 obtain⟨o,ho,ha,eC⟩:=h
 rw[ht.get]at ho
 split at ho
 ·rename_i e;cases ho;subst e;rw[Ctx.oB]at eC;cases eC;exact .inl ⟨rfl,rfl⟩
 ·rename_i e
  rw[Ctx.pH _ _ (fun h=>e h.1)]at eC
  exact .inr ⟨e,o,ho,ha,eC⟩
theorem NM{G:GT}{c:Ctx}{H H':U}{w:World}{v:Nat}{ob:Ob}(h:eN G c H w)(ht:rM H v ob H')(k:Nat)(hk:ob.gen≤k):c.ι v k=none:=by
 rcases ht.free with hf|hf|⟨o,ho,ha,hg⟩
 ·exact h.out v k hf
 ·exact h.jx v _ k hf (.inl rfl)
 ·exact h.jx v o k ho (.inr ⟨ha,by omega⟩)
theorem NN{G:GT}{c:Ctx}{H H':U}{w:World}{v:Nat}{ob:Ob}{L:Loc}(h:eN G c H w)(ht:rM H v ob H')(u k:Nat)(l:Loc)(eC:c.ι u k=some l):(c.set v ob.gen L).ι u k=some l:=by
 rw[Ctx.pH]
 ·exact eC
 ·rintro⟨rfl,rfl⟩
  rw[NM h ht _ (Nat.le_refl _)]at eC
  cases eC
theorem EH{G:GT}{c:Ctx}{H H':U}{w w':World}{v:Nat}{ob:Ob}(h:eN G c H w)(ht:rM H v ob H')(hg:ia w w')(L:Loc)
  (hL:L.gM=false→w.heap.size≤L.b∧L.b<w'.heap.size):Step H.length c H w (c.set v ob.gen L) H' w' where
 os:=hg.os
 tape:=hg.tape
 output:=hg.output
 size:=hg.size
 RT:=rfl
 Fm _ h:=h
 Fn _ h:=.inl h
 kept b hb _:=hg.kept b hb
 old u k l _ eC:=NN h ht u k l eC
 own b hb:=by
  obtain⟨u,l,hl,hv,e⟩:=hb
  rcases wF ht hl with⟨_,rfl⟩|⟨_,hl⟩
  ·exact .inl (e▸(hL hv).1)
  ·exact .inr ⟨u,l,hl,hv,e⟩
theorem Ig{G:GT}{c:Ctx}{H H':U}{w w':World}{v:Nat}{ob:Ob}(h:eN G c H w)(ht:rM H v ob H')(hg:ia w w')(L:Loc)
  (hL:L.gM=false→w.heap.size≤L.b∧L.b<w'.heap.size) (fr:ob.alive=true) (fC:fo (c.set v ob.gen L) w' (some L) ob):eN G (c.set v ob.gen L) H' w':=by
 have hs:=EH h ht hg L hL
 have hr:∀ u d,eu c w u d→eu (c.set v ob.gen L) w' u d:=fun u d hd=>hd.mr h.toHeapOK hs
 have e7:∀ u l,jc c H u l→l.gM=false→l.b<w.heap.size:=fun u l hl hv=>h.lt _ ⟨u,l,hl,hv,rfl⟩
 have Sd:v<H'.length:=by
  have:=ht.get v
  rw[if_pos rfl]at this
  exact(af.1 this).1
 exact{
  inj:=by
   intro u u' l l' h1 h2 h5 h6 he
   rcases wF ht h1 with⟨rfl,rfl⟩|⟨_,b⟩<;>rcases wF ht h2 with⟨rfl,rfl⟩|⟨_,b'⟩
   ·rfl
   ·have:=(hL h5).1;have:=e7 _ _ b' h6;omega
   ·have:=(hL h6).1;have:=e7 _ _ b h5;omega
   ·exact h.inj u u' l l' b b' h5 h6 he
  lt:=fun b hb=>by
   obtain⟨u,l,hl,hv,e⟩:=hb
   rcases wF ht hl with⟨_,rfl⟩|⟨_,hl⟩
   ·exact e▸(hL hv).2
   ·exact e▸aH (e7 u l hl hv) hg.size
  nF:=fun b hb hF=>by
   obtain⟨u,l,hl,hv,e⟩:=hb
   rcases wF ht hl with⟨_,rfl⟩|⟨_,hl⟩
   ·have:=h.iz b hF;have:=(hL hv).1;omega
   ·exact h.nF b ⟨u,l,hl,hv,e⟩ hF
  iz:=fun b hb=>aH (h.iz b hb) hg.size
  out:=fun u k hu=>by
   rw[Ctx.pH _ _ (by rintro⟨rfl,_⟩;omega)]
   exact h.out u k (Nat.le_trans ht.len hu)
  jx:=fun u o k ho hk=>by
   rw[ht.get]at ho
   split at ho
   ·rename_i e
    cases ho;subst e
    rcases hk with rfl|⟨_,hk⟩
    ·cases fr
    ·rw[Ctx.pH _ _ (by rintro⟨_,rfl⟩;omega)];exact NM h ht k (by omega)
   ·rename_i e
    rw[Ctx.pH _ _ (fun h=>e h.1)]
    exact h.jx u o k ho hk
  ob:=fun u o ho=>by
   rw[ht.get]at ho
   split at ho
   ·rename_i e
    cases ho;subst e
    rw[Ctx.oB];exact fC
   ·rename_i e
    rw[Ctx.pH _ _ (fun h=>e h.1)]
    exact fo.nh (c:=c) (c':=c.set v ob.gen L) rfl hr (fun l hl hv hd=>hg.kept _ (e7 u l ⟨o,ho,hd,hl⟩ hv)) (h.ob u o ho)
  gl:=fun g cs tO=>let ⟨a,b⟩:=h.gl g cs tO;⟨a,hr _ _ b⟩
  rt:=h.rt }
structure Cells(c:Ctx)(w:World)(vs:List Value)(cs:List D):Prop where
 len:vs.length=cs.length
 one:∀ v∈vs,v.oneCell'=true
 rep:∀ (i:Nat) (v:Value) (d:D),vs[i]? = some v→cs[i]? = some d→eu c w v d
theorem yU{G:GT}{c:Ctx}{H H':U}{v gen:Nat}{w:World}(h:eN G c H w)(w0:World)(hg:ia w w0)(t:TypeId)(vs:List Value)(cs:List D)(n:Nat)(arr:Array Value)
  (ht:rM H v (.row t gen cs) H') (hc:Cells c w vs cs) (ha:arr.toList.take n=vs) (hn:n≤arr.size) :
  ∃ L:Loc,L.gM=false∧L.b=w0.heap.size∧L.base=0∧L.top=arr.size ∧
   eN G (c.set v gen L) H' (w0.alloc (.cells arr t))∧Step H.length c H w (c.set v gen L) H' (w0.alloc (.cells arr t)):=by
 have oM:=hg.trans (ia.alloc w0 (.cells arr t))
 refine⟨⟨w0.heap.size,0,arr.size,false⟩,rfl,rfl,rfl,rfl,?_⟩
 have hL:(⟨w0.heap.size,0,arr.size,false⟩:Loc).gM=false→w.heap.size≤(⟨w0.heap.size,0,arr.size,false⟩:Loc).b∧(⟨w0.heap.size,0,arr.size,false⟩:Loc).b<(w0.alloc (.cells arr t)).heap.size:=fun _=>⟨hg.size,by simp⟩
 have hs:=EH h ht oM ⟨w0.heap.size,0,arr.size,false⟩ hL
 refine⟨Ig h ht oM _ hL rfl ?_,hs⟩
 have hr:∀ u d,eu c w u d→eu (c.set v gen ⟨w0.heap.size,0,arr.size,false⟩) (w0.alloc (.cells arr t)) u d:=fun u d hd=>hd.mr h.toHeapOK hs
 have hlen:cs.length=n:=by rw[← hc.len,← ha];simp;omega
 simp only[fo,Ob.gen]
 refine⟨arr,heap_alloc_new _ _,rfl,by simp;omega,fun i d hd=>?_⟩
 have hi:i<cs.length:=(af.1 hd).1
 have tR:i<arr.size:=by omega
 refine⟨arr[i],by simp[tR],?_,?_⟩
 ·exact hc.one _ (by rw[← ha];exact aY (i:=i) (by rw[ay];simp[hlen▸hi,tR]))
 ·exact hr _ _ (hc.rep i _ d (by rw[← ha,ay];simp[hlen▸hi,tR]) hd)
theorem nj{H:U}{v:Nat}{ob:Ob}(hv:v<H.length)(u:Nat):(H.set v ob)[u]? = if u=v then some ob else H[u]? := by
 rw[bH]
 split
 ·rename_i e;subst e;simp[hv]
 ·rename_i e;rw[if_neg (dg e)]
theorem Zn{c:Ctx}{H:U}{v:Nat}{ob ob':Ob}(hv:H[v]? = some ob)(ha:ob.alive=true)(hg:ob'.gen=ob.gen){u:Nat}{l:Loc}(h:jc c (H.set v ob') u l):jc c H u l:=by
 obtain⟨o,ho,fr,eC⟩:=h
 rw[nj (af.1 hv).1]at ho
 split at ho
 ·rename_i e;cases ho;subst e;exact⟨ob,hv,ha,by rw[← hg];exact eC⟩
 ·exact⟨o,ho,fr,eC⟩
theorem NY{G:GT}{c:Ctx}{H:U}{w:World}(h:eN G c H w){v:Nat}{ob ob':Ob}(hv:H[v]? = some ob)(ha:ob.alive=true)(nG:ob'.alive=true)(Da:ob'.gen=ob.gen){L:Loc}(eC:c.ι v ob.gen=some L)(fH:L.gM=false)
  {w':World} (mI:w'.os=w.os∧w.drawn≤w'.drawn) (GK:w'.tape=w.tape) (kb:w'.output=w.output) (yq:w'.heap.size=w.heap.size)
  (jj:∀ b,b≠L.b→w'.heap[b]? = w.heap[b]?) (fC:(∀ u d,eu c w u d→eu c w' u d)→fo c w' (some L) ob') :
  eN G c (H.set v ob') w'∧Step H.length c H w c (H.set v ob') w':=by
 have ya:jc c H v L:=⟨ob,hv,ha,eC⟩
 have sC:ju c H L.b:=⟨v,L,ya,fH,rfl⟩
 have hL:∀ u l,jc c (H.set v ob') u l→jc c H u l:=fun u l hl=>Zn hv ha Da hl
 have nC:∀ b,ju c (H.set v ob') b→ju c H b:=fun b ⟨u,l,hl,r⟩=>⟨u,l,hL u l hl,r⟩
 have hs:Step H.length c H w c (H.set v ob') w':=
  ⟨mI,GK,kb,by omega,rfl,fun _ h=>h,fun _ h=>.inl h,fun b _ hn=>jj b (fun e=>hn (e▸sC)),fun _ _ _ _ h=>h,fun b hb=>.inr (nC b hb)⟩
 have hr:∀ u d,eu c w u d→eu c w' u d:=fun u d hd=>hd.mr h.toHeapOK hs
 refine⟨{
  inj:=fun u u' l l' h1 h2=>h.inj u u' l l' (hL _ _ h1) (hL _ _ h2)
  lt:=fun b hb=>by rw[yq];exact h.lt b (nC b hb)
  nF:=fun b hb=>h.nF b (nC b hb)
  iz:=fun b hb=>by rw[yq];exact h.iz b hb
  out:=fun u k hu=>h.out u k (by simpa using hu)
  jx:=fun u o k ho hk=>by
   rw[nj (af.1 hv).1]at ho
   split at ho
   ·rename_i e;cases ho;subst e
    rcases hk with rfl|⟨_,hk⟩
    ·cases nG
    ·exact h.jx u ob k hv (.inr ⟨ha,by omega⟩)
   ·exact h.jx u o k ho hk
  ob:=fun u o ho=>by
   rw[nj (af.1 hv).1]at ho
   split at ho
   ·rename_i e
    cases ho;subst e
    rw[Da,eC]
    exact fC hr
   ·rename_i fF
    exact(h.ob u o ho).nh rfl hr fun l hl jB hd=>jj _ fun e=>fF (h.inj u v l L ⟨o,ho,hd,hl⟩ ya jB fH e)
  gl:=fun g cs tO=>let ⟨a,b⟩:=h.gl g cs tO;⟨a,hr _ _ b⟩
  rt:=h.rt },hs⟩
theorem zS{G:GT}{c:Ctx}{H:U}{w:World}(h:eN G c H w){v g:Nat}{t:TypeId}{cs:List D}(hv:H[v]? = some (.row t g cs)){L:Loc}(eC:c.ι v g=some L)(fH:L.gM=false)
  {arr:Array Value} (ki:w.heap[L.b]? = some (.cells arr t (0,0))) (lg:Array Value) (fL:lg.size=arr.size) (jN:L.top=arr.size) (kh:List D) (hlen:L.base+kh.length≤L.top)
  (hc:∀ (i:Nat) (d:D),kh[i]? = some d→∃ u,lg[L.base+i]? = some u∧u.oneCell'=true∧eu c w u d) :
  eN G c (H.set v (.row t g kh)) (w.setRow L.b lg)∧Step H.length c H w c (H.set v (.row t g kh)) (w.setRow L.b lg):=by
 refine NY (w':=w.setRow L.b lg) (ob':=.row t g kh) h hv rfl rfl rfl eC fH ⟨rfl,Nat.le_refl _⟩ rfl rfl (by simp[World.setRow]) (fun b hb=>by simp only[World.setRow,bC];rw[if_neg (dg hb)]) fun hr=>?_
 simp only[fo,fH]
 refine⟨lg,setRow_heap w L.b arr _ t _ ki,by rw[jN,fL],hlen,fun i d hd=>?_⟩
 obtain⟨x,mi,jH,ri⟩:=hc i d hd
 exact⟨x,mi,jH,hr _ _ ri⟩
def rU:Value→D
 | .slice none 0 0=>.emp
 | v=>.val v
def Cw:Value→Option D
 | .slice none 0 0=>some .emp
 | .agg cs=>if cs.all (·.oneCell')then some (.agg (cs.toList.map rU))else none
 | .tuple _=>none
 | v=>some (.val v)
def cX(G:GT):Operand→Option X
 | .tmp t=>some (.t t)
 | .const v=>(Cw v).map .c
 | .global g=>(G g).map fun cs=>.c (.eF cs)
 | .func f=>some (.c (.fn (.func f) [] []))
def qO(G:GT):List Operand→Option (List X)
 | []=>some []
 | x::r=>match cX G x,qO G r with
  | some a,some l=>some (a::l)
  | _,_=>none
def rT(G:GT):List (Nat×Operand)→Option (List (Nat×X))
 | []=>some []
 | (i,x)::r=>match cX G x,rT G r with
  | some a,some l=>some ((i,a)::l)
  | _,_=>none
def qN(G:GT):Option Operand→Option (Option X)
 | none=>some none
 | some x=>(cX G x).map some
def iC(P:Program)(t:TypeId):Option Nat:=(P.info? t).map (·.size)
def mw(P:Program)(t:TypeId):Option (List D):=match (P.info? t).bind (·.zero)with
 | some z=>if z.cells.all (·.oneCell')then some (z.cells.toList.map rU)else none
 | none=>none
def lR(P:Program)(t:TypeId):Option Bool:=match P.underlying t with
 | some (.struct _)|some (.array _ _)=>some true
 | some _=>some false
 | none=>none
def LU(P:Program)(t:TypeId):Bool:=match P.underlying t with
 | some (.int _)|some .string|some .bool=>true
 | _=>false
def Cf(P:Program)(t:TypeId):Bool:=match P.underlying t with
 | some .bool=>true
 | _=>false
def uk(P:Program)(t:TypeId):Option lB:=match P.underlying t with
 | some (.int _)=>some .int
 | some .string=>some .str
 | some .bool=>some .bool
 | _=>none
def CL(P:Program):Nat→List Field→Option (List lB)
 | _,[]=>some []
 | i,f::r=>match uk P f.type,CL P (i+1) r with
  | some l,some ls=>if f.offset=i∧f.name≠ "_" then some (l::ls)else none
  | _,_=>none
def CM(P:Program)(t:TypeId):Option (List lB):=match P.underlying t with
 | some (.struct fs)=>if P.stoodInHeld t=false∧P.eqGuardType P.depth t=false then CL P 0 fs.toList else none
 | _=>none
def y8(P:Program)(fs:Array Field):List (Nat×X)→Option (List (Nat×Nat×X))
 | []=>some []
 | (i,x)::r=>match fs[i]?,y8 P fs r with
  | some f,some l=>(iC P f.type).map fun n=>(f.offset,n,x)::l
  | _,_=>none
def Kl(P:Program)(fs:Array Field):Bool:=fs.all fun f=>(iC P f.type).isSome
def nB(P:Program)(f:FuncId):Bool:=match P.funcs[f]? with
 | some fn=>fn.name != "runtime.NumGoroutine" && fn.body.isSome
 | none=>false
def qo(P:Program)(t:TypeId):Option KK:=match P.underlying t with
 | some (.int k)=>some (.int k)
 | some .string=>some .str
 | some .bool=>some .bool
 | _=>none
def Ip(P:Program)(t:TypeId):Option D:=(P.info? t).bind fun i=>i.zero.bind Cw
def kg(P:Program)(G:GT)(o:Oper):Option fR:=
 match o.op with
 | .move x=>do let a ← cX G x;pure (.mv a)
 | .assign x=>do let a ← cX G x;pure (.mv a)
 | .pick c a b=>do pure (.pick (← cX G c) (← cX G a) (← cX G b))
 | .box e x=>do pure (.box e (← cX G x))
 | .alloc e=>do pure (.alloc e (← mw P e))
 | .build t ps=>do
  let z ← mw P t
  let l ← rT G ps.toList
  match P.underlying t with
  | some (.struct fs)=>if Kl P fs then do pure (.build z (← y8 P fs l))else none
  | some (.array _ e)=>do
   let sz ← iC P e
   pure (.build z (l.map fun p=>(p.1*sz,sz,p.2)))
  | _=>none
 | .buildSlice t n ps=>do
  let .slice e ← P.underlying t|none
  let z ← mw P e
  let sz ← iC P e
  let l ← rT G ps.toList
  if z.length=sz∧0<sz∧n*sz≤16777216 then pure (.buildSl e sz z n l)else none
 | .load t a=>do
  let x ← cX G a
  let n ← iC P t
  if ← lR P t then pure (.ldN n x)else pure (.ld1 x)
 | .store t a v=>do
  let x ← cX G a
  let y ← cX G v
  let n ← iC P t
  if ← lR P t then pure (.stN n x y)else if n=1 then pure (.st1 x y)else none
 | .nilCheck x=>do pure (.nilck (← cX G x))
 | .binOp op t x y _=>do
  let a ← cX G x
  let b ← cX G y
  match op with
  | .eql=>if Cf P t then pure (.eqS false [.bool] false a b)else if LU P t then pure (.arith .eql a b)else do pure (.eqS true (← CM P t) false a b)
  | .neq=>if Cf P t then pure (.eqS false [.bool] true a b)else if LU P t then pure (.arith .neq a b)else do pure (.eqS true (← CM P t) true a b)
  | op=>pure (.arith op a b)
 | .unOp op _ x=>do pure (.un op (← cX G x))
 | .convert s d x=>do
  let a ← cX G x
  let _ ← P.underlying s
  match P.underlying d with
  | some (.int k)=>pure (.conv k a)
  | some .string=>do
   let .slice e ← P.underlying s|none
   let .int .u8 ← P.underlying e|none
   pure (.b2s a)
  | _=>none
 | .makeFunc f first cap=>do pure (.mkfn f (← qO G first.toList) (← qO G cap.toList))
 | .makeMap t none=>do
  let .map k _ ← P.underlying t|none
  pure (.mkmap (← qo P k))
 | .lookup t x i ok=>do
  let .map k e ← P.underlying t|none
  let z ← Ip P e
  pure (.lookup (← qo P k) z ok (← cX G x) (← cX G i))
 | .mapUpdate t m k v=>do
  let .map kt _ ← P.underlying t|none
  pure (.mapUpd (← qo P kt) (← cX G m) (← cX G k) (← cX G v))
 | .insert t m k v=>do
  let .map kt _ ← P.underlying t|none
  pure (.mapUpd (← qo P kt) (← cX G m) (← cX G k) (← cX G v))
 | .makeSlice t l c=>do
  let .slice e ← P.underlying t|none
  let z ← mw P e
  let i ← P.info? e
  if z.length=i.size∧0<i.size then pure (.mksl e i.size i.bytes z (← cX G l) (← cX G c))else none
 | .slice t x lo hi none=>do
  let a ← cX G x
  let l ← qN G lo
  let h ← qN G hi
  match P.underlying t with
  | some (.slice e)=>do pure (.slc (← iC P e) a l h)
  | some .string=>pure (.slcS a l h)
  | _=>none
 | .fieldAddr t x f=>do
  let a ← cX G x
  let .struct fs ← P.underlying t|none
  let fd ← fs[f]?
  let n ← iC P fd.type
  if 0<n then pure (.fieldA fd.offset a)else none
 | .field t x f=>do
  let a ← cX G x
  let .struct fs ← P.underlying t|none
  let fd ← fs[f]?
  let n ← iC P fd.type
  pure (.field fd.offset n (← lR P fd.type) a)
 | .indexAddr t x i=>do
  let a ← cX G x
  let j ← cX G i
  match P.underlying t with
  | some (.slice e)=>do
   let n ← iC P e
   if 0<n then pure (.idxA n a j)else none
  | some (.array n e)=>do pure (.idxArr (← iC P e) n a j)
  | _=>none
 | .index t x i=>do
  let a ← cX G x
  let j ← cX G i
  match P.underlying t with
  | some (.array n e)=>do pure (.idx (← iC P e) n (← lR P e) a j)
  | some .string=>pure (.idxStr a j)
  | _=>none
 | .extract x i=>do pure (.ext (← cX G x) i)
 | .call c=>do
  let args ← qO G c.args.toList
  match c.callee with
  | .value (.func f)=>if nB P f then pure (if G.nw f then .callN f args else .call f args)else none
  | .value f=>do pure (.callv (← cX G f) args)
  | .builtin .append=>match c.argTypes.toList,args with
   | [t,u],[x,y]=>do
    let .slice e ← P.underlying t|none
    let i ← P.info? e
    let z ← mw P e
    let .slice _ ← P.underlying u|none
    if z.length=i.size∧0<i.size then pure (.app e i.size i.bytes x y)else none
   | _,_=>none
  | .builtin .copy=>match c.argTypes.toList,args with
   | [t,u],[x,y]=>do
    let .slice e ← P.underlying t|none
    let .slice _ ← P.underlying u|none
    let n ← iC P e
    if 0<n then pure (.copy n x y)else none
   | _,_=>none
  | .builtin .len=>match c.argTypes.toList,args with
   | [t],[x]=>match P.underlying t with
    | some (.slice _)=>pure (.len .slice x)
    | some .string=>pure (.len .string x)
    | some (.map _ _)=>pure (.len .map x)
    | _=>none
   | _,_=>none
  | .builtin .max=>pure (.minmax true args)
  | .builtin .min=>pure (.minmax false args)
  | _=>none
 | _=>none
end Go.AL
namespace Go.AL
open Go
def iP(c:Ctx)(w:World)(env:e9)(a:Act):Prop:=∀ k,eu c w (a.tmps.getD k undef) (env k)
def gA(G:GT)(c:Ctx)(H:U)(w:World)(K:gN)(v:Value)(w':World):Prop:=
 ∃ d H' c',K d H'∧eN G c' H' w'∧eu c' w' v d∧Step H.length c H w c' H' w'
section
variable{P:Program}{G:GT}{c:Ctx}{H:U}{w:World}{K:gN}{env:e9}{a:Act}
theorem gA.plain(h:eN G c H w){v:Value}{d:D}(hK:K d H)(hr:eu c w v d):gA G c H w K v w:=
 ⟨d,H,c,hK,h,hr,Step.refl _ _ _ _⟩
theorem Na(v:Value):eu c w v (rU v):=by
 unfold rU
 split
 ·exact .emp
 ·exact .val _
theorem Nb{v:Value}{d:D}(h:Cw v=some d):eu c w v d:=by
 unfold Cw at h
 split at h
 ·cases h;exact .emp
 ·rename_i cs
  split at h
  ·rename_i iq
   cases h
   have:=eu.agg (c:=c) (w:=w) cs.toList (cs.toList.map rU) (by simp) (fun v hv=>by
    have:=bQ.1 iq v (by simpa using hv)
    exact this) (fun i v d hv hd=>by
    simp only[ar,hv,a8,aq]at hd
    subst hd
    exact Na v)
   simpa using this
  ·cases h
 ·cases h
 ·cases h;exact .val _
theorem fY(h:eN G c H w)(he:iP c w env a){x:Operand}{X:X}(hx:cX G x=some X):eu c w (a.eval x) (ev env X):=by
 cases x with
 | tmp t=>cases hx;exact he t
 | const v=>
  simp only[cX,ai]at hx
  obtain⟨d,hd,rfl⟩:=hx
  exact Nb hd
 | global g=>
  simp only[cX,ai]at hx
  obtain⟨cs,gC,rfl⟩:=hx
  exact(h.gl g cs gC).2
 | func f=>cases hx;exact .fn (.func f) [] [] [] [] rfl rfl (by simp) (by simp)
theorem tf(h:eN G c H w)(he:iP c w env a):∀ (l:List Operand) {xs:List X},qO G l=some xs→gD c w (l.map a.eval) (xs.map (ev env))
 | [],xs,hx=>by cases hx;exact .nil
 | x::r,xs,hx=>by
  simp only[qO]at hx
  split at hx
  ·rename_i X l hX hl
   cases hx
   exact .cons (fY h he hX) (tf h he r hl)
  ·cases hx
theorem gD.length{vs:List Value}{ds:List D}(h:gD c w vs ds):vs.length=ds.length:=by
 induction h with
 | nil=>rfl
 | cons _ _ ih=>simp[ih]
theorem gD.get{vs:List Value}{ds:List D}(h:gD c w vs ds):∀ (i:Nat) (v:Value) (d:D),vs[i]? = some v→ds[i]? = some d→eu c w v d:=by
 induction h with
 | nil=>intro i v d hv;simp at hv
 | cons h _ ih=>
  intro i v d hv hd
  cases i with
  | zero=>simp at hv hd;subst hv;subst hd;exact h
  | succ i=>simp at hv hd;exact ih i v d hv hd
theorem gD.append{vs us:List Value}{ds es:List D}(h:gD c w vs ds)(k:gD c w us es):gD c w (vs++us) (ds++es):=by
 induction h with
 | nil=>exact k
 | cons h _ ih=>exact .cons h ih
theorem gD.y6:∀ {vs:List Value} {ds:List D},vs.length=ds.length→(∀ (i:Nat) (v:Value) (d:D),vs[i]? = some v→ds[i]? = some d→eu c w v d)→gD c w vs ds
 | [],[],_,_=>.nil
 | v::vs,d::ds,hl,h=>.cons (h 0 v d rfl rfl) (gD.y6 (by simpa using hl) fun i v d hv hd=>h (i+1) v d (by simpa using hv) (by simpa using hd))
theorem Cells.agg{vs:List Value}{cs:List D}(h:Cells c w vs cs):eu c w (.agg vs.toArray) (.agg cs):=.agg vs cs h.len h.one h.rep
theorem Cells.drop{vs:List Value}{cs:List D}(h:Cells c w vs cs)(n:Nat):Cells c w (vs.drop n) (cs.drop n):=
 ⟨by simp[h.len],fun v hv=>h.one v (bN hv),fun i v d hv hd=>h.rep (n+i) v d (by simpa using hv) (by simpa using hd)⟩
theorem Cells.take{vs:List Value}{cs:List D}(h:Cells c w vs cs)(n:Nat):Cells c w (vs.take n) (cs.take n):=
 ⟨by simp[h.len],fun v hv=>h.one v (aN hv),fun i v d hv hd=>by
  rw[ay]at hv hd
  split at hv
  ·rename_i hi;rw[if_pos hi]at hd;exact h.rep i v d hv hd
  ·cases hv⟩
theorem Cells.append{vs us:List Value}{cs ds:List D}(h:Cells c w vs cs)(k:Cells c w us ds):Cells c w (vs++us) (cs++ds):=
 ⟨by simp[h.len,k.len],fun v hv=>by
  rcases List.mem_append.1 hv with hv|hv
  ·exact h.one v hv
  ·exact k.one v hv,fun i v d hv hd=>by
  rw[List.getElem?_append]at hv hd
  split at hv
  ·rename_i hi;rw[if_pos (by rw[← h.len];exact hi)]at hd;exact h.rep i v d hv hd
  ·rename_i hi;rw[if_neg (by rw[← h.len];exact hi)]at hd;rw[← h.len]at hd;exact k.rep _ v d hv hd⟩
theorem Cells.nil:Cells c w [] []:=⟨rfl,by simp,by simp⟩
theorem Cells.get{vs:List Value}{cs:List D}(h:Cells c w vs cs){i:Nat}{d:D}(hd:cs[i]? = some d):∃ v,vs[i]? = some v∧v.oneCell'=true∧eu c w v d:=by
 have hi:i<vs.length:=by rw[h.len];exact(af.1 hd).1
 exact⟨vs[i],by simp[hi],h.one _ (bz hi),h.rep i _ d (by simp[hi]) hd⟩
def oE(c:Ctx)(w:World)(b o:Nat)(cs:List D):Prop:=∃ vs,Cells c w vs cs∧∀ (j:Nat) (v:Value),vs[j]? = some v→w.cell? ⟨b,o+j,none⟩=some v
theorem oE.drop{b o:Nat}{cs:List D}(h:oE c w b o cs)(n:Nat):oE c w b (o+n) (cs.drop n):=by
 obtain⟨vs,hc,hv⟩:=h
 exact⟨vs.drop n,hc.drop n,fun j v hj=>by rw[aC]at hj;have:=hv _ _ hj;rwa [bf]⟩
theorem oE.take{b o:Nat}{cs:List D}(h:oE c w b o cs)(n:Nat):oE c w b o (cs.take n):=by
 obtain⟨vs,hc,hv⟩:=h
 refine⟨vs.take n,hc.take n,fun j v hj=>?_⟩
 rw[ay]at hj
 split at hj
 ·exact hv _ _ hj
 ·cases hj
theorem sR(h:eN G c H w){v g:Nat}{t:TypeId}{cs:List D}(hv:H[v]? = some (.row t g cs)){L:Loc}(eC:c.ι v g=some L)(fH:L.gM=false) :
  ∃ arr:Array Value,w.heap[L.b]? = some (.cells arr t (0,0))∧L.top=arr.size∧L.base+cs.length≤L.top∧Cells c w ((arr.toList.drop L.base).take cs.length) cs:=by
 have h0:=h.ob v _ hv
 simp only[Ob.gen]at h0
 rw[eC]at h0
 simp only[fo,fH]at h0
 obtain⟨arr,h1,h2,h3,h4⟩:=h0
 refine⟨arr,h1,h2,h3,⟨by simp;omega,fun u hu=>?_,fun i u d hu hd=>?_⟩⟩
 ·obtain⟨i,hi⟩:=aD.1 hu
  rw[ay]at hi
  split at hi
  ·rename_i e7
   rw[aC]at hi
   obtain⟨x,hx,h5,_⟩:=h4 i cs[i] (by simp[e7])
   have:arr[L.base+i]? = some u:=by simpa using hi
   rw[hx]at this
   cases this
   exact h5
  ·cases hi
 ·rw[ay]at hu
  split at hu
  ·rw[aC]at hu
   obtain⟨x,hx,_,h6⟩:=h4 i d hd
   have:arr[L.base+i]? = some u:=by simpa using hu
   rw[hx]at this
   cases this
   exact h6
  ·cases hu
theorem Cm(h:eN G c H w){v g o:Nat}{t:TypeId}{cs:List D}(hv:H[v]? = some (.row t g cs)){u:Value}(hr:eu c w u (.ptr v g o)) :
  ∃ b p,u = .pointer (some ⟨b,p,none⟩)∧oE c w b p (cs.drop o):=by
 cases hr with
 | ptr _ _ _ L eC fH=>
  obtain⟨arr,h1,h2,h3,h4⟩:=sR h hv eC fH
  refine⟨L.b,L.base+o,rfl,?_⟩
  refine oE.drop ⟨_,h4,fun j x hx=>?_⟩ o
  rw[ay]at hx
  split at hx
  ·rw[aC]at hx
   simp[World.cell?,h1]
   simpa using hx
  ·cases hx
theorem th{u:Value}{cs:List D}(hr:eu c w u (.eF cs)):∃ b p,u = .pointer (some ⟨b,p,none⟩)∧c.F b∧oE c w b p cs:=by
 cases hr with
 | eF b o _ g hF hc hr=>
  refine⟨b,o,rfl,hF,(List.range cs.length).map g,⟨by simp,fun v hv=>?_,fun i v d hv hd=>?_⟩,fun j v hv=>?_⟩
  ·simp only[aw,bG]at hv
   obtain⟨j,hj,rfl⟩:=hv
   exact(hc j cs[j] (by simp[hj])).2
  ·simp only[ar,ai,bO (af.1 hd).1]at hv
   obtain⟨_,e,rfl⟩:=hv
   cases e
   exact hr i d hd
  ·have hj:j<cs.length:=by have:=(af.1 hv).1;simpa using this
   simp only[ar,bO hj,a8,aq]at hv
   subst hv
   exact(hc j cs[j] (by simp[hj])).1
theorem FH{b o:Nat}{cs:List D}(hF:c.F b)(h:oE c w b o cs):eu c w (.pointer (some ⟨b,o,none⟩)) (.eF cs):=by
 obtain⟨vs,hc,hv⟩:=h
 refine .eF b o cs (fun j=>vs.getD j undef) hF (fun j d hd=>?_) (fun j d hd=>?_)
 ·obtain⟨u,hu,h1,_⟩:=hc.get hd
  simp only[List.getD,hu,aR]
  exact⟨hv j u hu,h1⟩
 ·obtain⟨u,hu,_,h1⟩:=hc.get hd
  simp only[List.getD,hu,aR]
  exact h1
theorem zt{t:TypeId}{b:Bool}(h:lR P t=some b)(w:World):(isAgg t).run P w = .ok b w:=by
 unfold lR at h
 unfold isAgg
 cases hu:P.underlying t with
 | none=>simp[hu]at h
 | some d=>cases d<;>simp[hu]at h<;>subst h<;>simp[run_underlying hu]
theorem nL{t:TypeId}{n:Nat}(h:iC P t=some n)(w:World):(sizeOf t).run P w = .ok n w:=by
 simp only[iC,ai]at h
 obtain⟨i,hi,rfl⟩:=h
 simp[sizeOf,typeInfo,hi]
theorem run_typeInfo{t:TypeId}{i:TypeInfo}(h:P.info? t=some i)(w:World):(typeInfo t).run P w = .ok i w:=by simp[typeInfo,h]
theorem sU{t:TypeId}{z:List D}(h:mw P t=some z)(w:World):∃ v:Value,(zeroValue t).run P w = .ok v w∧(P.info? t).bind (·.zero)=some v ∧
  ∀ c w,Cells c w v.cells.toList z:=by
 unfold mw at h
 cases hi:P.info? t with
 | none=>simp[hi]at h
 | some i=>
  simp only[hi,Option.bind_some]at h
  cases hz:i.zero with
  | none=>simp[hz]at h
  | some v=>
   simp only[hz]at h
   split at h
   ·rename_i iq
    cases h
    refine⟨v,by simp[zeroValue,run_typeInfo hi,hz],by simp[hz],fun c w=>⟨by simp,fun u hu=>?_,fun i u d hu hd=>?_⟩⟩
    ·exact bQ.1 iq u (by simpa using hu)
    ·simp only[ar,hu,a8,aq]at hd
     subst hd
     exact Na u
   ·cases h
theorem Ek{t:TypeId}(ha:lR P t=some false){b o:Nat}{cs:List D}(hc:oE c w b o cs){d:D}(hd:cs[0]? = some d) :
  ∃ u,(Instr.loadAt t (.pointer (some ⟨b,o,none⟩))).run P w = .ok u w∧u.oneCell'=true∧eu c w u d:=by
 obtain⟨vs,gC,hv⟩:=hc
 obtain⟨u,hu,h1,h2⟩:=gC.get hd
 have:=hv 0 u hu
 exact⟨u,by simp[Instr.loadAt,Instr.sureAddr,loadVar,zt ha];simp at this;simp[this],h1,h2⟩
theorem Em{t:TypeId}{n:Nat}(ha:lR P t=some true)(hs:iC P t=some n){b o:Nat}{cs:List D}(hc:oE c w b o cs)(hn:n≤cs.length) :
  ∃ u,(Instr.loadAt t (.pointer (some ⟨b,o,none⟩))).run P w = .ok u w∧eu c w u (.agg (cs.take n)):=by
 obtain⟨vs,gC,hv⟩:=hc.take n
 have hl:vs.length=n:=by rw[gC.len];simp;omega
 have:=run_loadCells_list (P:=P) w ⟨b,o,none⟩ vs (fun j v hj=>by rw[Addr.add_lit];exact hv j v hj)
 rw[hl]at this
 exact⟨.agg vs.toArray,by simp[Instr.loadAt,Instr.sureAddr,loadVar,zt ha,nL hs,this],gC.agg⟩
theorem oW{v g:Nat}{x:TypeId×List D}(h:rowAt H v g=some x):H[v]? = some (.row x.1 g x.2):=by
 unfold rowAt at h
 split at h
 ·split at h
  ·rename_i e;subst e;cases h;assumption
  ·cases h
 ·cases h
theorem Yd(h:eN G c H w){t:TypeId}(ha:lR P t=some false){x:D}{u:Value}(hr:eu c w u x)(hk:yH x H K) :
  ∃ v,(Instr.loadAt t u).run P w = .ok v w∧gA G c H w K v w:=by
 unfold yH at hk
 split at hk
 ·rename_i v g o
  split at hk
  ·rename_i t' cs fu
   have hv:=oW fu
   split at hk
   ·rename_i d hd
    obtain⟨b,p,rfl,hc⟩:=Cm h hv hr
    obtain⟨u,hu,_,h2⟩:=Ek ha hc (d:=d) (by simpa using hd)
    exact⟨u,hu,.plain h hk h2⟩
   ·exact hk.elim
  ·exact hk.elim
 ·rename_i cs
  split at hk
  ·rename_i d hd
   obtain⟨b,p,rfl,_,hc⟩:=th hr
   obtain⟨u,hu,_,h2⟩:=Ek ha hc hd
   exact⟨u,hu,.plain h hk h2⟩
  ·exact hk.elim
 ·exact hk.elim
theorem Ye(h:eN G c H w){t:TypeId}{n:Nat}(ha:lR P t=some true)(hs:iC P t=some n){x:D}{u:Value}(hr:eu c w u x)(hk:yI n x H K) :
  ∃ v,(Instr.loadAt t u).run P w = .ok v w∧gA G c H w K v w:=by
 unfold yI at hk
 split at hk
 ·rename_i v g o
  split at hk
  ·rename_i t' cs fu
   have hv:=oW fu
   obtain⟨b,p,rfl,hc⟩:=Cm h hv hr
   obtain⟨u,hu,h2⟩:=Em (n:=n) ha hs hc (by simp;omega)
   exact⟨u,hu,.plain h hk.2 h2⟩
  ·exact hk.elim
 ·rename_i cs
  obtain⟨b,p,rfl,_,hc⟩:=th hr
  obtain⟨u,hu,h2⟩:=Em (n:=n) ha hs hc hk.1
  exact⟨u,hu,.plain h hk.2 h2⟩
 ·exact hk.elim
theorem Ym(h:eN G c H w){x y z:D}{u v t:Value}(h1:eu c w u x)(h2:eu c w v y)(h3:eu c w t z)(hk:y7 x y z H K) :
  ∃ b,u = .bool b∧gA G c H w K (if b then v else t) w:=by
 unfold y7 at hk
 split at hk
 ·rename_i b
  cases h1
  refine⟨b,rfl,.plain h hk ?_⟩
  cases b
  ·exact h3
  ·exact h2
 ·exact hk.elim
end
end Go.AL
namespace Go.AL
open Go
section
variable{P:Program}{G:GT}{c:Ctx}{H:U}{w:World}{K:gN}{env:e9}{a:Act}
theorem wrap_i64{n:Int}(h:kE n):IntKind.i64.wrap n=n:=by
 unfold kE at h
 simp only[IntKind.wrap,IntKind.signed,IntKind.bits]
 simp
 omega
theorem gA.val(h:eN G c H w){v:Value}(hK:K (.val v) H):gA G c H w K v w:=.plain h hK (.val _)
theorem XK(h:eN G c H w){op:BinOp}{k:IntKind}{x y:Int}(hk:xe op k x y H K)(hs:op≠.shl∧op≠.shr)(t:TypeId)(xo yo:Operand) :
  ∃ v,(do eqGuard op t xo yo (.int k x) (.int k y);binOp op t (.int k x) (.int k y)).run P w = .ok v w∧gA G c H w K v w:=by
 have hg:(eqGuard op t xo yo (.int k x) (.int k y)).run P w = .ok () w:=by
  cases op<;>simp[eqGuard]
 simp only[Sem.run_bind,hg,Result.andThen_ok]
 cases op<;>simp only[xe]at hk
 case add=>
  by_cases e:k = .i64
  ·subst e
   simp only[if_true]at hk
   exact⟨_,by simp[binOp,Op.intArith,wrap_i64 hk.1]<;>rfl,.val h hk.2⟩
  ·rw[if_neg e]at hk
   exact⟨_,by simp[binOp,Op.intArith]<;>rfl,.val h hk⟩
 case sub=>
  by_cases e:k = .i64
  ·subst e
   simp only[if_true]at hk
   exact⟨_,by simp[binOp,Op.intArith,wrap_i64 hk.1]<;>rfl,.val h hk.2⟩
  ·rw[if_neg e]at hk
   exact⟨_,by simp[binOp,Op.intArith]<;>rfl,.val h hk⟩
 case mul=>
  by_cases e:k = .i64
  ·subst e
   simp only[if_true]at hk
   exact⟨_,by simp[binOp,Op.intArith,wrap_i64 hk.1]<;>rfl,.val h hk.2⟩
  ·rw[if_neg e]at hk
   exact⟨_,by simp[binOp,Op.intArith]<;>rfl,.val h hk⟩
 case quo=>exact⟨_,by simp[binOp,Op.intDiv,hk.1]<;>rfl,.val h hk.2⟩
 case rem=>exact⟨_,by simp[binOp,Op.intDiv,hk.1]<;>rfl,.val h hk.2⟩
 case and=>exact⟨_,by simp[binOp,Op.intBits]<;>rfl,.val h (by simpa[bits]using hk)⟩
 case or=>exact⟨_,by simp[binOp,Op.intBits]<;>rfl,.val h (by simpa[bits]using hk)⟩
 case xor=>exact⟨_,by simp[binOp,Op.intBits]<;>rfl,.val h (by simpa[bits]using hk)⟩
 case andNot=>exact⟨_,by simp[binOp,Op.intBits]<;>rfl,.val h (by simpa[bits]using hk)⟩
 case eql=>exact⟨_,by simp[binOp,Op.intCmp]<;>rfl,.val h hk⟩
 case neq=>exact⟨_,by simp[binOp,Op.intCmp]<;>rfl,.val h hk⟩
 case lss=>exact⟨_,by simp[binOp,Op.intCmp]<;>rfl,.val h hk⟩
 case leq=>exact⟨_,by simp[binOp,Op.intCmp]<;>rfl,.val h hk⟩
 case gtr=>exact⟨_,by simp[binOp,Op.intCmp]<;>rfl,.val h hk⟩
 case geq=>exact⟨_,by simp[binOp,Op.intCmp]<;>rfl,.val h hk⟩
 all_goals exact absurd rfl (by first|exact hs.1|exact hs.2)
theorem Hy(h:eN G c H w){op:BinOp}{x y:D}{u v:Value}(h1:eu c w u x)(h2:eu c w v y)(hk:xi op x y H K)(t:TypeId)(xo yo:Operand) :
  ∃ r,(do eqGuard op t xo yo u v;binOp op t u v).run P w = .ok r w∧gA G c H w K r w:=by
 unfold xi at hk
 split at hk
 ·cases h1;cases h2
  split at hk
  ·have key:∀ op,ml op=true→op = .shl∨op = .shr:=fun op ho=>by cases op<;>simp[ml]at ho<;>simp
   rename_i hs
   rcases key op hs with rfl|rfl
   ·simp only[zz]at hk
    have hn:=hk.1
    exact⟨_,by simp[eqGuard,binOp,Op.shift,dZ.2 hn]<;>rfl,.val h hk.2⟩
   ·simp only[zz]at hk
    have hn:=hk.1
    exact⟨_,by simp[eqGuard,binOp,Op.shift,dZ.2 hn]<;>rfl,.val h hk.2⟩
  ·rename_i hs
   obtain⟨rfl,hk⟩:=hk
   exact XK h hk ⟨fun e=>by subst e;exact hs rfl,fun e=>by subst e;exact hs rfl⟩ t xo yo
 ·cases h1;cases h2
  rename_i p q
  cases op<;>simp only[EC]at hk
  case add=>exact⟨.string (p++q),by simp[eqGuard,binOp,run_string_add_sum w p q (by have:=hk.1;omega)],.val h hk.2⟩
  case eql=>exact⟨_,by simp[eqGuard,binOp,Op.stringOp,ByteArray.toList_eq]<;>rfl,.val h (by simpa using hk)⟩
  case neq=>exact⟨_,by simp[eqGuard,binOp,Op.stringOp,ByteArray.toList_eq]<;>rfl,.val h (by simpa using hk)⟩
 ·exact hk.elim
theorem Yx(h:eN G c H w){op:UnOp}{x:D}{u:Value}(h1:eu c w u x)(hk:zN op x H K) :
  ∃ r,(Op.unary op u).run P w = .ok r w∧gA G c H w K r w:=by
 unfold zN at hk
 split at hk
 ·cases h1;exact⟨_,by simp[Op.unary]<;>rfl,.val h hk⟩
 ·cases h1
  rename_i n
  have:(0-n) = -n:=by omega
  exact⟨_,by simp[Op.unary,Op.intArith,wrap_i64 hk.1]<;>rfl,.val h hk.2⟩
 ·cases h1;exact⟨_,by simp[Op.unary,Op.intBits]<;>rfl,.val h (by simpa[bits]using hk)⟩
 ·exact hk.elim
theorem vf{d:D}{v:Value}{cs:List D}(hr:eu c w v d)(hc:cellsOf d=some cs):Cells c w v.cells.toList cs:=by
 have key:∀ {v:Value} {d:D},eu c w v d→v.oneCell'=true→v.cells = #[v]→Cells c w v.cells.toList [d]:=fun{v d} hr h1 hv=>by
  rw[hv]
  exact⟨rfl,by simpa using h1,fun i u e hu he=>by
   cases i with
   | zero=>simp at hu he;subst hu;subst he;exact hr
   | succ i=>simp at hu⟩
 cases hr with
 | any v=>simp[cellsOf]at hc
 | val v=>
  simp only[cellsOf]at hc
  split at hc
  ·rename_i h1
   cases hc
   refine key (.val v) h1 ?_
   cases v<;>first|rfl|(simp[Value.oneCell']at h1)
  ·cases hc
 | agg vs ds hl h1 h=>
  simp only[cellsOf,aq]at hc
  subst hc
  exact⟨by simpa[Value.cells]using hl,by simpa[Value.cells]using h1,fun i v d hv hd=>h i v d (by simpa[Value.cells]using hv) hd⟩
 | tup=>simp[cellsOf]at hc
 | sl a len cap sz es g h1 h2 h3 h4 h5 h6 h7=>simp only[cellsOf,aq]at hc;subst hc;exact key (.sl a len cap sz es g h1 h2 h3 h4 h5 h6 h7) rfl rfl
 | emp=>simp only[cellsOf,aq]at hc;subst hc;exact key .emp rfl rfl
 | et v k sz off len cap L h1 h2 h3 h4 h5=>simp only[cellsOf,aq]at hc;subst hc;exact key (.et v k sz off len cap L h1 h2 h3 h4 h5) rfl rfl
 | kd v k sz off L h1 a=>simp only[cellsOf,aq]at hc;subst hc;exact key (.kd v k sz off L h1 a) rfl rfl
 | ptr v k off L h1 h2=>simp only[cellsOf,aq]at hc;subst hc;exact key (.ptr v k off L h1 h2) rfl rfl
 | eF b o cs g h1 h2 h3=>simp only[cellsOf,aq]at hc;subst hc;exact key (.eF b o cs g h1 h2 h3) rfl rfl
 | omap v L h1 h2=>simp only[cellsOf,aq]at hc;subst hc;exact key (.omap v L h1 h2) rfl rfl
 | fn f fs cs df dc h1 h2 h3 h4=>simp only[cellsOf,aq]at hc;subst hc;exact key (.fn f fs cs df dc h1 h2 h3 h4) rfl rfl
 | gv v L h1 h2=>simp only[cellsOf,aq]at hc;subst hc;exact key (.gv v L h1 h2) rfl rfl
theorem Yy{d:D}(h:one d=true):cellsOf d=some [d]:=by
 cases d<;>first|rfl|(simp[one]at h;done)|skip
 rename_i v
 simp only[one]at h
 simp[cellsOf,h]
theorem YK{L:Loc}(hv:L.gM=false)(h0:L.base=0)(v g:Nat):eu (c.set v g L) w (.pointer (some ⟨L.b,0,none⟩)) (.ptr v g 0):=by
 have:=eu.ptr (c:=c.set v g L) (w:=w) v g 0 L (Ctx.oB _ _ _ _) hv
 simpa[h0]using this
theorem MO(h:eN G c H w){al:Al}(fr:jS H al)(t:TypeId){v:Value}{cs:List D}(hc:Cells c w v.cells.toList cs)(hk:K (.ptr al.1 0 0) (al.2 (.row t 0 cs))) :
  ∃ w',(newVar t v).run P w = .ok ⟨w.heap.size,0,none⟩ w'∧gA G c H w K (.pointer (some ⟨w.heap.size,0,none⟩)) w':=by
 obtain⟨L,h1,h2,h3,h4,h5,h6⟩:=yU h w (ia.refl w) t v.cells.toList cs v.cells.size v.cells (fr _).oY hc (by rw[← cu,db]) (Nat.le_refl _)
 refine⟨w.alloc (.cells v.cells t),by simp[newVar,newRow],?_⟩
 have hp:=YK (c:=c) (w:=w.alloc (.cells v.cells t)) h1 h3 al.1 0
 rw[h2]at hp
 exact⟨_,_,_,hk,h5,hp,h6⟩
theorem XM(h:eN G c H w){al:Al}(fr:jS H al)(t:TypeId){x:D}{u:Value}(h1:eu c w u x)(hk:xj t x al K) :
  ∃ r w',(Instr.box t u).run P w = .ok r w'∧gA G c H w K r w':=by
 unfold xj at hk
 split at hk
 ·rename_i cs gC
  obtain⟨w',hr,hp⟩:=MO (P:=P) h fr t (vf h1 gC) hk
  exact⟨_,w',by simp[Instr.box,hr],hp⟩
 ·exact hk.elim
theorem XH(h:eN G c H w){al:Al}(fr:jS H al){t:TypeId}{z:List D}(hz:mw P t=some z)(hk:K (.ptr al.1 0 0) (al.2 (.row t 0 z))) :
  ∃ r w',(Instr.alloc t true (.tuple #[])).run P w = .ok r w'∧gA G c H w K r w':=by
 obtain⟨v,hv,_,hc⟩:=sU hz w
 obtain⟨w',hr,hp⟩:=MO (P:=P) h fr t (hc c w) hk
 exact⟨_,w',by simp[Instr.alloc,hv,hr],hp⟩
theorem Cells.nk{vs us:List Value}{cs ds:List D}(h:Cells c w vs cs)(k:Cells c w us ds)(o:Nat):Cells c w (vs.take o++us++vs.drop (o+us.length)) (cs.take o++ds++cs.drop (o+ds.length)):=by
 rw[k.len]
 exact((h.take o).append k).append (h.drop _)
theorem P5(l:List Value):∀ (off:Nat) (cs:Array Value),off+l.length≤cs.size →
  ((l.zipIdx off).foldl (fun(cs:Array Value) (x:Value×Nat)=>cs.setIfInBounds x.2 x.1) cs).toList=cs.toList.take off++l++cs.toList.drop (off+l.length):=by
 induction l with
 | nil=>intro off cs _;simp
 | cons v r ih=>
  intro off cs h
  simp only[aJ]at h
  simp only[List.zipIdx_cons,cd]
  rw[ih (off+1) _ (by simp;omega)]
  simp only[Array.toList_setIfInBounds]
  have:=list_seg_step cs.toList off v r (by simp;omega)
  simpa[bf,di 1]using this
theorem PZ(cs:Array Value)(l:Array Value)(off:Nat)(h:off+l.size≤cs.size) :
  (l.zipIdx.foldl (fun(cs:Array Value) (x:Value×Nat)=>match x with|(c,j)=>cs.setIfInBounds (off+j) c) cs).toList=cs.toList.take off++l.toList++cs.toList.drop (off+l.size):=by
 have:=P5 l.toList off cs (by simpa using h)
 rw[← Array.foldl_toList,Array.toList_zipIdx]
 have e:(l.toList.zipIdx off)=(l.toList.zipIdx 0).map fun x=>(x.1,off+x.2):=by
  rw[List.zipIdx_eq_map_add]
  first|done|(simp only[di])
 rw[e,List.foldl_map]at this
 exact this
theorem CR(place:Nat→Option (Nat×Nat)):∀ (vs:List (Nat×Value)) (ps:List (Nat×Nat×List D)) (arr:Array Value) (cs rs:List D),
  Cells c w arr.toList cs→vs.length=ps.length →
  (∀ (i:Nat) (v:Nat×Value) (p:Nat×Nat×List D),vs[i]? = some v→ps[i]? = some p→place v.1=some (p.1,p.2.1)∧Cells c w v.2.cells.toList p.2.2) →
  lay ps cs=some rs→∃ lg,Instr.fill place arr vs=some lg∧Cells c w lg.toList rs
 | [],[],arr,cs,rs,hc,_,_,hl=>by simp[lay]at hl;subst hl;exact⟨arr,rfl,hc⟩
 | (i,v)::vs,(o,n,xs)::ps,arr,cs,rs,hc,hlen,h,hl=>by
  obtain⟨hp,hx⟩:=h 0 (i,v) (o,n,xs) rfl rfl
  simp only[lay]at hl
  split at hl
  ·rename_i gG
   have fL:v.cells.size=n:=by rw[← gG.1,← hx.len];simp
   have jL:o+v.cells.size≤arr.size:=by rw[fL];have:=hc.len;simp at this;omega
   simp only[Instr.fill,hp]
   rw[if_neg (by simp;omega)]
   have oS:=PZ arr v.cells o jL
   refine CR place vs ps _ _ rs ?_ (by simpa using hlen) (fun i v p hv hp=>h (i+1) v p (by simpa using hv) (by simpa using hp)) hl
   rw[oS]
   have:=hc.nk hx o
   rw[gG.1]at this
   simpa[fL]using this
  ·cases hl
theorem Ci(h:eN G c H w)(he:iP c w env a):∀ (l:List (Nat×Operand)) {ps:List (Nat×X)},rT G l=some ps →
  ps.length=l.length∧∀ (i:Nat) (x:Nat×Operand) (p:Nat×X),l[i]? = some x→ps[i]? = some p→p.1=x.1∧eu c w (a.eval x.2) (ev env p.2)
 | [],ps,hx=>by cases hx;simp
 | (i,x)::r,ps,hx=>by
  simp only[rT]at hx
  split at hx
  ·rename_i X l hX hl
   cases hx
   obtain⟨ng,oe⟩:=Ci h he r hl
   refine⟨by simp[ng],fun j y p hy hp=>?_⟩
   cases j with
   | zero=>simp at hy hp;subst hy;subst hp;exact⟨rfl,fY h he hX⟩
   | succ j=>simp at hy hp;exact oe j y p hy hp
  ·cases hx
theorem MY{fs:Array Field}:∀ {ps:List (Nat×X)} {qs:List (Nat×Nat×X)},y8 P fs ps=some qs →
  qs.length=ps.length∧∀ (i:Nat) (p:Nat×X) (q:Nat×Nat×X),ps[i]? = some p→qs[i]? = some q→q.2.2=p.2∧∃ f,fs[p.1]? = some f∧q.1=f.offset∧iC P f.type=some q.2.1
 | [],qs,h=>by cases h;simp
 | (i,x)::r,qs,h=>by
  simp only[y8]at h
  split at h
  ·rename_i f l hf hl
   simp only[ai]at h
   obtain⟨n,hn,rfl⟩:=h
   obtain⟨ng,oe⟩:=MY hl
   refine⟨by simp[ng],fun j p q hp hq=>?_⟩
   cases j with
   | zero=>simp at hp hq;subst hp;subst hq;exact⟨rfl,f,hf,rfl,hn⟩
   | succ j=>simp at hp hq;exact oe j p q hp hq
  ·cases h
theorem HC{l:List (Nat×Nat×X)}{r:List (Nat×Nat×List D)}(h:partsOf env l=some r) :
  r.length=l.length∧∀ (i:Nat) (p:Nat×Nat×X) (q:Nat×Nat×List D),l[i]? = some p→r[i]? = some q→q.1=p.1∧q.2.1=p.2.1∧cellsOf (ev env p.2.2)=some q.2.2:=by
 induction l generalizing r with
 | nil=>simp[partsOf]at h;subst h;simp
 | cons p l ih=>
  obtain⟨o,n,x⟩:=p
  simp only[partsOf]at h
  split at h
  ·rename_i cs l' gC hl
   cases h
   obtain⟨ng,oe⟩:=ih hl
   refine⟨by simp[ng],fun j p q hp hq=>?_⟩
   cases j with
   | zero=>simp at hp hq;subst hp;subst hq;exact⟨rfl,rfl,gC⟩
   | succ j=>simp at hp hq;exact oe j p q hp hq
  ·cases h
theorem C0{α:Type}{l:List α}{n i:Nat}(hl:l.length=n)(hi:i<n):∃ x,l[i]? = some x:=⟨l[i],by simp[hl▸hi]⟩
theorem XP(h:eN G c H w)(he:iP c w env a){t:TypeId}{z:List D}{ops:Array (Nat×Operand)}{ps:List (Nat×X)}{qs:List (Nat×Nat×X)}{fs:Array Field}
  (hz:mw P t=some z) (hp:rT G ops.toList=some ps) (hu:P.underlying t=some (.struct fs)) (hf:Kl P fs=true) (hq:y8 P fs ps=some qs)
  (hk:tc env z qs H K):∃ r,(Instr.build t (ops.map fun(i,x)=>(i,a.eval x))).run P w = .ok r w∧gA G c H w K r w:=by
 unfold tc at hk
 split at hk
 ·rename_i l hl
  split at hk
  ·rename_i cs gC
   obtain⟨v,hv,_,hc⟩:=sU hz w
   obtain⟨p1,p2⟩:=Ci h he ops.toList hp
   obtain⟨q1,q2⟩:=MY hq
   obtain⟨r1,r2⟩:=HC hl
   have RL:∃ places:Array (Nat×Nat),(fs.mapM fun f=>do pure (f.offset,← sizeOf f.type):Sem (Array (Nat×Nat))).run P w = .ok places w∧∀ (i:Nat) (f:Field) (n:Nat),fs[i]? = some f→iC P f.type=some n→places[i]? = some (f.offset,n):=by
    have key:∀ (l:List Field),(∀ f∈l,(iC P f.type).isSome=true)→∃ pl:List (Nat×Nat),(l.mapM fun f=>do pure (f.offset,← sizeOf f.type):Sem (List (Nat×Nat))).run P w = .ok pl w∧∀ (i:Nat) (f:Field) (n:Nat),l[i]? = some f→iC P f.type=some n→pl[i]? = some (f.offset,n):=by
     intro l
     induction l with
     | nil=>intro _;exact⟨[],by simp,by simp⟩
     | cons f l ih=>
      intro iq
      obtain⟨pl,gI,gH⟩:=ih (fun g hg=>iq g (by simp[hg]))
      obtain⟨n,hn⟩:=cK.1 (iq f (by simp))
      refine⟨(f.offset,n)::pl,?_,fun i g m hg hm=>?_⟩
      ·simp only[dt,Sem.run_bind,nL hn,Result.andThen_ok,Sem.run_pure,gI]
      ·cases i with
       | zero=>simp at hg;subst hg;rw[hn]at hm;cases hm;rfl
       | succ i=>simp at hg ⊢;exact gH i g m hg hm
    obtain⟨pl,gI,gH⟩:=key fs.toList (fun f Q1=>bQ.1 hf f (by simpa using Q1))
    refine⟨pl.toArray,?_,fun i f n hi hn=>by simpa using gH i f n (by simpa using hi) hn⟩
    rw[dB,Sem.run_map,gI]
    rfl
   obtain⟨places,gI,gH⟩:=RL
   obtain⟨lg,sy,me⟩:=CR (c:=c) (w:=w) (places[·]?) (ops.toList.map fun x=>(x.1,a.eval x.2)) l v.cells z cs (hc c w) (by simp[r1,q1,p1]) (fun i x q hx yl=>by
    simp only[ar,ai]at hx
    obtain⟨y,hy,rfl⟩:=hx
    have hi:i<ops.toList.length:=(af.1 hy).1
    obtain⟨p,sE⟩:=C0 p1 hi
    obtain⟨s,Lx⟩:=C0 (q1.trans p1) hi
    obtain⟨e1,e2⟩:=p2 i y p hy sE
    obtain⟨e3,f,KV,Q2,KW⟩:=q2 i p s sE Lx
    obtain⟨e4,e5,e6⟩:=r2 i s q Lx yl
    refine⟨?_,?_⟩
    ·rw[e1]at KV
     have:=gH _ f _ KV KW
     simp[this,e4,e5,Q2]
    ·rw[e3]at e6
     exact vf e2 e6) gC
   refine⟨.agg lg,?_,?_⟩
   ·simp only[Instr.build,Sem.run_bind,hv,Result.andThen_ok,run_underlying hu,gI]
    have:(Array.map (fun x=>(x.fst,a.eval x.snd)) ops).toList=ops.toList.map fun x=>(x.1,a.eval x.2):=by simp
    simp only[this,sy]
    rfl
   ·have:=me.agg
    exact .plain h hk (by simpa using this)
  ·exact hk.elim
 ·exact hk.elim
theorem XQ(h:eN G c H w)(he:iP c w env a){t e:TypeId}{n sz:Nat}{z:List D}{ops:Array (Nat×Operand)}{ps:List (Nat×X)}
  (hz:mw P t=some z) (hp:rT G ops.toList=some ps) (hu:P.underlying t=some (.array n e)) (hs:iC P e=some sz)
  (hk:tc env z (ps.map fun p=>(p.1*sz,sz,p.2)) H K):∃ r,(Instr.build t (ops.map fun(i,x)=>(i,a.eval x))).run P w = .ok r w∧gA G c H w K r w:=by
 unfold tc at hk
 split at hk
 ·rename_i l hl
  split at hk
  ·rename_i cs gC
   obtain⟨v,hv,_,hc⟩:=sU hz w
   obtain⟨p1,p2⟩:=Ci h he ops.toList hp
   obtain⟨r1,r2⟩:=HC hl
   obtain⟨lg,sy,me⟩:=CR (c:=c) (w:=w) (fun i=>some (i*sz,sz)) (ops.toList.map fun x=>(x.1,a.eval x.2)) l v.cells z cs (hc c w) (by simp[r1,p1]) (fun i x q hx yl=>by
    simp only[ar,ai]at hx
    obtain⟨y,hy,rfl⟩:=hx
    have hi:i<ops.toList.length:=(af.1 hy).1
    obtain⟨p,sE⟩:=C0 p1 hi
    obtain⟨e1,e2⟩:=p2 i y p hy sE
    obtain⟨e4,e5,e6⟩:=r2 i (p.1*sz,sz,p.2) q (by simp[sE]) yl
    exact⟨by simp[e4,e5,e1],vf e2 e6⟩) gC
   refine⟨.agg lg,?_,?_⟩
   ·simp only[Instr.build,Sem.run_bind,hv,Result.andThen_ok,run_underlying hu,nL hs]
    have:(Array.map (fun x=>(x.fst,a.eval x.snd)) ops).toList=ops.toList.map fun x=>(x.1,a.eval x.2):=by simp
    simp only[this,sy]
    rfl
   ·have:=me.agg
    exact .plain h hk (by simpa using this)
  ·exact hk.elim
 ·exact hk.elim
end
end Go.AL
namespace Go.AL
open Go
section
variable{P:Program}{G:GT}{c:Ctx}{H:U}{w:World}{K:gN}{env:e9}{a:Act}
theorem D2{L:Loc}(hv:L.gM=false)(h0:L.base=0)(v k sz len cap:Nat)(ht:L.top=cap*sz)(hc:len≤cap)(hm:cap≤maxLen) :
  eu (c.set v k L) w (.slice (some ⟨L.b,0,none⟩) len cap) (.et v k sz 0 len):=by
 have:=eu.et (c:=c.set v k L) (w:=w) v k sz 0 len cap L (Ctx.oB _ _ _ _) hv hc hm (by simp[h0,ht])
 simpa[h0]using this
theorem CV(zs:List Value)(z:List D)(hz:∀ c w,Cells c w zs z)(n:Nat):Cells c w (List.replicate n zs).flatten (List.replicate n z).flatten:=by
 induction n with
 | zero=>exact Cells.nil
 | succ n ih=>rw[bB,bB,aL,aL];exact(hz c w).append ih
theorem D5(zs:Array Value)(n:Nat)(h0:0<zs.size):((Array.range (n*zs.size)).map (fun i=>zs[i % zs.size]!)).toList=(List.replicate n zs.toList).flatten:=by
 apply bI
 intro i
 simp only[Array.toList_map,Array.toList_range,ar]
 by_cases hi:i<n*zs.size
 ·rw[bO hi]
  have key:∀ (n i:Nat),i<n*zs.size→(List.replicate n zs.toList).flatten[i]? = some (zs[i % zs.size]!):=by
   intro n
   induction n with
   | zero=>intro i hi;simp at hi
   | succ n ih=>
    intro i hi
    rw[bB,aL]
    by_cases hl:i<zs.size
    ·rw[ag (by simpa using hl),dF hl]
     simp[hl]
    ·rw[aj (by simpa using hl)]
     have:i-zs.size<n*zs.size:=by rw[aV]at hi;omega
     rw[show i-zs.toList.length=i-zs.size by simp,ih _ this,← Nat.mod_eq_sub_mod (by omega)]
  rw[key n i hi]
  rfl
 ·rw[aK (by simp;omega)]
  rw[aK (by simp;omega)]
  rfl
theorem XR(h:eN G c H w){al:Al}(fr:jS H al)(he:iP c w env a){t e:TypeId}{sz n:Nat}{z:List D}{ops:Array (Nat×Operand)}{ps:List (Nat×X)}
  (hu:P.underlying t=some (.slice e)) (hz:mw P e=some z) (hs:iC P e=some sz) (hp:rT G ops.toList=some ps) (pr:z.length=sz) (iu:0<sz) (jL:n*sz≤16777216)
  (hk:xk env e sz z n ps al K):∃ r w',(Instr.buildSlice t n (ops.map fun(i,x)=>(i,a.eval x))).run P w = .ok r w'∧gA G c H w K r w':=by
 unfold xk at hk
 split at hk
 ·rename_i l hl
  split at hk
  ·rename_i cs gC
   obtain⟨zv,rj,_,oc⟩:=sU hz w
   obtain⟨p1,p2⟩:=Ci h he ops.toList hp
   obtain⟨r1,r2⟩:=HC hl
   have qm:zv.cells.size=sz:=by have:=(oc c w).len;simp at this;omega
   have LB:Cells c w ((Array.range (n*sz)).map (fun i=>zv.cells[i % zv.cells.size]!)).toList (List.replicate n z).flatten:=by
    rw[← qm,D5 zv.cells n (by omega)]
    exact CV _ _ oc n
   obtain⟨lg,sy,me⟩:=CR (c:=c) (w:=w) (fun i=>some (i*sz,sz)) (ops.toList.map fun x=>(x.1,a.eval x.2)) l _ _ cs LB (by simp[r1,p1]) (fun i x q hx yl=>by
    simp only[ar,ai]at hx
    obtain⟨y,hy,rfl⟩:=hx
    have hi:i<ops.toList.length:=(af.1 hy).1
    obtain⟨p,sE⟩:=C0 p1 hi
    obtain⟨e1,e2⟩:=p2 i y p hy sE
    obtain⟨e4,e5,e6⟩:=r2 i (p.1*sz,sz,p.2) q (by simp[sE]) yl
    exact⟨by simp[e4,e5,e1],vf e2 e6⟩) gC
   have hlen:lg.size=n*sz:=by
    have h1:=me.len
    have h2:cs.length=(List.replicate n z).flatten.length:=by
     clear hk me sy h1 LB
     have key:∀ (ps:List (Nat×Nat×List D)) (cs rs:List D),lay ps cs=some rs→rs.length=cs.length:=by
      intro ps
      induction ps with
      | nil=>intro cs rs h;simp[lay]at h;subst h;rfl
      | cons p ps ih=>
       intro cs rs h
       obtain⟨o,m,xs⟩:=p
       simp only[lay]at h
       split at h
       ·rw[ih _ _ h];simp;omega
       ·cases h
     exact key _ _ _ gC
    rw[h2]at h1
    simp[pr]at h1
    exact h1
   obtain⟨L,h1,h2,h3,h4,h5,h6⟩:=yU h w (ia.refl w) e lg.toList cs lg.size lg (fr _).oY me (by rw[← cu,db]) (Nat.le_refl _)
   refine⟨.slice (some ⟨w.heap.size,0,none⟩) n n,w.alloc (.cells lg e),?_,?_⟩
   ·have R4:¬ n*sz>2 ^ 24:=by omega
    simp only[Instr.buildSlice,Sem.run_bind,run_underlying hu,Result.andThen_ok,nL hs,Sem.run_ite]
    rw[if_neg R4]
    have K9:(Array.map (fun x=>(x.fst,a.eval x.snd)) ops).toList=ops.toList.map fun x=>(x.1,a.eval x.2):=by simp
    by_cases h0:n*sz=0
    ·have hn:n=0:=by
      rcases Nat.mul_eq_zero.1 h0 with h|h<;>omega
     subst hn
     simp only[b8]at sy
     simp only[b8,if_true,Sem.run_pure,Result.andThen_ok,K9]
     have e0:(Array.map (fun x=>(#[]:Array Value)[x % (#[]:Array Value).size]!) (Array.range 0))=Array.map (fun i=>zv.cells[i % zv.cells.size]!) (Array.range 0):=by simp
     rw[e0,sy]
     simp[newRow]
    ·rw[if_neg h0]
     simp only[Sem.run_bind,rj,Result.andThen_ok,Sem.run_pure,K9,sy]
     simp[newRow]
   ·have hp:=D2 (c:=c) (w:=w.alloc (.cells lg e)) h1 h3 al.1 0 sz n n (by rw[h4,hlen]) (Nat.le_refl _) (by
     have:n≤n*sz:=Nat.le_mul_of_pos_right n iu
     unfold maxLen;omega)
    rw[h2]at hp
    exact⟨_,_,_,hk,h5,hp,h6⟩
  ·exact hk.elim
 ·exact hk.elim
theorem Zi{t:TypeId}{n:Nat}(hs:iC P t=some n){v:Value}(hv:v.cells.size=n)(b o:Nat) :
  (Instr.storeAt t (.pointer (some ⟨b,o,none⟩)) v).run P w=(storeCells ⟨b,o,none⟩ v.cells.toList).run P w:=by
 simp[Instr.storeAt,Instr.sureAddr,storeVar,nL hs,hv]
theorem MR(h:eN G c H w){v g o:Nat}{t t':TypeId}{cs xs:List D}(hv:H[v]? = some (.row t' g cs)){u x:Value}(hu:eu c w u (.ptr v g o)){n:Nat}(hs:iC P t=some n)
  (hx:Cells c w x.cells.toList xs) (hn:xs.length=n) (jL:o+n≤cs.length) (hk:K .any (H.set v (.row t' g (cs.take o++xs++cs.drop (o+n))))) :
  ∃ w',(Instr.storeAt t u x).run P w = .ok () w'∧gA G c H w K undef w':=by
 cases hu with
 | ptr _ _ _ L eC fH=>
  obtain⟨arr,h1,h2,h3,h4⟩:=sR h hv eC fH
  have ql:x.cells.size=n:=by have:=hx.len;simp at this;omega
  have eH:=run_storeCells_at P L.b (L.base+o) t' x.cells.toList 0 arr w h1 (by simp;omega) hx.one
  simp only[b9]at eH
  have hw:=zS h hv eC fH h1 (arr.toList.take (L.base+o)++x.cells.toList++arr.toList.drop (L.base+o+x.cells.toList.length)).toArray
   (by simp;omega) h2 (cs.take o++xs++cs.drop (o+n)) (by simp;omega) (fun i d hd=>by
    have Du:=h4.nk hx o
    rw[hn]at Du
    obtain⟨y,hy,h5,h6⟩:=Du.get hd
    refine⟨y,?_,h5,h6⟩
    rw[← hy]
    simp only[cB]
    have Sk:x.cells.toList.length=n:=by simpa using ql
    have iL:(List.take (L.base+o) arr.toList).length=L.base+o:=by simp;omega
    have ig:(List.take o (List.take cs.length (List.drop L.base arr.toList))).length=o:=by simp;omega
    by_cases c1:i<o
    ·rw[ag (by simp;omega),ag (by rw[iL];omega),ag (by simp;omega),ag (by rw[ig];omega)]
     simp only[ay,aC]
     rw[if_pos (by omega),if_pos c1,if_pos (by omega)]
    ·by_cases c2:i<o+n
     ·rw[ag (by simp;omega),aj (by rw[iL];omega),ag (by simp;omega),aj (by rw[ig];omega),iL,ig]
      congr 1
      omega
     ·have lr:i<cs.length:=by have:=(af.1 hd).1;simp at this;omega
      rw[aj (by simp;omega),aj (by simp;omega)]
      simp only[aC,ay,az,iL,ig,Sk]
      rw[if_pos (by omega)]
      congr 1
      omega)
  exact⟨_,by rw[Zi hs ql];exact eH,.any,_,c,hk,hw.1,.any _,hw.2⟩
theorem Yu(h:eN G c H w){t:TypeId}(hs:iC P t=some 1){p x:D}{u v:Value}(h1:eu c w u p)(h2:eu c w v x)(hk:zC p x H K) :
  ∃ w',(Instr.storeAt t u v).run P w = .ok () w'∧gA G c H w K undef w':=by
 unfold zC at hk
 split at hk
 ·rename_i v0 g0 o
  split at hk
  ·rename_i t' cs fu
   obtain⟨e7,Gt,hk⟩:=hk
   have hv:=oW fu
   dsimp only at hv
   refine MR h hv h1 hs (vf h2 (Yy Gt)) rfl (by omega) ?_
   have e:cs.take o ++ [x]++cs.drop (o+1)=cs.set o x:=by
    rw[cm,if_pos e7]
    simp
   rw[e]
   exact hk
  ·exact hk.elim
 ·exact hk.elim
theorem Yw(h:eN G c H w){t:TypeId}{n:Nat}(hs:iC P t=some n){p x:D}{u v:Value}(h1:eu c w u p)(h2:eu c w v x)(hk:zD n p x H K) :
  ∃ w',(Instr.storeAt t u v).run P w = .ok () w'∧gA G c H w K undef w':=by
 unfold zD at hk
 split at hk
 ·rename_i v' g' o xs GY
  split at hk
  ·rename_i t' cs fu
   obtain⟨hn,jL,hk⟩:=hk
   exact MR h (oW fu) h1 hs (vf h2 GY) hn jL hk
  ·exact hk.elim
 ·exact hk.elim
theorem X3(h:eN G c H w){t:TypeId}{f n:Nat}{fs:Array Field}{fd:Field}(hu:P.underlying t=some (.struct fs))(hf:fs[f]? = some fd)(hs:iC P fd.type=some n)(hn:0<n)
  {x:D} {u:Value} (h1:eu c w u x) (hk:xJ fd.offset x H K):∃ r,(Instr.fieldAt t u f).run P w = .ok r w∧gA G c H w K r w:=by
 have gf:∀ b o,(Instr.fieldAt t (.pointer (some ⟨b,o,none⟩)) f).run P w = .ok (.pointer (some ⟨b,o+fd.offset,none⟩)) w:=fun b o=>by
  simp only[Instr.fieldAt,Sem.run_bind,run_underlying hu,Result.andThen_ok,hf]
  simp only[Instr.sureAddr,Sem.run_pure,Result.andThen_ok,fieldPlace,Sem.run_bind,nL hs,Sem.run_ite]
  rw[if_neg (by omega)]
  simp[Addr.add_lit]
 unfold xJ at hk
 split at hk
 ·rename_i v g o
  cases h1 with
  | ptr _ _ _ L eC hv=>
   refine⟨_,gf _ _,.plain h hk ?_⟩
   have:=eu.ptr (c:=c) (w:=w) v g (o+fd.offset) L eC hv
   rwa [← bf]at this
 ·obtain⟨b,p,rfl,hF,hc⟩:=th h1
  exact⟨_,gf _ _,.plain h hk (FH hF (hc.drop _))⟩
 ·exact hk.elim
theorem MQ(h:eN G c H w){t:TypeId}{n:Nat}{b:Bool}(ha:lR P t=some b)(hs:iC P t=some n){vs:List Value}{cs:List D}(hc:Cells c w vs cs){off:Nat}
  (hk:tB off n b (.agg cs) H K):∃ r,(part t vs.toArray off).run P w = .ok r w∧gA G c H w K r w:=by
 simp only[tB]at hk
 cases b with
 | true=>
  simp only[if_true]at hk
  refine⟨.agg ((vs.drop off).take n).toArray,?_,.plain h hk.2 ((hc.drop off).take n).agg⟩
  simp[part,zt ha,nL hs,List.extract_toArray,List.take_drop]
 | false=>
  simp only[bw,if_false]at hk
  split at hk
  ·rename_i d hd
   obtain⟨v,hv,_,hr⟩:=hc.get hd
   refine⟨v,?_,.plain h hk hr⟩
   simp[part,zt ha,hv]
  ·exact hk.elim
theorem XZ(h:eN G c H w){t:TypeId}{f n:Nat}{b:Bool}{fs:Array Field}{fd:Field}(hu:P.underlying t=some (.struct fs))(hf:fs[f]? = some fd)(ha:lR P fd.type=some b)(hs:iC P fd.type=some n)
  {x:D} {u:Value} (h1:eu c w u x) (hk:tB fd.offset n b x H K):∃ r,(Instr.field t u f).run P w = .ok r w∧gA G c H w K r w:=by
 have hx:∃ cs,x = .agg cs:=by cases x<;>first|exact⟨_,rfl⟩|exact(show False from hk).elim
 obtain⟨cs,rfl⟩:=hx
 cases h1 with
 | agg vs _ hl h1 h2=>
  obtain⟨r,hr,hp⟩:=MQ h ha hs ⟨hl,h1,h2⟩ hk
  exact⟨r,by simp[Instr.field,run_underlying hu,hf,asAgg,hr],hp⟩
theorem X'(h:eN G c H w){t e:TypeId}{sz:Nat}(hu:P.underlying t=some (.slice e))(hs:iC P e=some sz)(iu:0<sz){x i:D}{u v:Value}(h1:eu c w u x)(h2:eu c w v i)(hk:yz sz x i H K) :
  ∃ r,(Instr.indexAt t u v).run P w = .ok r w∧gA G c H w K r w:=by
 have gf:∀ (ad:Addr) (len cap:Nat) (k:IntKind) (n:Int),0≤n∧n<len→(Instr.indexAt t (.slice (some ad) len cap) (.int k n)).run P w = .ok (.pointer (some (ad.add (n.toNat*sz)))) w:=fun ad len cap k n hn=>by
  simp only[Instr.indexAt,Sem.run_bind,asIntOf,Sem.run_pure,Result.andThen_ok,run_underlying hu,nL hs,Sem.run_ite]
  rw[if_pos hn]
 unfold yz at hk
 split at hk
 ·rename_i fh es k n
  obtain⟨rfl,hn,hk⟩:=hk
  cases h2
  cases h1 with
  | sl ad len cap _ _ g hlen ie iF fL lL hc hr=>
   have hi:n.toNat<es.length:=by omega
   cases ad with
   | none=>have:=lL rfl;omega
   | some ad=>
    refine⟨_,gf ad len cap k n ⟨hn.1,by omega⟩,.plain h hk ?_⟩
    have gH:es[n.toNat]? = some es[n.toNat]:=by simp[hi]
    have Q7:es.getD n.toNat []=es[n.toNat]:=by simp[hi]
    rw[Q7]
    have hl:es[n.toNat].length=fh:=fL _ (bz hi)
    obtain⟨d0,iI⟩:∃ d0,es[n.toNat][0]? = some d0:=⟨es[n.toNat][0]'(by omega),by simp⟩
    obtain⟨b,o,e,hF,_,_⟩:=hc n.toNat _ 0 d0 gH iI
    cases e
    rw[Addr.add_lit]
    refine .eF b (o+n.toNat*fh) _ (g n.toNat) hF (fun j d hd=>?_) (fun j d hd=>hr _ _ j d gH hd)
    obtain⟨b',o',e,_,h3,h4⟩:=hc n.toNat _ j d gH hd
    cases e
    exact⟨by rw[bf];exact h3,h4⟩
 ·rename_i v0 g0 fh off len k n
  obtain⟨rfl,hn,hk⟩:=hk
  cases h2
  cases h1 with
  | et _ _ _ _ _ cap L eC hv ie iF jN=>
   refine⟨_,gf _ len cap k n hn,.plain h hk ?_⟩
   rw[Addr.add_lit,bf,← aV]
   exact .ptr _ _ _ L eC hv
  | kd=>omega
 ·exact hk.elim
