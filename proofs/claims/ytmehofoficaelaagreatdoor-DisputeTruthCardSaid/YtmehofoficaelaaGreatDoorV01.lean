/- Part 1 of DisputeTruth. -/
import Derived.RangeFuncIn
import Derived.TacticsIn
import Derived.OrdersIn
import Derived.Laws.CopyRow
import Derived.Laws.AppendOwn
import Derived.Laws.OwnMore
import Derived.Laws.Concat
import Derived.Laws.Strings
import Derived.Laws.Slices
import Derived.Laws.StructEq
import Derived.Laws.BytesString
set_option linter.all false
namespace Go.AL
open Go
def ae:=@List.getElem?_eq_some_iff
def af:=@List.take_of_length_le
def ag:=@Option.bind_eq_some_iff
def ah:=@List.getElem?_append_left
def ai:=@List.getElem?_append_right
def aj:=@List.length_append
def ak:=@Option.map_eq_some_iff
def ao:=@List.mem_map
def aq:=@Option.some.injEq
def ar:=@List.length_set
def au:=@List.map_congr_left
def av:=@List.getElem?_map
def aw:=@List.mem_cons
def ax:=@List.length_pos_iff
def ay:=@List.length_eq_zero_iff
def az:=@List.append_nil
def aA:=@Option.bind_eq_bind
def aB:=@List.getElem?_set_ne
def aC:=@List.mem_iff_getElem?
def aD:=@Option.pure_def
def aF:=@List.getElem?_take
def aG:=@Option.map_some
def aH:=@List.length_cons
def aI:=@List.getElem?_drop
def aJ:=@List.append_assoc
def aK:=@List.length_take
def aL:=@List.getElem?_set_self
def aM:=@List.mem_filter
def aN:=@Nat.lt_of_lt_of_le
def aO:=@List.set_append_left
def aP:=@Array.getElem?_eq_some_iff
def aQ:=@Nat.zero_add
def aR:=@List.length_drop
def aS:=@List.mem_of_mem_take
def aT:=@List.eq_nil_iff_forall_not_mem
def aU:=@List.take_append_of_le_length
def aV:=@List.length_singleton
def aW:=@Option.getD_some
def aX:=@List.flatten_cons
def aY:=@List.map_id
def aZ:=@List.eq_nil_of_length_eq_zero
def a7:=@Nat.add_assoc
def a8:=@List.mem_cons_of_mem
def bf:=@Array.getElem?_modify
def bg:=@List.pairwise_cons
def bh:=@List.mem_flatten
def bj:=@List.mem_range
def bk:=@Nat.add_mul
def bn:=@List.replicate_succ
def bp:=@List.nil_append
def bq:=@List.mem_of_mem_drop
def br:=@Nat.mul_le_mul_right
def bt:=@List.mem_append_left
def bw:=@List.drop_of_length_le
def bz:=@Bool.false_eq_true
def bA:=@Array.getElem?_toList
def bB:=@List.mem_append_right
def bC:=@List.ext_getElem
def bE:=@Nat.lt_or_ge
def bF:=@Int.toNat_natCast
def bG:=@List.pairwise_iff_getElem
def bH:=@List.drop_eq_getElem_cons
def bI:=@List.mem_flatMap
def bJ:=@List.getElem?_range
def bK:=@List.flatMap_append
def bL:=@Array.toArray_toList
def bM:=@Bool.or_eq_true
def bN:=@List.pairwise_append
def bO:=@Int.emod_lt_of_pos
def bP:=@List.getElem_mem
def bQ:=@List.cons_append
def bR:=@List.drop_eq_nil_of_le
def bS:=@List.getElem?_set
def bT:=@List.ext_getElem?
def bU:=@List.take_append_drop
def bV:=@Nat.sub_self
def bW:=@Int.emod_nonneg
def bX:=@Option.some.inj
def bY:=@List.map_map
def bZ:=@List.drop_drop
def b6:=@Int.toNat_of_nonneg
def b7:=@List.foldl_cons
def b9:=@Array.getElem?_eq_getElem
def cd:=@Nat.eq_of_beq_eq_true
def cj:=@List.getElem?_eq_none
def cu:=@Ne.symm
def cy:=@Classical.choose_spec
def cz:=@Nat.add_zero
def cA:=@Nat.succ_mul
def cD:=@Array.size_append
def cE:=@List.set_eq_take_append_cons_drop
def cF:=@Array.getElem?_append_left
def cG:=@Array.all_eq_true_iff_forall_mem
def cH:=@List.range'_succ
def cI:=@List.exists_mem_of_ne_nil
def cJ:=@Array.getElem?_setIfInBounds_ne
def cK:=@List.range_eq_range'
def cL:=@List.nodup_cons
def cM:=@Nat.pow_le_pow_right
def cN:=@List.nodup_append
def cO:=@Prod.ext
def cP:=@List.countP_cons
def cQ:=@Nat.zero_mul
def cS:=@Array.getD_eq_getD_getElem?
def cT:=@List.mem_filterMap
def cU:=@List.countP_append
def cV:=@List.length_nil
def cW:=@Nat.le_of_ble_eq_true
def cY:=@List.size_toArray
def cZ:=@List.contains_eq_mem
def c8:=@Option.isSome_iff_exists
def c9:=@Array.length_toList
def da:=@Array.toList_append
def db:=@List.getElem?_cons_succ
def de:=@List.cons.injEq
def dh:=@List.filter_append
def dj:=@List.find?_eq_none
def dm:=@List.take_add_one
def dp:=@Bool.not_eq_true'
def dq:=@Nat.add_comm
def dt:=@List.getElem?_toArray
def du:=@List.contains_iff_mem
def dw:=@List.set_append_right
def dy:=@Array.getElem?_mapIdx
def dz:=@List.countP_le_length
def dA:=@List.take_length
def dB:=@Prod.mk.injEq
def dC:=@List.findIdx?_eq_none_iff
def dD:=@List.mem_or_eq_of_mem_set
def dF:=@Bool.decide_and
def dH:=@List.mem_take_iff_getElem
def dJ:=@List.Sublist.append_left
def dK:=@Nat.mul_comm
def dM:=@Int.add_sub_cancel
def dO:=@List.map_replicate
def dQ:=@Option.toList_some
def dR:=@List.take_take
def dS:=@Int.le_refl
def dT:=@List.findIdx?_eq_some_iff_getElem
def dW:=@Array.getElem?_eq_none
def dX:=@List.sublist_cons_self
def dY:=@List.append_eq_nil_iff
def dZ:=@Bool.true_and
def ea:=@List.isEmpty_iff
def ec:=@Array.mem_filter
def ef:=@List.not_mem_nil
def ei:=@List.flatten_nil
def eo:=@List.length_filter_eq_length_iff
def et:=@List.set_getElem_self
def eu:=@List.length_mergeSort
def ew:=@Iff.rfl
def ey:=@List.length_replicate
def eA:=@Nat.pow_succ
def eC:=@List.replicate_succ'
def eD:=@List.drop_append_of_le_length
def eE:=@Array.getElem?_push
def eF:=@List.replicate_zero
def eG:=@Nat.mul_le_mul_left
def eH:=@List.flatten_append
def eI:=@List.filter_eq_self
def eJ:=@List.mapM_cons
def eM:=@List.take_zero
def eN:=@Int.toNat_zero
def eO:=@List.drop_zero
def eP:=@Nat.mul_one
def eQ:=@Nat.eq_zero_or_pos
def eR:=@Int.add_assoc
def eT:=@List.exists_cons_of_ne_nil
def eU:=@Function.comp_def
def eV:=@List.pairwise_map
def eW:=@Int.not_lt
def eX:=@Array.mapM_eq_mapM_toList
def eY:=@List.mem_of_find?_eq_some
def eZ:=@Nat.mod_eq_of_lt
def e7:=@Nat.sub_zero
def e9:=@List.nodup_range
def fe:=@Nat.le_add_right
def ff:=@List.drop_append
def fg:=@Nat.le_of_not_lt
def fh:=@Nat.mul_le_mul_right_iff
def fj:=@List.length_erase_of_mem
def fm:=@List.length_filterMap_le
def fo:=@Array.toList_inj
def fq:=@List.pairwise_mergeSort
def fr:=@List.getElem?_cons_zero
def ft:=@List.append_inj
def fu:=@List.length_pos_of_mem
def fw:=@List.length_eq_one_iff
def fy:=@List.singleton_append
def fD:=@Bool.decide_or
def fE:=@List.Pairwise.sublist
def fF:=@List.perm_append_comm
def fG:=@Nat.not_lt
def fH:=@Nat.mul_assoc
def fJ:=@Nat.min_zero
def fL:=@Int.le_trans
theorem o9{A P:Prop}(k:P)(a:A:=by first|omega|(dsimp only;omega)):A/\P:=⟨a,k⟩
theorem pI{A B P:Prop}(k:P)(a:A:=by first|omega|(dsimp only;omega))(b:B:=by first|omega|(dsimp only;omega)):A/\B/\P:=⟨a,b,k⟩
theorem gI{A B C P:Prop}(k:P)(a:A:=by first|omega|(dsimp only;omega))(b:B:=by first|omega|(dsimp only;omega))(c:C:=by first|omega|(dsimp only;omega)):A/\B/\C/\P:=⟨a,b,c,k⟩
theorem zY{A B C D P:Prop}(k:P)(a:A:=by first|omega|(dsimp only;omega))(b:B:=by first|omega|(dsimp only;omega))(c:C:=by first|omega|(dsimp only;omega))(d:D:=by first|omega|(dsimp only;omega)):A/\B/\C/\D/\P:=⟨a,b,c,d,k⟩
theorem im{A B:Prop}(a:A:=by first|omega|(dsimp only;omega))(b:B:=by first|omega|(dsimp only;omega)):A/\B:=⟨a,b⟩
theorem l4{A B C:Prop}(a:A:=by first|omega|(dsimp only;omega))(b:B:=by first|omega|(dsimp only;omega))(c:C:=by first|omega|(dsimp only;omega)):A/\B/\C:=⟨a,b,c⟩
inductive D where
 | any
 | val (v:Value)
 | agg (cs:List D)
 | tup (cs:List D)
 | sl (sz:Nat) (es:List (List D))
 | fX
 | lS (vs:List Value)
 | fM (v g sz off len:Nat)
 | ptr (v g off:Nat)
 | gi (cs:List D)
 | gx (v:Nat)
 | fn (fn:Fn) (first captured:List D)
 | iP (v:Nat)
 deriving Inhabited
abbrev D.i(n:Int):D:=.val (.int .i64 n)
abbrev D.b(x:Bool):D:=.val (.bool x)
abbrev Env:=List (Nat×D)
def Env.get:Env->Nat->D
 | [],_=>.any
 | (k,d)::r,j=>match Nat.beq k j with
  | true=>d
  | false=>Env.get r j
theorem Env.wD(k:Nat)(d:D)(r:Env)(j:Nat):Env.get ((k,d)::r) j=if k=j then d else Env.get r j:=by
 simp only[Env.get]
 by_cases h:k=j
 .simp_all
 .have:Nat.beq k j=false:=by
   cases a:Nat.beq k j with
   | false=>rfl
   | true=>exact absurd (cd a) h
  rw[if_neg h,this]
structure Loc where
 b:Nat
 base:Nat
 top:Nat
 jG:Bool:=false
structure Ctx where
 ι:Nat->Nat->Option Loc
 F:Nat->Prop
 RT:Nat->Option (Nat×Array Tmp×Code×Code)
inductive fR(c:Ctx)(w:World):Value->D->Prop
 | any (v:Value):fR c w v .any
 | val (v:Value):fR c w v (.val v)
 | agg (vs:List Value) (ds:List D) (hl:vs.length=ds.length) (h1:∀v∈vs,v.oneCell'=true)
   (h:∀(i:Nat) (v:Value) (d:D),vs[i]? = some v->ds[i]? = some d->fR c w v d):fR c w (.agg vs.toArray) (.agg ds)
 | tup (vs:List Value) (ds:List D) (hl:vs.length=ds.length)
   (h:∀(i:Nat) (v:Value) (d:D),vs[i]? = some v->ds[i]? = some d->fR c w v d):fR c w (.tuple vs.toArray) (.tup ds)
 | sl (a:Option Addr) (len cap sz:Nat) (es:List (List D)) (g:Nat->Nat->Value)
   (hlen:es.length=len) (jV:len<=cap) (iR:cap<=maxLen) (iA:∀e∈es,e.length=sz)
   (lA:a=none->cap=0)
   (hc:∀(i:Nat) (e:List D) (j:Nat) (d:D),es[i]? = some e->e[j]? = some d->∃b o,a=some ⟨b,o,none⟩/\c.F b/\w.cell? ⟨b,o+(i*sz+j),none⟩=some (g i j)/\(g i j).oneCell'=true)
   (hr:∀(i:Nat) (e:List D) (j:Nat) (d:D),es[i]? = some e->e[j]? = some d->fR c w (g i j) d):fR c w (.slice a len cap) (.sl sz es)
 | fX:fR c w (.slice none 0 0) .fX
 | lS (a:Option Addr) (vs:List Value) (iR:vs.length<=maxLen) (lA:a=none->vs = [])
   (hc:∀(i:Nat) (v:Value),vs[i]? = some v->∃b o,a=some ⟨b,o,none⟩/\c.F b/\w.cell? ⟨b,o+i,none⟩=some v/\v.oneCell'=true):fR c w (.slice a vs.length vs.length) (.lS vs)
 | fM (v k sz off len cap:Nat) (L:Loc) (gf:c.ι v k=some L) (hv:L.jG=false) (jV:len<=cap) (iR:cap<=maxLen)
   (mo:L.base+(off+cap)*sz<=L.top):fR c w (.slice (some ⟨L.b,L.base+off*sz,none⟩) len cap) (.fM v k sz off len)
 | mh (v k sz off:Nat) (L:Loc) (gf:c.ι v k=some L) (a:Option Addr):fR c w (.slice a 0 0) (.fM v k sz off 0)
 | ptr (v k off:Nat) (L:Loc) (gf:c.ι v k=some L) (hv:L.jG=false):fR c w (.pointer (some ⟨L.b,L.base+off,none⟩)) (.ptr v k off)
 | gi (b o:Nat) (cs:List D) (g:Nat->Value) (hF:c.F b)
   (hc:∀(j:Nat) (d:D),cs[j]? = some d->w.cell? ⟨b,o+j,none⟩=some (g j)/\(g j).oneCell'=true)
   (hr:∀(j:Nat) (d:D),cs[j]? = some d->fR c w (g j) d):fR c w (.pointer (some ⟨b,o,none⟩)) (.gi cs)
 | gx (v:Nat) (L:Loc) (gf:c.ι v 0=some L) (hv:L.jG=false):fR c w (.map (some L.b)) (.gx v)
 | fn (fn:Fn) (fs cs:List Value) (df dc:List D) (jR:fs.length=df.length) (jy:cs.length=dc.length)
   (h1:∀(i:Nat) (v:Value) (d:D),fs[i]? = some v->df[i]? = some d->fR c w v d)
   (h2:∀(i:Nat) (v:Value) (d:D),cs[i]? = some v->dc[i]? = some d->fR c w v d):fR c w (.func fn fs.toArray cs.toArray) (.fn fn df dc)
 | iP (v:Nat) (L:Loc) (gf:c.ι v 0=some L) (hv:L.jG=false):fR c w (.func (.yield L.b) #[] #[]) (.iP v)
inductive KK where
 | int (k:IntKind)
 | str
 | bool
 | ints (l:List IntKind)
 deriving Inhabited,DecidableEq
def sQ:List IntKind->List Value->Bool
 | [],[]=>true
 | k::ks,.int k' _::vs=>k == k'&&sQ ks vs
 | _,_=>false
def KK.has:KK->Value->Bool
 | .int k,.int k' _=>k == k'
 | .str,.string _=>true
 | .bool,.bool _=>true
 | .ints l,.agg cs=>sQ l cs.toList
 | _,_=>false
inductive p9 where
 | ready|busy|AG|y6 (id:Nat)
 deriving Inhabited,DecidableEq
inductive Ob where
 | row (t:TypeId) (g:Nat) (cs:List D)
 | map (kk:KK) (es:List (Value×D))
 | ia (rf:Nat) (env:Env) (st:p9)
 | sn (s:ByteArray) (pos:Nat)
 | iX (m:D) (since:Nat) (seen:List Nat)
 | jv
 | dead
 | lL
 deriving Inhabited
def Ob.alive:Ob->Bool
 | .dead | .lL=>false
 | _=>true
def Ob.gen:Ob->Nat
 | .row _ g _=>g
 | _=>0
abbrev U:=List Ob
def lQ(c:Ctx)(H:U)(v:Nat)(L:Loc):Prop:=∃o,H[v]? = some o/\o.alive=true/\c.ι v o.gen=some L
def l7(c:Ctx)(H:U)(b:Nat):Prop:=∃v L,lQ c H v L/\L.jG=false/\L.b=b
def Fa(c:Ctx)(w:World)(arr:Array MapEntry)(a:Nat)(es:List (Value×D)):Prop:=
 arr.size=es.length/\(∀(i:Nat) (e:MapEntry) (x:Value×D),arr[i]? = some e->es[i]? = some x->e.key=x.1/\fR c w e.val x.2/\e.born=i)/\a=es.length
def p9.is:p9->Loop->Prop
 | .ready,r=>r.state = .ready/\r.pending=none
 | .busy,r=>r.state = .busy
 | .AG,r=>r.state = .done/\r.pending=some .ret
 | .y6 id,r=>r.state = .done/\r.pending=some (.exit id)
def gV(c:Ctx)(w:World):Option Loc->Ob->Prop
 | _,.dead=>True
 | L,.lL=>L=none
 | none,_=>False
 | some L,.row t _ cs=>if L.jG then cs = []else
   ∃arr:Array Value,w.heap[L.b]? = some (.cells arr t (0,0))/\L.top=arr.size/\L.base+cs.length<=L.top /\
    ∀(i:Nat) (d:D),cs[i]? = some d->∃v,arr[L.base+i]? = some v/\v.oneCell'=true/\fR c w v d
 | some L,.map kk es=>L.jG=false/\(∀x∈es,kk.has x.1=true)/\∃arr a,w.heap[L.b]? = some (.map arr a)/\Fa c w arr a es
 | some L,.ia rf env st=>L.jG=false/\∃r:Loop,w.heap[L.b]? = some (.loop r)/\(∀k,fR c w (r.tmps.getD k undef) (env.get k)) /\
   (∃N,c.RT rf=some (N,r.params,r.assign,r.body)/\N<=r.tmps.size)/\st.is r
 | some L,.sn s p=>L.jG=false/\L.base=0/\w.heap[L.b]? = some (.stringIter s p)
 | some L,.iX m since seen=>L.jG=false/\L.base=0/\∃b:Nat,fR c w (.map (some b)) m/\w.heap[L.b]? = some (.mapIter (some b) since seen.toArray since)
 | some L,.jv=>L.jG=true\/w.heap[L.b]? = some (.deferred (some []))
structure HeapOK(c:Ctx)(H:U)(w:World):Prop where
 inj:∀v v' L L',lQ c H v L->lQ c H v' L'->L.jG=false->L'.jG=false->L.b=L'.b->v=v'
 lt:∀b,l7 c H b->b<w.heap.size
 nF:∀b,l7 c H b->¬c.F b
 kG:∀b,c.F b->b<w.heap.size
 out:∀v k,H.length<=v->c.ι v k=none
 mn:∀v o k,H[v]? = some o->(o = .lL\/(o.alive=true/\o.gen<k))->c.ι v k=none
 ob:∀(v:Nat) (o:Ob),H[v]? = some o->gV c w (c.ι v o.gen) o
structure Step(n:Nat)(c:Ctx)(H:U)(w:World)(c':Ctx)(H':U)(w':World):Prop where
 os:w'.os=w.os/\w.drawn<=w'.drawn
 tape:w'.tape=w.tape
 output:w'.output=w.output
 size:w.heap.size<=w'.heap.size
 RT:c'.RT=c.RT
 Fm:∀b,c.F b->c'.F b
 Fn:∀b,c'.F b->c.F b\/w.heap.size<=b\/l7 c H b
 kept:∀b,b<w.heap.size->¬l7 c H b->w'.heap[b]? = w.heap[b]?
 old:∀v k L,v<n->c.ι v k=some L->c'.ι v k=some L
 own:∀b,l7 c' H' b->w.heap.size<=b\/l7 c H b
theorem Step.refl(n:Nat)(c:Ctx)(H:U)(w:World):Step n c H w c H w:=
 ⟨⟨rfl,Nat.le_refl _⟩,rfl,rfl,Nat.le_refl _,rfl,λ_ h=>h,λ_ h=>.inl h,λ_ _ _=>rfl,λ_ _ _ _ h=>h,λ_ h=>.inr h⟩
theorem Step.trans{n m:Nat}{c d c2:Ctx}{H H1 H2:U}{w w1 w2:World}(h1:Step n c H w d H1 w1)(a:Step m d H1 w1 c2 H2 w2)(f:n<=m) :
  Step n c H w c2 H2 w2 where
 os:=⟨a.os.1.trans h1.os.1,Nat.le_trans h1.os.2 a.os.2⟩
 tape:=a.tape.trans h1.tape
 output:=a.output.trans h1.output
 size:=Nat.le_trans h1.size a.size
 RT:=a.RT.trans h1.RT
 Fm b h:=a.Fm b (h1.Fm b h)
 Fn b h:=by
  rcases a.Fn b h with h|h|h
  .exact h1.Fn b h
  .exact .inr (.inl (Nat.le_trans h1.size h))
  .rcases h1.own b h with h|h
   .grind
   .grind
 kept b hb hn:=by
  rw[a.kept b (aN hb h1.size) (λe=>?_),h1.kept b hb hn];rcases h1.own b e with h|h
  .omega
  .exact hn h
 old v k L hv h:=a.old v k L (by omega) (h1.old v k L hv h)
 own b h:=by
  rcases a.own b h with h|h
  .exact .inl (Nat.le_trans h1.size h)
  .exact h1.own b h
theorem Step.weaken{n m:Nat}{c c':Ctx}{H H':U}{w w':World}(h:Step n c H w c' H' w')(b:m<=n):Step m c H w c' H' w':=
 { h with old:=λv k L a=>h.old v k L (by omega) }
theorem FB{w w':World}{a:Addr}(h:w'.heap[a.block]? = w.heap[a.block]?):w'.cell? a=w.cell? a:=by simp[World.cell?,h]
theorem fR.carry{c c':Ctx}{w w':World}(s:∀v k L,c.ι v k=some L->c'.ι v k=some L)(B:∀b,c.F b->c'.F b)
  (t:∀b o,c.F b->w'.cell? ⟨b,o,none⟩=w.cell? ⟨b,o,none⟩) {v:Value} {d:D} (h:fR c w v d):fR c' w' v d:=by
 induction h with
 | any v=>exact .any _
 | val v=>exact .val _
 | agg vs ds hl h1 h n=>exact .agg vs _ hl h1 n
 | tup vs ds hl h n=>exact .tup vs _ hl n
 | sl a len cap sz es g q y p I x r J n=>
  refine .sl a len cap sz _ g q y p I x ?_ n;intro i e j d K z;obtain⟨b,o,A,m,u,h1⟩:=r i e j d K z;exact⟨b,o,A,B b m,by rw[t b _ m];exact u,h1⟩
 | fX=>exact .fX
 | lS a vs p x r=>
  refine .lS a vs p x ?_;intro i v l;obtain⟨b,o,A,m,u,h1⟩:=r i v l;exact⟨b,o,A,B b m,by rw[t b _ m];exact u,h1⟩
 | fM v k sz off len cap L h l y p F=>exact .fM v k sz off len cap L (s _ _ _ h) l y p F
 | mh v k sz off L h a=>exact .mh v k sz off L (s _ _ _ h) a
 | ptr v k off L h l=>exact .ptr v k off L (s _ _ _ h) l
 | gi b o cs g m r J n=>
  refine .gi b o _ g (B b m) ?_ n;intro j d z;rw[t b _ m];exact r j d z
 | gx v L h l=>exact .gx v L (s _ _ _ h) l
 | fn f fs cs N O H G h1 M E C=>exact .fn f fs cs _ _ H G E C
 | iP v L h l=>exact .iP v L (s _ _ _ h) l
theorem fR.step{n:Nat}{c c':Ctx}{H H':U}{w w':World}(e:HeapOK c H w)(hs:Step n c H w c' H' w')(i:H.length<=n){v:Value}{d:D}(h:fR c w v d) :
  fR c' w' v d:=by
 refine h.carry (λv k L a=>hs.old v k L ?_ a) hs.Fm (λb o f=>FB (hs.kept b (e.kG b f) (λg=>e.nF b g f)));rcases bE v H.length with h|h
 .omega
 .rw[e.out v k h]at a;cases a
theorem fR.pJ{c c':Ctx}{H H':U}{w w':World}(a:HeapOK c H w)(hs:Step H.length c H w c' H' w'){v:Value}{d:D}(h:fR c w v d):fR c' w' v d:=
 h.step a hs (Nat.le_refl _)
inductive X where
 | t (k:Nat)
 | c (d:D)
 deriving Inhabited
abbrev gL:=Nat->D
def ev(env:gL):X->D
 | .t k=>env k
 | .c d=>d
def cellsOf:D->Option (List D)
 | .agg cs=>some cs
 | .any | .tup _=>none
 | .val v=>if v.oneCell' then some [.val v]else none
 | d=>some [d]
def one:D->Bool
 | .any | .tup _ | .agg _=>false
 | .val v=>v.oneCell'
 | _=>true
mutual
def closed:D->Bool
 | .any | .val _ | .fX | .lS _=>true
 | .agg cs | .tup cs | .gi cs=>gw cs
 | .sl _ es=>CZ es
 | .fM .. | .ptr .. | .gx _ | .iP _=>false
 | .fn _ a b=>gw a&&gw b
def gw:List D->Bool
 | []=>true
 | d::ds=>closed d&&gw ds
def CZ:List (List D)->Bool
 | []=>true
 | e::es=>gw e&&CZ es
end
def nI:Value->Value->Bool
 | .int k a,.int k' b=>k == k'&&a == b
 | .string a,.string b=>a == b
 | .bool a,.bool b=>a == b
 | .agg a,.agg b=>a.size == b.size&&(a.toList.zip b.toList).all λ(x,y)=>match x,y with
  | .int k a,.int k' b=>k == k'&&a == b
  | _,_=>false
 | _,_=>false
def Hl:List D->Option (List Value)
 | []=>some []
 | .val (.int k n)::r=>(Hl r).map (.int k n :: ·)
 | _::_=>none
def keyOf:D->Option Value
 | .val (.int k n)=>some (.int k n)
 | .val (.string s)=>some (.string s)
 | .val (.bool b)=>some (.bool b)
 | .agg cs=>(Hl cs).map λl=>.agg l.toArray
 | _=>none
def se:Value->D
 | .agg cs=>.agg (cs.toList.map .val)
 | v=>.val v
def qm:List (Value×D)->Value->Option D
 | [],_=>none
 | (k,d)::r,j=>if nI j k then some d else qm r j
def mg:List (Value×D)->Value->D->List (Value×D)
 | [],j,x=>[(j,x)]
 | (k,d)::r,j,x=>if nI j k then(j,x)::r else(k,d)::mg r j x
inductive mq where
 | int|bool|str
 deriving Inhabited,DecidableEq
inductive Ar where
 | slice|string|map
 deriving Inhabited,DecidableEq
inductive iD where
 | mv (x:X)
 | pick (c a b:X)
 | box (t:TypeId) (x:X)
 | alloc (t:TypeId) (z:List D)
 | build (z:List D) (ps:List (Nat×Nat×X))
 | buildSl (t sz:Nat) (z:List D) (n:Nat) (ps:List (Nat×X))
 | ld1 (x:X)
 | ldN (n:Nat) (x:X)
 | st1 (a x:X)
 | stN (n:Nat) (a x:X)
 | nilck (x:X)
 | arith (op:BinOp) (x y:X)
 | eqS (jE:Bool) (ls:List mq) (neg:Bool) (x y:X)
 | un (op:UnOp) (x:X)
 | conv (k:IntKind) (x:X)
 | b2s (x:X)
 | mkfn (fn:Fn) (first captured:List X)
 | mkmap (kk:KK)
 | mksl (t sz bytes:Nat) (z:List D) (l c:X)
 | slc (sz:Nat) (x:X) (lo hi:Option X)
 | slcS (x:X) (lo hi:Option X)
 | slc3 (sz:Nat) (x:X) (lo:Option X) (hi mx:X)
 | slcArr (sz n:Nat) (x:X) (lo hi:Option X)
 | fieldA (off:Nat) (x:X)
 | field (off n:Nat) (jE:Bool) (x:X)
 | idxA (sz:Nat) (x i:X)
 | idxArr (sz n:Nat) (x i:X)
 | idx (sz n:Nat) (jE:Bool) (x i:X)
 | idxStr (x i:X)
 | lookup (kk:KK) (z:D) (ok:Bool) (m k:X)
 | mapUpd (kk:KK) (m k v:X)
 | ext (x:X) (i:Nat)
 | call (f:FuncId) (args:List X)
 | callN (f:FuncId) (args:List X)
 | callv (f:X) (args:List X)
 | app (t sz bytes:Nat) (x y:X)
 | copy (sz:Nat) (x y:X)
 | len (k:Ar) (x:X)
 | minmax (isMax:Bool) (xs:List X)
 | nilS (neg:Bool) (x:X)
 | capE (x:X)
 | appZ (t sz bytes:Nat) (z:List D) (x n:X)
 | clr (sz:Nat) (z:List D) (x:X)
 | rangeS (x:X)
 | nextS (x:X)
 | rangeM (x:X)
 | nextM (x:X)
 | entry (x:X)
 | mapEnt (kk:KK) (z:D) (m k:X)
 | entSt (m s x:X)
 deriving Inhabited
structure gR where
 dst:Option Nat
 op:iD
 guard:Option (Nat×Bool):=none
 deriving Inhabited
structure GT where
 g:Nat->Option (List D)
 rt:Nat->Option (Nat×Array Tmp×Code×Code)
 nw:FuncId->Bool:=λ_=>false
instance:CoeFun GT (λ_=>Nat->Option (List D)):=⟨GT.g⟩
inductive ju(c:Ctx)(w:World):List Value->List D->Prop
 | nil:ju c w [] []
 | cons {v d vs ds} (h:fR c w v d) (t:ju c w vs ds):ju c w (v::vs) (d::ds)
structure gv(G:GT)(c:Ctx)(H:U)(w:World):Prop extends HeapOK c H w where
 gl:∀(g:Nat) (cs:List D),G g=some cs->gw cs=true/\fR c w (.pointer (some ⟨g,0,none⟩)) (.gi cs)
 rt:c.RT=G.rt
abbrev jx:=D->U->Prop
abbrev Al:=Nat×(Ob->U)
def Al.last(H:U):Al:=(H.length,λob=>H ++ [ob])
def Al.lL(H:U)(v:Nat):Al:=(v,λob=>H.set v ob)
def nU(n:Int):Prop := -9223372036854775808<=n/\n<=9223372036854775807
def Fi(op:BinOp)(k:IntKind)(a b:Int)(H:U)(K:jx):Prop:=
 match op with
 | .add=>if k = .i64 then nU (a+b)/\K (.val (.int .i64 (a+b))) H else K (.val (.int k (k.wrap (a+b)))) H
 | .sub=>if k = .i64 then nU (a-b)/\K (.val (.int .i64 (a-b))) H else K (.val (.int k (k.wrap (a-b)))) H
 | .mul=>if k = .i64 then nU (a*b)/\K (.val (.int .i64 (a*b))) H else K (.val (.int k (k.wrap (a*b)))) H
 | .quo=>b≠0/\K (.val (.int k (k.wrap (a.tdiv b)))) H
 | .rem=>b≠0/\K (.val (.int k (a.tmod b))) H
 | .and | .or | .xor | .andNot=>K (.val (.int k (bits op k a b))) H
 | .eql=>K (.val (.bool (a == b))) H
 | .neq=>K (.val (.bool (a != b))) H
 | .lss=>K (.val (.bool (decide (a<b)))) H
 | .leq=>K (.val (.bool (decide (a<=b)))) H
 | .gtr=>K (.val (.bool (decide (a>b)))) H
 | .geq=>K (.val (.bool (decide (a>=b)))) H
 | _=>False
def Ih(op:BinOp)(k:IntKind)(a b:Int)(H:U)(K:jx):Prop:=
 match op with
 | .shl=>0<=b/\K (.val (.int k (k.wrap (a*2 ^ (min b.toNat k.bits))))) H
 | .shr=>0<=b/\K (.val (.int k (a.fdiv (2 ^ (min b.toNat k.bits))))) H
 | _=>False
def pF:BinOp->Bool
 | .shl | .shr=>true
 | _=>false
def OB(op:BinOp)(a b:ByteArray)(H:U)(K:jx):Prop:=
 match op with
 | .eql=>K (.val (.bool (a.data.toList == b.data.toList))) H
 | .neq=>K (.val (.bool (!(a.data.toList == b.data.toList)))) H
 | .add=>((a.size+b.size:Nat):Int)<=9223372036854775807/\K (.val (.string (a++b))) H
 | _=>False
def Fs(op:BinOp)(x y:D)(H:U)(K:jx):Prop:=
 match x,y with
 | .val (.int k a),.val (.int k' b)=>if pF op then Ih op k a b H K else k=k'/\Fi op k a b H K
 | .val (.string a),.val (.string b)=>OB op a b H K
 | _,_=>False
def IC(op:UnOp)(x:D)(H:U)(K:jx):Prop:=
 match op,x with
 | .not,.val (.bool b)=>K (.val (.bool (!b))) H
 | .neg,.val (.int .i64 n)=>nU (-n)/\K (.val (.int .i64 (-n))) H
 | .xor,.val (.int k n)=>K (.val (.int k (bits .xor k (if k.signed then -1 else k.max) n))) H
 | _,_=>False
def uc:mq->D->D->Option Bool
 | .int,.val (.int k a),.val (.int k' b)=>if k=k' then some (a == b)else none
 | .bool,.val (.bool a),.val (.bool b)=>some (a == b)
 | .str,.val (.string a),.val (.string b)=>some (a.data.toList == b.data.toList)
 | _,_,_=>none
def mr:List mq->List D->List D->Option Bool
 | [],[],[]=>some true
 | l::ls,x::xs,y::ys=>match uc l x y,mr ls xs ys with
  | some a,some b=>some (a&&b)
  | _,_=>none
 | _,_,_=>none
def wz(c:Bool)(ls:List mq)(neg:Bool)(x y:D)(H:U)(K:jx):Prop:=
 match c,x,y with
 | true,.agg a,.agg b=>match mr ls a b with
  | some r=>K (.val (.bool (if neg then !r else r))) H
  | none=>False
 | false,x,y=>match mr ls [x] [y]with
  | some r=>K (.val (.bool (if neg then !r else r))) H
  | none=>False
 | _,_,_=>False
def HN(c a b:D)(H:U)(K:jx):Prop:=
 match c with
 | .val (.bool x)=>K (if x then a else b) H
 | _=>False
def rowAt(H:U)(v k:Nat):Option (TypeId×List D):=match H[v]? with
 | some (.row t g cs)=>if g=k then some (t,cs)else none
 | _=>none
def Hm(x:D)(H:U)(K:jx):Prop:=
 match x with
 | .ptr v g o=>match rowAt H v g with
  | some (_,cs)=>match cs[o]? with
   | some d=>K d H
   | none=>False
  | none=>False
 | .gi cs=>match cs[0]? with
  | some d=>K d H
  | none=>False
 | _=>False
def Ho(n:Nat)(x:D)(H:U)(K:jx):Prop:=
 match x with
 | .ptr v g o=>match rowAt H v g with
  | some (_,cs)=>o+n<=cs.length/\K (.agg ((cs.drop o).take n)) H
  | none=>False
 | .gi cs=>n<=cs.length/\K (.agg (cs.take n)) H
 | _=>False
def Ip(a x:D)(H:U)(K:jx):Prop:=
 match a with
 | .ptr v g o=>match rowAt H v g with
  | some (t,cs)=>o<cs.length/\one x=true/\K .any (H.set v (.row t g (cs.set o x)))
  | none=>False
 | _=>False
def Iq(n:Nat)(a x:D)(H:U)(K:jx):Prop:=
 match a,cellsOf x with
 | .ptr v g o,some xs=>match rowAt H v g with
  | some (t,cs)=>xs.length=n/\o+n<=cs.length/\K .any (H.set v (.row t g (cs.take o++xs++cs.drop (o+n))))
  | none=>False
 | _,_=>False
def Fu(t:TypeId)(x:D)(al:Al)(K:jx):Prop:=
 match cellsOf x with
 | some cs=>K (.ptr al.1 0 0) (al.2 (.row t 0 cs))
 | none=>False
def lay:List (Nat×Nat×List D)->List D->Option (List D)
 | [],cs=>some cs
 | (o,n,xs)::r,cs=>if xs.length=n/\o+n<=cs.length then lay r (cs.take o++xs++cs.drop (o+n))else none
def partsOf(env:gL):List (Nat×Nat×X)->Option (List (Nat×Nat×List D))
 | []=>some []
 | (o,n,x)::r=>match cellsOf (ev env x),partsOf env r with
  | some cs,some l=>some ((o,n,cs)::l)
  | _,_=>none
def Aw(env:gL)(z:List D)(ps:List (Nat×Nat×X))(H:U)(K:jx):Prop:=
 match partsOf env ps with
 | some l=>match lay l z with
  | some cs=>K (.agg cs) H
  | none=>False
 | none=>False
def Fv(env:gL)(t sz:Nat)(z:List D)(n:Nat)(ps:List (Nat×X))(al:Al)(K:jx):Prop:=
 match partsOf env (ps.map λp=>(p.1*sz,sz,p.2))with
 | some l=>match lay l (List.replicate n z).flatten with
  | some cs=>K (.fM al.1 0 sz 0 n) (al.2 (.row t 0 cs))
  | none=>False
 | none=>False
def FY(off:Nat)(x:D)(H:U)(K:jx):Prop:=
 match x with
 | .ptr v g o=>K (.ptr v g (o+off)) H
 | .gi cs=>K (.gi (cs.drop off)) H
 | _=>False
def AT(off n:Nat)(a:Bool)(x:D)(H:U)(K:jx):Prop:=
 match x with
 | .agg cs=>if a then off+n<=cs.length/\K (.agg ((cs.drop off).take n)) H else match cs[off]? with
  | some d=>K d H
  | none=>False
 | _=>False
def G7(sz:Nat)(x i:D)(H:U)(K:jx):Prop:=
 match x,i with
 | .sl gM es,.val (.int _ n)=>gM=sz/\(0<=n/\n<es.length)/\K (.gi (es.getD n.toNat [])) H
 | .lS vs,.val (.int _ n)=>1=sz/\(0<=n/\n<vs.length)/\K (.gi [.val (vs.getD n.toNat undef)]) H
 | .fM v g gM off len,.val (.int _ n)=>gM=sz/\(0<=n/\n<len)/\K (.ptr v g ((off+n.toNat)*sz)) H
 | _,_=>False
def G8(sz n:Nat)(x i:D)(H:U)(K:jx):Prop:=
 match x,i with
 | .ptr v g o,.val (.int _ k)=>(0<=k/\k<n)/\K (.ptr v g (o+k.toNat*sz)) H
 | .gi cs,.val (.int _ k)=>(0<=k/\k<n)/\K (.gi (cs.drop (k.toNat*sz))) H
 | _,_=>False
def Ha(sz n:Nat)(a:Bool)(x i:D)(H:U)(K:jx):Prop:=
 match x,i with
 | .agg cs,.val (.int _ k)=>(0<=k/\k<n)/\AT (k.toNat*sz) sz a (.agg cs) H K
 | _,_=>False
def Hf(x i:D)(H:U)(K:jx):Prop:=
 match x,i with
 | .val (.string s),.val (.int _ k)=>(0<=k/\k<s.size)/\K (.val (.int .u8 ((s.data.toList.getD k.toNat 0).toNat))) H
 | _,_=>False
def lD(H:U)(v:Nat):Option (KK×List (Value×D)):=match H[v]? with
 | some (.map kk es)=>some (kk,es)
 | _=>none
def Hu(a:KK)(z:D)(ok:Bool)(m k:D)(H:U)(K:jx):Prop:=
 match m,keyOf k with
 | .gx v,some kv=>match lD H v with
  | some (kk,es)=>kk=a/\kk.has kv=true/\(match qm es kv with
    | some d=>K (if ok then .tup [d,.val (.bool true)]else d) H
    | none=>K (if ok then .tup [z,.val (.bool false)]else z) H)
  | none=>False
 | _,_=>False
def Hx(a:KK)(m k x:D)(H:U)(K:jx):Prop:=
 match m,keyOf k with
 | .gx v,some kv=>match lD H v with
  | some (kk,es)=>kk=a/\kk.has kv=true/\K .any (H.set v (.map kk (mg es kv x)))
  | none=>False
 | _,_=>False
def FT(x:D)(i:Nat)(H:U)(K:jx):Prop:=
 match x with
 | .tup ds=>match ds[i]? with
  | some d=>K d H
  | none=>False
 | _=>False
def HB(t sz bytes:Nat)(z:List D)(l c:D)(al:Al)(K:jx):Prop:=
 match l,c with
 | .val (.int _ n),.val (.int _ m)=>(0<=n/\n<=m/\m<=9223372036854775807/\(bytes:Int)*m<=281474976710656)/\K (.fM al.1 0 sz 0 n.toNat) (al.2 (.row t 0 (List.replicate m.toNat z).flatten))
 | _,_=>False
def gY(env:gL):Option X->Int->Option Int
 | none,n=>some n
 | some x,_=>match ev env x with
  | .val (.int _ n)=>some n
  | _=>none
def Ik(env:gL)(sz:Nat)(x:D)(lo hi:Option X)(H:U)(K:jx):Prop:=
 match x with
 | .sl a es=>match gY env lo 0,gY env hi es.length with
  | some l,some h=>a=sz/\(0<=l/\l<=h/\h<=es.length)/\K (.sl sz ((es.drop l.toNat).take (h.toNat-l.toNat))) H
  | _,_=>False
 | .fM v g a off len=>match gY env lo 0,gY env hi len with
  | some l,some h=>a=sz/\(0<=l/\l<=h/\h<=len)/\K (.fM v g sz (off+l.toNat) (h.toNat-l.toNat)) H
  | _,_=>False
 | .fX=>match gY env lo 0,gY env hi 0 with
  | some l,some h=>(l=0/\h=0)/\K .fX H
  | _,_=>False
 | _=>False
def EF:List (List D)->Option (List Value)
 | []=>some []
 | [.val v]::r=>if v.oneCell' then(match EF r with|some l=>some (v::l)|none=>none)else none
 | _::_=>none
def clip(sz:Nat)(es:List (List D)):D:=match EF es with
 | some vs=>if sz=1 then .lS vs else .sl sz es
 | none=>.sl sz es
def Ii(env:gL)(sz:Nat)(x:D)(lo:Option X)(hi mx:X)(H:U)(K:jx):Prop:=
 match gY env lo 0,gY env (some hi) 0,gY env (some mx) 0 with
 | some l,some h,some m=>match x with
  | .sl a es=>a=sz/\(0<=l/\l<=h/\h=m/\m<=es.length)/\K (clip sz ((es.drop l.toNat).take (h.toNat-l.toNat))) H
  | .fM v g a off len=>a=sz/\(0<=l/\l<=h/\h<=m/\m<=len)/\K (.fM v g sz (off+l.toNat) (h.toNat-l.toNat)) H
  | .fX=>(l=0/\h=0/\m=0)/\K .fX H
  | _=>False
 | _,_,_=>False
def Ij(env:gL)(sz n:Nat)(x:D)(lo hi:Option X)(H:U)(K:jx):Prop:=
 match x,gY env lo 0,gY env hi n with
 | .gi cs,some l,some h=>(sz=1/\n<=cs.length/\n<=16777216/\0<=l/\l<=h/\h<=n)/\K (.sl 1 (((cs.drop l.toNat).take (h.toNat-l.toNat)).map λd=>[d])) H
 | .ptr v g o,some l,some h=>match rowAt H v g with
  | some (_,cs)=>(o % sz=0/\o+n*sz<=cs.length/\n<=16777216/\0<=l/\l<=h/\h<=n)/\K (.fM v g sz (o / sz+l.toNat) (h.toNat-l.toNat)) H
  | none=>False
 | _,_,_=>False
def Et(env:gL)(x:D)(lo hi:Option X)(H:U)(K:jx):Prop:=
 match x with
 | .val (.string s)=>match gY env lo 0,gY env hi s.size with
  | some l,some h=>(0<=l/\l<=h/\h<=s.size)/\K (.val (.string (s.extract l.toNat h.toNat))) H
  | _,_=>False
 | _=>False
def kR(sz:Nat)(H:U):D->Option (List D×Nat)
 | .sl a es=>if a=sz then some (es.flatten,es.length)else none
 | .fX=>some ([],0)
 | .lS vs=>if sz=1 then some (vs.map .val,vs.length)else none
 | .fM v g a off len=>match rowAt H v g with
  | some (_,cs)=>if a=sz/\(off+len)*sz<=cs.length then some ((cs.drop (off*sz)).take (len*sz),len)else none
  | none=>none
 | _=>none
def Fh(t sz bytes:Nat)(x y:D)(H:U)(al:Al)(K:jx):Prop:=
 match kR sz H y with
 | some (ys,n)=>match x with
  | .fM v g a off len=>match rowAt H v g with
   | some (t',cs)=>(a=sz/\t'=t/\(off+len)*sz<=cs.length/\(len+n)*bytes<=140737488355328/\len+n<=9223372036854775807) /\
     K (.fM v (g+1) sz 0 (len+n)) (H.set v (.row t (g+1) ((cs.drop (off*sz)).take (len*sz)++ys)))
   | none=>False
  | .lS vs=>(n≠0/\sz=1/\(vs.length+n)*bytes<=140737488355328/\vs.length+n<=9223372036854775807)/\K (.fM al.1 0 sz 0 (vs.length+n)) (al.2 (.row t 0 (vs.map .val++ys)))
  | .fX=>if n=0 then K .fX H else(n*bytes<=140737488355328/\n<=9223372036854775807)/\K (.fM al.1 0 sz 0 n) (al.2 (.row t 0 ys))
  | _=>False
 | none=>False
def FM(sz:Nat)(x y:D)(H:U)(K:jx):Prop:=
 match x,kR sz H y with
 | .fM v g gM off len,some (ys,n)=>match rowAt H v g with
  | some (t,cs)=>(gM=sz/\(off+len)*sz<=cs.length) /\
    K (.val (.int .i64 (min n len:Nat))) (H.set v (.row t g (cs.take (off*sz)++ys.take (min n len*sz)++cs.drop (off*sz+min n len*sz))))
  | none=>False
 | .fX,some _=>K (.val (.int .i64 0)) H
 | _,_=>False
def Hq(k:Ar)(x:D)(H:U)(K:jx):Prop:=
 match k,x with
 | .slice,.sl _ es=>K (.val (.int .i64 es.length)) H
 | .slice,.fX=>K (.val (.int .i64 0)) H
 | .slice,.lS vs=>K (.val (.int .i64 vs.length)) H
 | .slice,.fM _ _ _ _ len=>K (.val (.int .i64 len)) H
 | .string,.val (.string s)=>K (.val (.int .i64 s.size)) H
 | .map,.gx v=>match lD H v with
  | some (_,es)=>K (.val (.int .i64 es.length)) H
  | none=>False
 | _,_=>False
def rE(env:gL):List X->Option (List Int)
 | []=>some []
 | x::r=>match ev env x,rE env r with
  | .val (.int .i64 n),some l=>some (n::l)
  | _,_=>none
def HA(env:gL)(d:Bool)(xs:List X)(H:U)(K:jx):Prop:=
 match rE env xs with
 | some [a,b]=>K (.val (.int .i64 (if d then max a b else min a b))) H
 | some [a,b,c]=>K (.val (.int .i64 (if d then max (max a b) c else min (min a b) c))) H
 | _=>False
def HE(x:D)(H:U)(K:jx):Prop:=
 match x with
 | .ptr v g o=>K (.ptr v g o) H
 | .gi cs=>K (.gi cs) H
 | .fn (.func f) a b=>K (.fn (.func f) a b) H
 | .iP v=>K (.iP v) H
 | _=>False
def FJ(k:IntKind)(x:D)(H:U)(K:jx):Prop:=
 match x with
 | .val (.int _ n)=>K (.val (.int k (k.wrap n))) H
 | _=>False
def bytesOf:List D->Option (List Int)
 | []=>some []
 | .val (.int .u8 n)::r=>match bytesOf r with
  | some l=>some (n::l)
  | none=>none
 | _=>none
def Fq(x:D)(H:U)(K:jx):Prop:=
 match kR 1 H x with
 | some (ys,_)=>match bytesOf ys with
  | some a=>K (.val (.string (a.foldl (λr n=>r.push (UInt8.ofNat n.toNat)) ByteArray.empty))) H
  | none=>False
 | none=>False
def Fg(env:gL)(H:U)(al:Al)(K:jx):iD->Prop
 | .mv x=>K (ev env x) H
 | .pick c a b=>HN (ev env c) (ev env a) (ev env b) H K
 | .box t x=>Fu t (ev env x) al K
 | .alloc t z=>K (.ptr al.1 0 0) (al.2 (.row t 0 z))
 | .build z ps=>Aw env z ps H K
 | .buildSl t sz z n ps=>Fv env t sz z n ps al K
 | .ld1 x=>Hm (ev env x) H K
 | .ldN n x=>Ho n (ev env x) H K
 | .st1 a x=>Ip (ev env a) (ev env x) H K
 | .stN n a x=>Iq n (ev env a) (ev env x) H K
 | .nilck x=>HE (ev env x) H K
 | .arith op x y=>Fs op (ev env x) (ev env y) H K
 | .eqS e ls neg x y=>wz e ls neg (ev env x) (ev env y) H K
 | .un op x=>IC op (ev env x) H K
 | .conv k x=>FJ k (ev env x) H K
 | .b2s x=>Fq (ev env x) H K
 | .mkfn f first cap=>K (.fn f (first.map (ev env)) (cap.map (ev env))) H
 | .mkmap kk=>K (.gx al.1) (al.2 (.map kk []))
 | .mksl t sz bytes z l c=>HB t sz bytes z (ev env l) (ev env c) al K
 | .slc sz x lo hi=>Ik env sz (ev env x) lo hi H K
 | .slcS x lo hi=>Et env (ev env x) lo hi H K
 | .slc3 sz x lo hi mx=>Ii env sz (ev env x) lo hi mx H K
 | .slcArr sz n x lo hi=>Ij env sz n (ev env x) lo hi H K
 | .fieldA off x=>FY off (ev env x) H K
 | .field off n e x=>AT off n e (ev env x) H K
 | .idxA sz x i=>G7 sz (ev env x) (ev env i) H K
 | .idxArr sz n x i=>G8 sz n (ev env x) (ev env i) H K
 | .idx sz n e x i=>Ha sz n e (ev env x) (ev env i) H K
 | .idxStr x i=>Hf (ev env x) (ev env i) H K
 | .lookup kk z ok m k=>Hu kk z ok (ev env m) (ev env k) H K
 | .mapUpd kk m k x=>Hx kk (ev env m) (ev env k) (ev env x) H K
 | .ext x i=>FT (ev env x) i H K
 | .call _ _ | .callN _ _ | .callv _ _=>False
 | .app t sz bytes x y=>Fh t sz bytes (ev env x) (ev env y) H al K
 | .copy sz x y=>FM sz (ev env x) (ev env y) H K
 | .len k x=>Hq k (ev env x) H K
 | .minmax d xs=>HA env d xs H K
 | .nilS .. | .capE .. | .appZ .. | .clr .. | .rangeS .. | .nextS .. | .rangeM .. | .nextM .. | .entry .. | .mapEnt .. | .entSt .. => False
def put(env:Env)(dst:Option Nat)(d:D):Env:=match dst with
 | some k=>(k,d)::env
 | none=>env
def Ctx.set(c:Ctx)(v k:Nat)(L:Loc):Ctx:={ c with ι:=λu l=>if u=v/\l=k then some L else c.ι u l }
theorem Ctx.sk(c:Ctx)(v k:Nat)(L:Loc):(c.set v k L).ι v k=some L:=by simp[Ctx.set]
theorem Ctx.vQ(c:Ctx){v k u l:Nat}(L:Loc)(h:¬(u=v/\l=k)):(c.set v k L).ι u l=c.ι u l:=by simp only[Ctx.set];rw[if_neg h]
structure xj(H:U)(v:Nat)(ob:Ob)(H':U):Prop where
 get:∀u,H'[u]? = if u=v then some ob else H[u]?
 free:H.length<=v\/H[v]? = some .lL
 len:H.length<=H'.length
theorem xj.last(H:U)(ob:Ob):xj H H.length ob (H ++ [ob]) where
 get u:=by
  split
  .rename_i h;subst h;simp
  .rename_i h;rcases bE u H.length with h1|h1
   .rw[ah h1]
   .rw[cj (by simp;omega),cj h1]
 free:=.inl (Nat.le_refl _)
 len:=by simp
theorem xj.lL{H:U}{v:Nat}(h:H[v]? = some .lL)(ob:Ob):xj H v ob (H.set v ob) where
 get u:=by
  have:=(ae.1 h).1;rw[bS];split
  .rename_i e;subst e;simp[this]
  .rename_i e;rw[if_neg (cu e)]
 free:=.inr h
 len:=by simp
def mW(H:U)(al:Al):Prop:=∀ob,xj H al.1 ob (al.2 ob)
theorem mW.last(H:U):mW H (Al.last H):=λob=>xj.last H ob
theorem mW.lL{H:U}{v:Nat}(h:H[v]? = some .lL):mW H (Al.lL H v):=λob=>xj.lL h ob
structure jZ(w w':World):Prop where
 os:w'.os=w.os/\w.drawn<=w'.drawn
 tape:w'.tape=w.tape
 output:w'.output=w.output
 size:w.heap.size<=w'.heap.size
 kept:∀b,b<w.heap.size->w'.heap[b]? = w.heap[b]?
theorem jZ.refl(w:World):jZ w w:=⟨⟨rfl,Nat.le_refl _⟩,rfl,rfl,Nat.le_refl _,λ_ _=>rfl⟩
theorem jZ.alloc(w:World)(o:Obj):jZ w (w.alloc o):=
 ⟨⟨rfl,Nat.le_refl _⟩,rfl,rfl,by simp,λb h=>by simp only[World.alloc,eE];rw[if_neg (by omega)]⟩
theorem jZ.trans{a b c:World}(h:jZ a b)(k:jZ b c):jZ a c:=
 ⟨⟨k.os.1.trans h.os.1,Nat.le_trans h.os.2 k.os.2⟩,k.tape.trans h.tape,k.output.trans h.output,Nat.le_trans h.size k.size,λi hi=>(k.kept i (aN hi h.size)).trans (h.kept i hi)⟩
theorem jZ.drew(w:World):jZ w w.drew:=⟨⟨rfl,Nat.le_succ _⟩,rfl,rfl,Nat.le_refl _,λ_ _=>rfl⟩
theorem Cj(n:Nat){c:Ctx}{H:U}{w w':World}(hg:jZ w w'):Step n c H w c H w':=
 ⟨hg.os,hg.tape,hg.output,hg.size,rfl,λ_ h=>h,λ_ h=>.inl h,λb a _=>hg.kept b a,λ_ _ _ _ h=>h,λ_ h=>.inr h⟩
theorem Fa.mono{c c':Ctx}{w w':World}(j:∀v d,fR c w v d->fR c' w' v d){arr:Array MapEntry}{f:Nat}{es:List (Value×D)}(h:Fa c w arr f es):Fa c' w' arr f es:=
 ⟨h.1,λi e x k g=>let ⟨a,b,d⟩:=h.2.1 i e x k g;⟨a,j _ _ b,d⟩,h.2.2⟩
theorem gV.keep{c c':Ctx}{w w':World}(u:c'.RT=c.RT)(q:∀v d,fR c w v d->fR c' w' v d){L:Option Loc}{o:Ob}
  (f:∀l,L=some l->l.jG=false->o.alive=true->w'.heap[l.b]? = w.heap[l.b]?) (h:gV c w L o):gV c' w' L o:=by
 cases o with
 | dead=>simp[gV]
 | lL=>simpa[gV]using h
 | row t g cs=>
  cases L with
  | none=>simp[gV]at h
  | some l=>
   simp only[gV]at h ⊢;split
   .rename_i a;simpa[a]using h
   .rename_i a;simp only[a]at h;obtain⟨arr,h1,b,n,j⟩:=h;refine⟨arr,by rw[f l rfl (by simpa using a) rfl];exact h1,b,n,λi d A=>?_⟩;obtain⟨v,x,y,C⟩:=j i d A;exact⟨v,x,y,q _ _ C⟩
 | map kk es=>
  cases L with
  | none=>simp[gV]at h
  | some l=>
   simp only[gV]at h ⊢;obtain⟨a,z,arr,e,h1,b⟩:=h;exact⟨a,z,arr,e,by rw[f l rfl a rfl];exact h1,b.mono q⟩
 | ia rf env st=>
  cases L with
  | none=>simp[gV]at h
  | some l=>
   simp only[gV]at h ⊢;obtain⟨a,r,h1,b,n,j⟩:=h;exact⟨a,r,by rw[f l rfl a rfl];exact h1,λk=>q _ _ (b k),by rw[u];exact n,j⟩
 | sn s p=>
  cases L with
  | none=>simp[gV]at h
  | some l=>
   simp only[gV]at h ⊢;exact⟨h.1,h.2.1,by rw[f l rfl h.1 rfl];exact h.2.2⟩
 | iX m since seen=>
  cases L with
  | none=>simp[gV]at h
  | some l=>
   simp only[gV]at h ⊢;obtain⟨h1,b,B,n,j⟩:=h;exact⟨h1,b,B,q _ _ n,by rw[f l rfl h1 rfl];exact j⟩
 | jv=>
  cases L with
  | none=>simp[gV]at h
  | some l=>
   simp only[gV]at h ⊢
   by_cases a:l.jG=true
   .exact .inl a
   .exact .inr (by rw[f l rfl (by simpa using a) rfl];exact h.resolve_left a)
theorem gv.po{G:GT}{c:Ctx}{H:U}{w w':World}(h:gv G c H w)(hg:jZ w w'):gv G c H w':=by
 have hs:=Cj H.length (c:=c) (H:=H) hg;have i:∀v d,fR c w v d->fR c w' v d:=λv d e=>e.pJ h.toHeapOK hs
 exact{
  inj:=h.inj
  lt:=λb f=>aN (h.lt b f) hg.size
  nF:=h.nF
  kG:=λb f=>aN (h.kG b f) hg.size
  out:=h.out
  mn:=h.mn
  ob:=λv o j=>(h.ob v o j).keep rfl i λl hl m e=>hg.kept _ (h.lt _ ⟨v,l,⟨o,j,e,hl⟩,m,rfl⟩)
  gl:=λg cs k=>let ⟨a,b⟩:=h.gl g cs k;⟨a,i _ _ b⟩
  rt:=h.rt }
structure yO(H:U)(v:Nat)(ob:Ob)(H':U):Prop where
 get:∀u,H'[u]? = if u=v then some ob else H[u]?
 free:H.length<=v\/H[v]? = some .lL\/∃o,H[v]? = some o/\o.alive=true/\o.gen<ob.gen
 len:H.length<=H'.length
theorem xj.tT{H:U}{v:Nat}{ob:Ob}{H':U}(h:xj H v ob H'):yO H v ob H':=⟨h.get,h.free.imp id .inl,h.len⟩
theorem EC{c:Ctx}{H H':U}{v:Nat}{ob:Ob}{L:Loc}(d:yO H v ob H'){u:Nat}{l:Loc}(h:lQ (c.set v ob.gen L) H' u l) :
  (u=v/\l=L)\/(u≠v/\lQ c H u l):=by
 obtain⟨o,a,f,b⟩:=h;rw[d.get]at a;split at a
 .rename_i e;cases a;subst e;rw[Ctx.sk]at b;cases b;exact .inl ⟨rfl,rfl⟩
 .rename_i e;rw[Ctx.vQ _ _ (λh=>e h.1)]at b;exact .inr ⟨e,o,a,f,b⟩
theorem aaQ{G:GT}{c:Ctx}{H H':U}{w:World}{v:Nat}{ob:Ob}(h:gv G c H w)(b:yO H v ob H')(k:Nat)(f:ob.gen<=k):c.ι v k=none:=by
 rcases b.free with a|a|⟨o,d,e,hg⟩
 .exact h.out v k a
 .exact h.mn v _ k a (.inl rfl)
 .exact h.mn v o k d (.inr ⟨e,by omega⟩)
theorem aaR{G:GT}{c:Ctx}{H H':U}{w:World}{v:Nat}{ob:Ob}{L:Loc}(h:gv G c H w)(b:yO H v ob H')(u k:Nat)(l:Loc)(a:c.ι u k=some l):(c.set v ob.gen L).ι u k=some l:=by
 rw[Ctx.vQ]
 .exact a
 .rintro⟨rfl,rfl⟩;rw[aaQ h b _ (Nat.le_refl _)]at a;cases a
theorem OF{G:GT}{c:Ctx}{H H':U}{w w':World}{v:Nat}{ob:Ob}(h:gv G c H w)(d:yO H v ob H')(hg:jZ w w')(L:Loc)
  (f:L.jG=false->w.heap.size<=L.b/\L.b<w'.heap.size):Step H.length c H w (c.set v ob.gen L) H' w' where
 os:=hg.os
 tape:=hg.tape
 output:=hg.output
 size:=hg.size
 RT:=rfl
 Fm _ h:=h
 Fn _ h:=.inl h
 kept b hb _:=hg.kept b hb
 old u k l _ gf:=aaR h d u k l gf
 own b hb:=by
  obtain⟨u,l,hl,a,e⟩:=hb;rcases EC d hl with⟨_,rfl⟩|⟨_,hl⟩
  .exact .inl (e▸(f a).1)
  .exact .inr ⟨u,l,hl,a,e⟩
theorem Tv{G:GT}{c:Ctx}{H H':U}{w w':World}{v:Nat}{ob:Ob}(h:gv G c H w)(f:yO H v ob H')(hg:jZ w w')(L:Loc)
  (n:L.jG=false->w.heap.size<=L.b/\L.b<w'.heap.size) (D:ob.alive=true) (J:gV (c.set v ob.gen L) w' (some L) ob):gv G (c.set v ob.gen L) H' w':=by
 have hs:=OF h f hg L n;have x:∀u d,fR c w u d->fR (c.set v ob.gen L) w' u d:=λu d r=>r.pJ h.toHeapOK hs;have p:∀u l,lQ c H u l->l.jG=false->l.b<w.heap.size:=λu l hl j=>h.lt _ ⟨u,l,hl,j,rfl⟩
 have K:v<H'.length:=by have:=f.get v;rw[if_pos rfl]at this;exact(ae.1 this).1
 exact{
  inj:=by
   intro u B l C h1 I t s F;rcases EC f h1 with⟨rfl,rfl⟩|⟨_,b⟩<;>rcases EC f I with⟨rfl,rfl⟩|⟨_,z⟩
   .rfl
   .have:=(n t).1;have:=p _ _ z s;omega
   .have:=(n s).1;have:=p _ _ b t;omega
   .exact h.inj u B l C b z t s F
  lt:=λb m=>by
   obtain⟨u,l,hl,j,e⟩:=m;rcases EC f hl with⟨_,rfl⟩|⟨_,hl⟩
   .exact e▸(n j).2
   .exact e▸aN (p u l hl j) hg.size
  nF:=λb m y=>by
   obtain⟨u,l,hl,j,e⟩:=m;rcases EC f hl with⟨_,rfl⟩|⟨_,hl⟩
   .have:=h.kG b y;have:=(n j).1;omega
   .exact h.nF b ⟨u,l,hl,j,e⟩ y
  kG:=λb m=>aN (h.kG b m) hg.size
  out:=λu k E=>by rw[Ctx.vQ _ _ (by rintro⟨rfl,_⟩;omega)];exact h.out u k (Nat.le_trans f.len E)
  mn:=λu o k i q=>by
   rw[f.get]at i;split at i
   .rename_i e;cases i;subst e;rcases q with rfl|⟨_,q⟩
    .cases D
    .rw[Ctx.vQ _ _ (by rintro⟨_,rfl⟩;omega)];exact aaQ h f k (by omega)
   .rename_i e;rw[Ctx.vQ _ _ (λh=>e h.1)];exact h.mn u o k i q
  ob:=λu o i=>by
   rw[f.get]at i;split at i
   .rename_i e;cases i;subst e;rw[Ctx.sk];exact J
   .rename_i e;rw[Ctx.vQ _ _ (λh=>e h.1)];exact gV.keep (c:=c) (c':=c.set v ob.gen L) rfl x (λl hl j r=>hg.kept _ (p u l ⟨o,i,r,hl⟩ j)) (h.ob u o i)
  gl:=λg cs A=>let ⟨a,b⟩:=h.gl g cs A;⟨a,x _ _ b⟩
  rt:=h.rt }
structure Cells(c:Ctx)(w:World)(vs:List Value)(cs:List D):Prop where
 len:vs.length=cs.length
 one:∀v∈vs,v.oneCell'=true
 rep:∀(i:Nat) (v:Value) (d:D),vs[i]? = some v->cs[i]? = some d->fR c w v d
theorem D9{G:GT}{c:Ctx}{H H':U}{v gen:Nat}{w:World}(h:gv G c H w)(a:World)(hg:jZ w a)(t:TypeId)(vs:List Value)(cs:List D)(n:Nat)(arr:Array Value)
  (l:yO H v (.row t gen cs) H') (f:Cells c w vs cs) (g:arr.toList.take n=vs) (p:n<=arr.size) :
  ∃L:Loc,L.jG=false/\L.b=a.heap.size/\L.base=0/\L.top=arr.size /\
   gv G (c.set v gen L) H' (a.alloc (.cells arr t))/\Step H.length c H w (c.set v gen L) H' (a.alloc (.cells arr t)):=by
 have k:=hg.trans (jZ.alloc a (.cells arr t));refine⟨⟨a.heap.size,0,arr.size,false⟩,rfl,rfl,rfl,rfl,?_⟩;have m:(⟨a.heap.size,0,arr.size,false⟩:Loc).jG=false->w.heap.size<=(⟨a.heap.size,0,arr.size,false⟩:Loc).b/\(⟨a.heap.size,0,arr.size,false⟩:Loc).b<(a.alloc (.cells arr t)).heap.size:=λ_=>⟨hg.size,by simp⟩;have hs:=OF h l k ⟨a.heap.size,0,arr.size,false⟩ m;refine⟨Tv h l k _ m rfl ?_,hs⟩;have o:∀u d,fR c w u d->fR (c.set v gen ⟨a.heap.size,0,arr.size,false⟩) (a.alloc (.cells arr t)) u d:=λu d e=>e.pJ h.toHeapOK hs;have b:cs.length=n:=by rw[<-f.len,<-g];simp;omega
 simp only[gV,Ob.gen];refine⟨arr,heap_alloc_new _ _,rfl,by simp;omega,λi d e=>?_⟩;have hi:i<cs.length:=(ae.1 e).1;have j:i<arr.size:=by omega
 refine⟨arr[i],by simp[j],?_,?_⟩
 .exact f.one _ (by rw[<-g];exact List.mem_of_getElem? (i:=i) (by rw[aF];simp[b▸hi,j]))
 .exact o _ _ (f.rep i _ d (by rw[<-g,aF];simp[b▸hi,j]) e)
theorem sj{H:U}{v:Nat}{ob:Ob}(a:v<H.length)(u:Nat):(H.set v ob)[u]? = if u=v then some ob else H[u]? := by
 rw[bS];split
 .rename_i e;subst e;simp[a]
 .rename_i e;rw[if_neg (cu e)]
theorem ana{c:Ctx}{H:U}{v:Nat}{ob ob':Ob}(b:H[v]? = some ob)(g:ob.alive=true)(hg:ob'.gen=ob.gen){u:Nat}{l:Loc}(h:lQ c (H.set v ob') u l):lQ c H u l:=by
 obtain⟨o,a,f,d⟩:=h;rw[sj (ae.1 b).1]at a;split at a
 .rename_i e;cases a;subst e;exact⟨ob,b,g,by rw[<-hg];exact d⟩
 .exact⟨o,a,f,d⟩
theorem abd{G:GT}{c:Ctx}{H:U}{w:World}(h:gv G c H w){v:Nat}{ob ob':Ob}(j:H[v]? = some ob)(s:ob.alive=true)(J:ob'.alive=true)(A:ob'.gen=ob.gen){L:Loc}(z:c.ι v ob.gen=some L)(y:L.jG=false)
  {w':World} (I:w'.os=w.os/\w.drawn<=w'.drawn) (T:w'.tape=w.tape) (K:w'.output=w.output) (C:w'.heap.size=w.heap.size)
  (x:∀b,b≠L.b->w'.heap[b]? = w.heap[b]?) (R:(∀u d,fR c w u d->fR c w' u d)->gV c w' (some L) ob') :
  gv G c (H.set v ob') w'/\Step H.length c H w c (H.set v ob') w':=by
 have B:lQ c H v L:=⟨ob,j,s,z⟩;have E:l7 c H L.b:=⟨v,L,B,y,rfl⟩;have t:∀u l,lQ c (H.set v ob') u l->lQ c H u l:=λu l hl=>ana j s A hl;have m:∀b,l7 c (H.set v ob') b->l7 c H b:=λb ⟨u,l,hl,r⟩=>⟨u,l,t u l hl,r⟩
 have hs:Step H.length c H w c (H.set v ob') w':=
  ⟨I,T,K,by omega,rfl,λ_ h=>h,λ_ h=>.inl h,λb _ P=>x b (λe=>P (e▸E)),λ_ _ _ _ h=>h,λb i=>.inr (m b i)⟩
 have n:∀u d,fR c w u d->fR c w' u d:=λu d q=>q.pJ h.toHeapOK hs
 refine⟨{
  inj:=λu F l N h1 Q=>h.inj u F l N (t _ _ h1) (t _ _ Q)
  lt:=λb i=>by rw[C];exact h.lt b (m b i)
  nF:=λb i=>h.nF b (m b i)
  kG:=λb i=>by rw[C];exact h.kG b i
  out:=λu k O=>h.out u k (by simpa using O)
  mn:=λu o k f p=>by
   rw[sj (ae.1 j).1]at f;split at f
   .rename_i e;cases f;subst e;rcases p with rfl|⟨_,p⟩
    .cases J
    .exact h.mn u ob k j (.inr ⟨s,by omega⟩)
   .exact h.mn u o k f p
  ob:=λu o f=>by
   rw[sj (ae.1 j).1]at f;split at f
   .rename_i e;cases f;subst e;rw[A,z];exact R n
   .rename_i S;exact(h.ob u o f).keep rfl n λl hl M q=>x _ λe=>S (h.inj u v l L ⟨o,f,q,hl⟩ B M y e)
  gl:=λg cs D=>let ⟨a,b⟩:=h.gl g cs D;⟨a,n _ _ b⟩
  rt:=h.rt },hs⟩
theorem EH{G:GT}{c:Ctx}{H:U}{w:World}(h:gv G c H w){v g:Nat}{t:TypeId}{cs:List D}(p:H[v]? = some (.row t g cs)){L:Loc}(z:c.ι v g=some L)(j:L.jG=false)
  {arr:Array Value} (m:w.heap[L.b]? = some (.cells arr t (0,0))) (a:Array Value) (o:a.size=arr.size) (k:L.top=arr.size) (e:List D) (f:L.base+e.length<=L.top)
  (s:∀(i:Nat) (d:D),e[i]? = some d->∃u,a[L.base+i]? = some u/\u.oneCell'=true/\fR c w u d) :
  gv G c (H.set v (.row t g e)) (w.setRow L.b a)/\Step H.length c H w c (H.set v (.row t g e)) (w.setRow L.b a):=by
 refine abd (w':=w.setRow L.b a) (ob':=.row t g e) h p rfl rfl rfl z j ⟨rfl,Nat.le_refl _⟩ rfl rfl (by simp[World.setRow]) (λb y=>by simp only[World.setRow,bf];rw[if_neg (cu y)]) λq=>?_;simp only[gV,j];refine⟨a,setRow_heap w L.b arr _ t _ m,by rw[k,o],f,λi d r=>?_⟩;obtain⟨x,l,n,A⟩:=s i d r;exact⟨x,l,n,q _ _ A⟩
def s6:Value->D
 | .slice none 0 0=>.fX
 | v=>.val v
def L9:Value->Option D
 | .slice none 0 0=>some .fX
 | .agg cs=>if cs.all (·.oneCell')then some (.agg (cs.toList.map s6))else none
 | .tuple _=>none
 | v=>some (.val v)
def cX(G:GT):Operand->Option X
 | .tmp t=>some (.t t)
 | .const v=>(L9 v).map .c
 | .global g=>(G g).map λcs=>.c (.gi cs)
 | .func f=>some (.c (.fn (.func f) [] []))
def xv(G:GT):List Operand->Option (List X)
 | []=>some []
 | x::r=>match cX G x,xv G r with
  | some a,some l=>some (a::l)
  | _,_=>none
def yU(G:GT):List (Nat×Operand)->Option (List (Nat×X))
 | []=>some []
 | (i,x)::r=>match cX G x,yU G r with
  | some a,some l=>some ((i,a)::l)
  | _,_=>none
def rP(G:GT):Option Operand->Option (Option X)
 | none=>some none
 | some x=>(cX G x).map some
def kl(P:Program)(t:TypeId):Option Nat:=(P.info? t).map (·.size)
def qx(P:Program)(t:TypeId):Option (List D):=match (P.info? t).bind (·.zero)with
 | some z=>if z.cells.all (·.oneCell')then some (z.cells.toList.map s6)else none
 | none=>none
def oQ(P:Program)(t:TypeId):Option Bool:=match P.underlying t with
 | some (.struct _)|some (.array _ _)=>some true
 | some _=>some false
 | none=>none
def Ye(P:Program)(t:TypeId):Bool:=match P.underlying t with
 | some (.int _)|some .string|some .bool=>true
 | _=>false
def LP(P:Program)(t:TypeId):Bool:=match P.underlying t with
 | some .bool=>true
 | _=>false
def ya(P:Program)(t:TypeId):Option mq:=match P.underlying t with
 | some (.int _)=>some .int
 | some .string=>some .str
 | some .bool=>some .bool
 | _=>none
def Mq(P:Program):Nat->List Field->Option (List mq)
 | _,[]=>some []
 | i,f::r=>match ya P f.type,Mq P (i+1) r with
  | some l,some ls=>if f.offset=i/\f.name≠ "_" then some (l::ls)else none
  | _,_=>none
def Mr(P:Program)(t:TypeId):Option (List mq):=match P.underlying t with
 | some (.struct fs)=>if P.stoodInHeld t=false/\P.eqGuardType P.depth t=false then Mq P 0 fs.toList else none
 | some (.array n e)=>if P.eqGuardType P.depth t=false/\P.cellsOf e=1/\(P.info? e).isSome=true then(ya P e).map (List.replicate n)else none
 | _=>none
def HO(P:Program)(fs:Array Field):List (Nat×X)->Option (List (Nat×Nat×X))
 | []=>some []
 | (i,x)::r=>match fs[i]?,HO P fs r with
  | some f,some l=>(kl P f.type).map λn=>(f.offset,n,x)::l
  | _,_=>none
def V8(P:Program)(fs:Array Field):Bool:=fs.all λf=>(kl P f.type).isSome
def sF(P:Program)(f:FuncId):Bool:=match P.funcs[f]? with
 | some fn=>fn.name != "runtime.NumGoroutine" && fn.body.isSome
 | none=>false
def BH(P:Program):Nat->List Field->Option (List IntKind)
 | _,[]=>some []
 | i,f::r=>match P.underlying f.type,BH P (i+1) r with
  | some (.int k),some ks=>if f.offset=i/\f.name≠ "_" then some (k::ks)else none
  | _,_=>none
def uD(P:Program)(t:TypeId):Option KK:=match P.underlying t with
 | some (.struct fs)=>if P.stoodInHeld t=false then(BH P 0 fs.toList).map .ints else none
 | some (.int k)=>some (.int k)
 | some .string=>some .str
 | some .bool=>some .bool
 | _=>none
def EI(P:Program)(t:TypeId):Option D:=(P.info? t).bind λi=>i.zero.bind L9
def nz(P:Program)(G:GT)(o:Oper):Option iD:=
 match o.op with
 | .move x=>do let a <-cX G x;pure (.mv a)
 | .assign x=>do let a <-cX G x;pure (.mv a)
 | .pick c a b=>do pure (.pick (<-cX G c) (<-cX G a) (<-cX G b))
 | .box e x=>do pure (.box e (<-cX G x))
 | .alloc e=>do pure (.alloc e (<-qx P e))
 | .build t ps=>do
  let z <-qx P t
  let l <-yU G ps.toList
  match P.underlying t with
  | some (.struct fs)=>if V8 P fs then do pure (.build z (<-HO P fs l))else none
  | some (.array _ e)=>do
   let sz <-kl P e
   pure (.build z (l.map λp=>(p.1*sz,sz,p.2)))
  | _=>none
 | .buildSlice t n ps=>do
  let .slice e <-P.underlying t|none
  let z <-qx P e
  let sz <-kl P e
  let l <-yU G ps.toList
  if z.length=sz/\0<sz/\n*sz<=16777216 then pure (.buildSl e sz z n l)else none
 | .load t a=>do
  let x <-cX G a
  let n <-kl P t
  if <-oQ P t then pure (.ldN n x)else pure (.ld1 x)
 | .store t a v=>do
  let x <-cX G a
  let y <-cX G v
  let n <-kl P t
  if <-oQ P t then pure (.stN n x y)else if n=1 then pure (.st1 x y)else none
 | .nilCheck x=>do pure (.nilck (<-cX G x))
 | .binOp op t x y _=>do
  let a <-cX G x
  let b <-cX G y
  match op with
  | .eql=>if LP P t then pure (.eqS false [.bool] false a b)else if Ye P t then pure (.arith .eql a b)else do pure (.eqS true (<-Mr P t) false a b)
  | .neq=>if LP P t then pure (.eqS false [.bool] true a b)else if Ye P t then pure (.arith .neq a b)else do pure (.eqS true (<-Mr P t) true a b)
  | op=>pure (.arith op a b)
 | .unOp op _ x=>do pure (.un op (<-cX G x))
 | .convert s d x=>do
  let a <-cX G x
  let _ <-P.underlying s
  match P.underlying d with
  | some (.int k)=>pure (.conv k a)
  | some .string=>do
   let .slice e <-P.underlying s|none
   let .int .u8 <-P.underlying e|none
   pure (.b2s a)
  | _=>none
 | .makeFunc f first cap=>do pure (.mkfn f (<-xv G first.toList) (<-xv G cap.toList))
 | .makeMap t none=>do
  let .map k _ <-P.underlying t|none
  pure (.mkmap (<-uD P k))
 | .lookup t x i ok=>do
  let .map k e <-P.underlying t|none
  let z <-EI P e
  pure (.lookup (<-uD P k) z ok (<-cX G x) (<-cX G i))
 | .mapUpdate t m k v=>do
  let .map kt _ <-P.underlying t|none
  pure (.mapUpd (<-uD P kt) (<-cX G m) (<-cX G k) (<-cX G v))
 | .insert t m k v=>do
  let .map kt _ <-P.underlying t|none
  pure (.mapUpd (<-uD P kt) (<-cX G m) (<-cX G k) (<-cX G v))
 | .makeSlice t l c=>do
  let .slice e <-P.underlying t|none
  let z <-qx P e
  let i <-P.info? e
  if z.length=i.size/\0<i.size then pure (.mksl e i.size i.bytes z (<-cX G l) (<-cX G c))else none
 | .slice t x lo hi none=>do
  let a <-cX G x
  let l <-rP G lo
  let h <-rP G hi
  match P.underlying t with
  | some (.slice e)=>do pure (.slc (<-kl P e) a l h)
  | some .string=>pure (.slcS a l h)
  | some (.array n e)=>do pure (.slcArr (<-kl P e) n a l h)
  | _=>none
 | .slice t x lo (some hi) (some mx)=>do
  let a <-cX G x
  let l <-rP G lo
  let h <-cX G hi
  let m <-cX G mx
  let .slice e <-P.underlying t|none
  pure (.slc3 (<-kl P e) a l h m)
 | .fieldAddr t x f=>do
  let a <-cX G x
  let .struct fs <-P.underlying t|none
  let g <-fs[f]?
  let n <-kl P g.type
  if 0<n then pure (.fieldA g.offset a)else none
 | .field t x f=>do
  let a <-cX G x
  let .struct fs <-P.underlying t|none
  let g <-fs[f]?
  let n <-kl P g.type
  pure (.field g.offset n (<-oQ P g.type) a)
 | .indexAddr t x i=>do
  let a <-cX G x
  let j <-cX G i
  match P.underlying t with
  | some (.slice e)=>do
   let n <-kl P e
   if 0<n then pure (.idxA n a j)else none
  | some (.array n e)=>do pure (.idxArr (<-kl P e) n a j)
  | _=>none
 | .index t x i=>do
  let a <-cX G x
  let j <-cX G i
  match P.underlying t with
  | some (.array n e)=>do pure (.idx (<-kl P e) n (<-oQ P e) a j)
  | some .string=>pure (.idxStr a j)
  | _=>none
 | .extract x i=>do pure (.ext (<-cX G x) i)
 | .call c=>do
  let args <-xv G c.args.toList
  match c.callee with
  | .value (.func f)=>if sF P f then pure (if G.nw f then .callN f args else .call f args)else none
  | .value f=>do pure (.callv (<-cX G f) args)
  | .builtin .append=>match c.argTypes.toList,args with
   | [t,u],[x,y]=>do
    let .slice e <-P.underlying t|none
    let i <-P.info? e
    let z <-qx P e
    let .slice _ <-P.underlying u|none
    if z.length=i.size/\0<i.size then pure (.app e i.size i.bytes x y)else none
   | _,_=>none
  | .builtin .copy=>match c.argTypes.toList,args with
   | [t,u],[x,y]=>do
    let .slice e <-P.underlying t|none
    let .slice _ <-P.underlying u|none
    let n <-kl P e
    if 0<n then pure (.copy n x y)else none
   | _,_=>none
  | .builtin .len=>match c.argTypes.toList,args with
   | [t],[x]=>match P.underlying t with
    | some (.slice _)=>pure (.len .slice x)
    | some .string=>pure (.len .string x)
    | some (.map _ _)=>pure (.len .map x)
    | _=>none
   | _,_=>none
  | .builtin .max=>pure (.minmax true args)
  | .builtin .min=>pure (.minmax false args)
  | _=>none
 | _=>none
end Go.AL
namespace Go.AL
open Go
def kK(c:Ctx)(w:World)(env:gL)(a:Act):Prop:=∀k,fR c w (a.tmps.getD k undef) (env k)
def ja(G:GT)(c:Ctx)(H:U)(w:World)(K:jx)(v:Value)(w':World):Prop:=
 ∃d H' c',K d H'/\gv G c' H' w'/\fR c' w' v d/\Step H.length c H w c' H' w'
section
variable{P:Program}{G:GT}{c:Ctx}{H:U}{w:World}{K:jx}{env:gL}{a:Act}
theorem ja.plain(h:gv G c H w){v:Value}{d:D}(b:K d H)(a:fR c w v d):ja G c H w K v w:=
 ⟨d,H,c,b,h,a,Step.refl _ _ _ _⟩
theorem Z9(v:Value):fR c w v (s6 v):=by
 unfold s6;split
 .exact .fX
 .exact .val _
theorem S0{v:Value}{d:D}(h:L9 v=some d):fR c w v d:=by
 unfold L9 at h;split at h
 .cases h;exact .fX
 .rename_i cs;split at h
  .rename_i e;cases h
   have:=fR.agg (c:=c) (w:=w) cs.toList (cs.toList.map s6) (by simp) (λv a=>by
    have:=cG.1 e v (by simpa using a)
    exact this) (λi v d a b=>by
    simp only[av,a,aG,aq]at b;subst b
    exact Z9 v)
   simpa using this
  .cases h
 .cases h
 .cases h;exact .val _
theorem iE(h:gv G c H w)(i:kK c w env a){x:Operand}{X:X}(b:cX G x=some X):fR c w (a.eval x) (ev env X):=by
 cases x with
 | tmp t=>cases b;exact i t
 | const v=>
  simp only[cX,ak]at b;obtain⟨d,j,rfl⟩:=b;exact S0 j
 | global g=>
  simp only[cX,ak]at b;obtain⟨cs,e,rfl⟩:=b;exact(h.gl g cs e).2
 | func f=>cases b;exact .fn (.func f) [] [] [] [] rfl rfl (by simp) (by simp)
theorem Ay(h:gv G c H w)(b:kK c w env a):∀(l:List Operand) {xs:List X},xv G l=some xs->ju c w (l.map a.eval) (xs.map (ev env))
 | [],xs,hx=>by cases hx;exact .nil
 | x::r,xs,hx=>by
  simp only[xv]at hx;split at hx
  .rename_i X l hX hl;cases hx;exact .cons (iE h b hX) (Ay h b r hl)
  .cases hx
theorem ju.length{vs:List Value}{ds:List D}(h:ju c w vs ds):vs.length=ds.length:=by
 induction h with
 | nil=>rfl
 | cons _ _ a=>simp[a]
theorem ju.get{vs:List Value}{ds:List D}(h:ju c w vs ds):∀(i:Nat) (v:Value) (d:D),vs[i]? = some v->ds[i]? = some d->fR c w v d:=by
 induction h with
 | nil=>intro i v d a;simp at a
 | cons h _ e=>
  intro i v d a b
  cases i with
  | zero=>simp at a b;subst a;subst b;exact h
  | succ i=>simp at a b;exact e i v d a b
theorem ju.append{vs us:List Value}{ds es:List D}(h:ju c w vs ds)(k:ju c w us es):ju c w (vs++us) (ds++es):=by
 induction h with
 | nil=>exact k
 | cons h _ a=>exact .cons h a
theorem ju.HJ:∀ {vs:List Value} {ds:List D},vs.length=ds.length->(∀(i:Nat) (v:Value) (d:D),vs[i]? = some v->ds[i]? = some d->fR c w v d)->ju c w vs ds
 | [],[],_,_=>.nil
 | v::vs,d::ds,hl,h=>.cons (h 0 v d rfl rfl) (ju.HJ (by simpa using hl) λi v d a b=>h (i+1) v d (by simpa using a) (by simpa using b))
theorem Cells.agg{vs:List Value}{cs:List D}(h:Cells c w vs cs):fR c w (.agg vs.toArray) (.agg cs):=.agg vs cs h.len h.one h.rep
theorem Cells.drop{vs:List Value}{cs:List D}(h:Cells c w vs cs)(n:Nat):Cells c w (vs.drop n) (cs.drop n):=
 ⟨by simp[h.len],λv a=>h.one v (bq a),λi v d a b=>h.rep (n+i) v d (by simpa using a) (by simpa using b)⟩
theorem Cells.take{vs:List Value}{cs:List D}(h:Cells c w vs cs)(n:Nat):Cells c w (vs.take n) (cs.take n):=
 ⟨by simp[h.len],λv a=>h.one v (aS a),λi v d a b=>by
  rw[aF]at a b;split at a
  .rename_i hi;rw[if_pos hi]at b;exact h.rep i v d a b
  .cases a⟩
theorem Cells.append{vs us:List Value}{cs ds:List D}(h:Cells c w vs cs)(k:Cells c w us ds):Cells c w (vs++us) (cs++ds):=
 ⟨by simp[h.len,k.len],λv a=>by
  rcases List.mem_append.1 a with a|a
  .exact h.one v a
  .exact k.one v a,λi v d a b=>by
  rw[List.getElem?_append]at a b;split at a
  .rename_i hi;rw[if_pos (by rw[<-h.len];exact hi)]at b;exact h.rep i v d a b
  .rename_i hi;rw[if_neg (by rw[<-h.len];exact hi)]at b;rw[<-h.len]at b;exact k.rep _ v d a b⟩
theorem Cells.nil:Cells c w [] []:=⟨rfl,by simp,by simp⟩
theorem Cells.get{vs:List Value}{cs:List D}(h:Cells c w vs cs){i:Nat}{d:D}(a:cs[i]? = some d):∃v,vs[i]? = some v/\v.oneCell'=true/\fR c w v d:=by
 have hi:i<vs.length:=by rw[h.len];exact(ae.1 a).1
 exact⟨vs[i],by simp[hi],h.one _ (bP hi),h.rep i _ d (by simp[hi]) a⟩
def tV(c:Ctx)(w:World)(b o:Nat)(cs:List D):Prop:=∃vs,Cells c w vs cs/\∀(j:Nat) (v:Value),vs[j]? = some v->w.cell? ⟨b,o+j,none⟩=some v
theorem tV.drop{b o:Nat}{cs:List D}(h:tV c w b o cs)(n:Nat):tV c w b (o+n) (cs.drop n):=by obtain⟨vs,e,d⟩:=h;exact⟨vs.drop n,e.drop n,λj v a=>by rw[aI]at a;have:=d _ _ a;rwa [a7]⟩
theorem tV.take{b o:Nat}{cs:List D}(h:tV c w b o cs)(n:Nat):tV c w b o (cs.take n):=by
 obtain⟨vs,e,d⟩:=h;refine⟨vs.take n,e.take n,λj v a=>?_⟩;rw[aF]at a;split at a
 .exact d _ _ a
 .cases a
theorem yq(h:gv G c H w){v g:Nat}{t:TypeId}{cs:List D}(j:H[v]? = some (.row t g cs)){L:Loc}(p:c.ι v g=some L)(f:L.jG=false) :
  ∃arr:Array Value,w.heap[L.b]? = some (.cells arr t (0,0))/\L.top=arr.size/\L.base+cs.length<=L.top/\Cells c w ((arr.toList.drop L.base).take cs.length) cs:=by
 have h0:=h.ob v _ j;simp only[Ob.gen]at h0;rw[p]at h0;simp only[gV,f]at h0;obtain⟨arr,h1,o,n,e⟩:=h0;refine⟨arr,h1,o,n,⟨by simp;omega,λu a=>?_,λi u d a k=>?_⟩⟩
 .obtain⟨i,hi⟩:=aC.1 a;rw[aF]at hi;split at hi
  .rename_i q;rw[aI]at hi;obtain⟨x,b,m,_⟩:=e i cs[i] (by simp[q]);have:arr[L.base+i]? = some u:=by simpa using hi
   rw[b]at this;cases this;exact m
  .cases hi
 .rw[aF]at a;split at a
  .rw[aI]at a;obtain⟨x,b,_,l⟩:=e i d k;have:arr[L.base+i]? = some u:=by simpa using a
   rw[b]at this;cases this;exact l
  .cases a
theorem LX(h:gv G c H w){v g o:Nat}{t:TypeId}{cs:List D}(e:H[v]? = some (.row t g cs)){u:Value}(f:fR c w u (.ptr v g o)) :
  ∃b p,u = .pointer (some ⟨b,p,none⟩)/\tV c w b p (cs.drop o):=by
 cases f with
 | ptr _ _ _ L k d=>
  obtain⟨arr,h1,m,l,i⟩:=yq h e k d;refine⟨L.b,L.base+o,rfl,?_⟩;refine tV.drop ⟨_,i,λj x a=>?_⟩ o;rw[aF]at a;split at a
  .rw[aI]at a;simp[World.cell?,h1];simpa using a
  .cases a
theorem yV{u:Value}{cs:List D}(h:fR c w u (.gi cs)):∃b p,u = .pointer (some ⟨b,p,none⟩)/\c.F b/\tV c w b p cs:=by
 cases h with
 | gi b o _ g m l h=>
  refine⟨b,o,rfl,m,(List.range cs.length).map g,⟨by simp,λv a=>?_,λi v d a k=>?_⟩,λj v a=>?_⟩
  .simp only[ao,bj]at a;obtain⟨j,f,rfl⟩:=a;exact(l j cs[j] (by simp[f])).2
  .simp only[av,ak,bJ (ae.1 k).1]at a;obtain⟨_,e,rfl⟩:=a;cases e;exact h i d k
  .have f:j<cs.length:=by have:=(ae.1 a).1;simpa using this
   simp only[av,bJ f,aG,aq]at a;subst a;exact(l j cs[j] (by simp[f])).1
theorem P3{b o:Nat}{cs:List D}(i:c.F b)(h:tV c w b o cs):fR c w (.pointer (some ⟨b,o,none⟩)) (.gi cs):=by
 obtain⟨vs,f,g⟩:=h;refine .gi b o cs (λj=>vs.getD j undef) i (λj d e=>?_) (λj d e=>?_)
 .obtain⟨u,a,h1,_⟩:=f.get e;simp only[List.getD,a,aW];exact⟨g j u a,h1⟩
 .obtain⟨u,a,_,h1⟩:=f.get e;simp only[List.getD,a,aW];exact h1
theorem B9{t:TypeId}{b:Bool}(h:oQ P t=some b)(w:World):(isAgg t).run P w = .ok b w:=by
 unfold oQ at h;unfold isAgg
 cases a:P.underlying t with
 | none=>simp[a]at h
 | some d=>cases d<;>simp[a]at h<;>subst h<;>simp[run_underlying a]
theorem qo{t:TypeId}{n:Nat}(h:kl P t=some n)(w:World):(sizeOf t).run P w = .ok n w:=by simp only[kl,ak]at h;obtain⟨i,hi,rfl⟩:=h;simp[sizeOf,typeInfo,hi]
theorem run_typeInfo{t:TypeId}{i:TypeInfo}(h:P.info? t=some i)(w:World):(typeInfo t).run P w = .ok i w:=by simp[typeInfo,h]
theorem Af{t:TypeId}{z:List D}(h:qx P t=some z)(w:World):∃v:Value,(zeroValue t).run P w = .ok v w/\(P.info? t).bind (·.zero)=some v /\
  ∀c w,Cells c w v.cells.toList z:=by
 unfold qx at h
 cases hi:P.info? t with
 | none=>simp[hi]at h
 | some i=>
  simp only[hi,Option.bind_some]at h
  cases a:i.zero with
  | none=>simp[a]at h
  | some v=>
   simp only[a]at h;split at h
   .rename_i f;cases h;refine⟨v,by simp[zeroValue,run_typeInfo hi,a],by simp[a],λc w=>⟨by simp,λu b=>?_,λi u d b e=>?_⟩⟩
    .exact cG.1 f u (by simpa using b)
    .simp only[av,b,aG,aq]at e;subst e;exact Z9 u
   .cases h
theorem Om{t:TypeId}(i:oQ P t=some false){b o:Nat}{cs:List D}(h:tV c w b o cs){d:D}(g:cs[0]? = some d) :
  ∃u,(Instr.loadAt t (.pointer (some ⟨b,o,none⟩))).run P w = .ok u w/\u.oneCell'=true/\fR c w u d:=by
 obtain⟨vs,a,e⟩:=h;obtain⟨u,f,h1,j⟩:=a.get g;have:=e 0 u f;exact⟨u,by simp[Instr.loadAt,Instr.sureAddr,loadVar,B9 i];simp at this;simp[this],h1,j⟩
theorem Oo{t:TypeId}{n:Nat}(g:oQ P t=some true)(hs:kl P t=some n){b o:Nat}{cs:List D}(f:tV c w b o cs)(h:n<=cs.length) :
  ∃u,(Instr.loadAt t (.pointer (some ⟨b,o,none⟩))).run P w = .ok u w/\fR c w u (.agg (cs.take n)):=by
 obtain⟨vs,a,d⟩:=f.take n;have hl:vs.length=n:=by rw[a.len];simp;omega
 have:=run_loadCells_list (P:=P) w ⟨b,o,none⟩ vs (λj v e=>by rw[Addr.add_lit];exact d j v e);rw[hl]at this;exact⟨.agg vs.toArray,by simp[Instr.loadAt,Instr.sureAddr,loadVar,B9 g,qo hs,this],a.agg⟩
theorem tQ{v g:Nat}{x:TypeId×List D}(h:rowAt H v g=some x):H[v]? = some (.row x.1 g x.2):=by
 unfold rowAt at h;split at h
 .split at h
  .rename_i e;subst e;cases h;assumption
  .cases h
 .cases h
theorem alL(h:gv G c H w){t:TypeId}(l:oQ P t=some false){x:D}{u:Value}(k:fR c w u x)(a:Hm x H K) :
  ∃v,(Instr.loadAt t u).run P w = .ok v w/\ja G c H w K v w:=by
 unfold Hm at a;split at a
 .rename_i v g o;split at a
  .rename_i q cs n;have m:=tQ n;split at a
   .rename_i d f;obtain⟨b,p,rfl,i⟩:=LX h m k;obtain⟨u,e,_,j⟩:=Om l i (d:=d) (by simpa using f);exact⟨u,e,.plain h a j⟩
   .exact a.elim
  .exact a.elim
 .rename_i cs;split at a
  .rename_i d f;obtain⟨b,p,rfl,_,i⟩:=yV k;obtain⟨u,e,_,j⟩:=Om l i f;exact⟨u,e,.plain h a j⟩
  .exact a.elim
 .exact a.elim
theorem alM(h:gv G c H w){t:TypeId}{n:Nat}(j:oQ P t=some true)(hs:kl P t=some n){x:D}{u:Value}(i:fR c w u x)(a:Ho n x H K) :
  ∃v,(Instr.loadAt t u).run P w = .ok v w/\ja G c H w K v w:=by
 unfold Ho at a;split at a
 .rename_i v g o;split at a
  .rename_i m cs l;have k:=tQ l;obtain⟨b,p,rfl,e⟩:=LX h k i;obtain⟨u,d,f⟩:=Oo (n:=n) j hs e (by simp;omega);exact⟨u,d,.plain h a.2 f⟩
  .exact a.elim
 .rename_i cs;obtain⟨b,p,rfl,_,e⟩:=yV i;obtain⟨u,d,f⟩:=Oo (n:=n) j hs e a.1;exact⟨u,d,.plain h a.2 f⟩
 .exact a.elim
theorem alU(h:gv G c H w){x y z:D}{u v t:Value}(h1:fR c w u x)(e:fR c w v y)(d:fR c w t z)(a:HN x y z H K) :
  ∃b,u = .bool b/\ja G c H w K (if b then v else t) w:=by
 unfold HN at a;split at a
 .rename_i b;cases h1;refine⟨b,rfl,.plain h a ?_⟩;cases b
  .exact d
  .exact e
 .exact a.elim
end
end Go.AL
namespace Go.AL
open Go
section
variable{P:Program}{G:GT}{c:Ctx}{H:U}{w:World}{K:jx}{env:gL}{a:Act}
theorem wrap_i64{n:Int}(h:nU n):IntKind.i64.wrap n=n:=by unfold nU at h;simp only[IntKind.wrap,IntKind.signed,IntKind.bits];simp;omega
theorem ja.val(h:gv G c H w){v:Value}(a:K (.val v) H):ja G c H w K v w:=.plain h a (.val _)
theorem alr(h:gv G c H w){op:BinOp}{k:IntKind}{x y:Int}(a:Fi op k x y H K)(hs:op≠.shl/\op≠.shr)(t:TypeId)(xo b:Operand) :
  ∃v,(do eqGuard op t xo b (.int k x) (.int k y);binOp op t (.int k x) (.int k y)).run P w = .ok v w/\ja G c H w K v w:=by
 have hg:(eqGuard op t xo b (.int k x) (.int k y)).run P w = .ok () w:=by cases op<;>simp[eqGuard]
 simp only[Sem.run_bind,hg,Result.andThen_ok];cases op<;>simp only[Fi]at a
 case add=>
  by_cases e:k = .i64
  .subst e;simp only[if_true]at a;exact⟨_,by simp[binOp,Op.intArith,wrap_i64 a.1]<;>rfl,.val h a.2⟩
  .rw[if_neg e]at a;exact⟨_,by simp[binOp,Op.intArith]<;>rfl,.val h a⟩
 case sub=>
  by_cases e:k = .i64
  .subst e;simp only[if_true]at a;exact⟨_,by simp[binOp,Op.intArith,wrap_i64 a.1]<;>rfl,.val h a.2⟩
  .rw[if_neg e]at a;exact⟨_,by simp[binOp,Op.intArith]<;>rfl,.val h a⟩
 case mul=>
  by_cases e:k = .i64
  .subst e;simp only[if_true]at a;exact⟨_,by simp[binOp,Op.intArith,wrap_i64 a.1]<;>rfl,.val h a.2⟩
  .rw[if_neg e]at a;exact⟨_,by simp[binOp,Op.intArith]<;>rfl,.val h a⟩
 case quo=>exact⟨_,by simp[binOp,Op.intDiv,a.1]<;>rfl,.val h a.2⟩
 case rem=>exact⟨_,by simp[binOp,Op.intDiv,a.1]<;>rfl,.val h a.2⟩
 case and=>exact⟨_,by simp[binOp,Op.intBits]<;>rfl,.val h (by simpa[bits]using a)⟩
 case or=>exact⟨_,by simp[binOp,Op.intBits]<;>rfl,.val h (by simpa[bits]using a)⟩
 case xor=>exact⟨_,by simp[binOp,Op.intBits]<;>rfl,.val h (by simpa[bits]using a)⟩
 case andNot=>exact⟨_,by simp[binOp,Op.intBits]<;>rfl,.val h (by simpa[bits]using a)⟩
 case eql=>exact⟨_,by simp[binOp,Op.intCmp]<;>rfl,.val h a⟩
 case neq=>exact⟨_,by simp[binOp,Op.intCmp]<;>rfl,.val h a⟩
 case lss=>exact⟨_,by simp[binOp,Op.intCmp]<;>rfl,.val h a⟩
 case leq=>exact⟨_,by simp[binOp,Op.intCmp]<;>rfl,.val h a⟩
 case gtr=>exact⟨_,by simp[binOp,Op.intCmp]<;>rfl,.val h a⟩
 case geq=>exact⟨_,by simp[binOp,Op.intCmp]<;>rfl,.val h a⟩
 all_goals exact absurd rfl (by first|exact hs.1|exact hs.2)
theorem SE(h:gv G c H w){op:BinOp}{x y:D}{u v:Value}(h1:fR c w u x)(f:fR c w v y)(a:Fs op x y H K)(t:TypeId)(xo d:Operand) :
  ∃r,(do eqGuard op t xo d u v;binOp op t u v).run P w = .ok r w/\ja G c H w K r w:=by
 unfold Fs at a;split at a
 .cases h1;cases f;split at a
  .have key:∀op,pF op=true->op = .shl\/op = .shr:=λop g=>by cases op<;>simp[pF]at g<;>simp
   rename_i hs;rcases key op hs with rfl|rfl
   .simp only[Ih]at a;have b:=a.1;exact⟨_,by simp[eqGuard,binOp,Op.shift,eW.2 b]<;>rfl,.val h a.2⟩
   .simp only[Ih]at a;have b:=a.1;exact⟨_,by simp[eqGuard,binOp,Op.shift,eW.2 b]<;>rfl,.val h a.2⟩
  .rename_i hs;obtain⟨rfl,a⟩:=a;exact alr h a ⟨λe=>by subst e;exact hs rfl,λe=>by subst e;exact hs rfl⟩ t xo d
 .cases h1;cases f;rename_i p q;cases op<;>simp only[OB]at a
  case add=>exact⟨.string (p++q),by simp[eqGuard,binOp,run_string_add_sum w p q (by have:=a.1;omega)],.val h a.2⟩
  case eql=>exact⟨_,by simp[eqGuard,binOp,Op.stringOp,ByteArray.toList_eq]<;>rfl,.val h (by simpa using a)⟩
  case neq=>exact⟨_,by simp[eqGuard,binOp,Op.stringOp,ByteArray.toList_eq]<;>rfl,.val h (by simpa using a)⟩
 .grind
theorem al2(h:gv G c H w){op:UnOp}{x:D}{u:Value}(h1:fR c w u x)(a:IC op x H K) :
  ∃r,(Op.unary op u).run P w = .ok r w/\ja G c H w K r w:=by
 unfold IC at a;split at a
 .cases h1;exact⟨_,by simp[Op.unary]<;>rfl,.val h a⟩
 .cases h1;rename_i n;have:(0-n) = -n:=by omega
  exact⟨_,by simp[Op.unary,Op.intArith,wrap_i64 a.1]<;>rfl,.val h a.2⟩
 .cases h1;exact⟨_,by simp[Op.unary,Op.intBits]<;>rfl,.val h (by simpa[bits]using a)⟩
 .grind
theorem CW{d:D}{v:Value}{cs:List D}(r:fR c w v d)(j:cellsOf d=some cs):Cells c w v.cells.toList cs:=by
 have key:∀ {v:Value} {d:D},fR c w v d->v.oneCell'=true->v.cells = #[v]->Cells c w v.cells.toList [d]:=λ{v d} r h1 p=>by rw[p];exact⟨rfl,by simpa using h1,λi u e A B=>by grind⟩
 cases r with
 | any v=>simp[cellsOf]at j
 | val v=>
  simp only[cellsOf]at j;split at j
  .rename_i h1;cases j;refine key (.val v) h1 ?_;cases v<;>first|rfl|(simp[Value.oneCell']at h1)
  .cases j
 | agg vs ds hl h1 h=>
  simp only[cellsOf,aq]at j;subst j;exact⟨by simpa[Value.cells]using hl,by simpa[Value.cells]using h1,λi v d p s=>h i v d (by simpa[Value.cells]using p) s⟩
 | tup=>simp[cellsOf]at j
 | sl a len cap sz es g h1 l m n q x t=>simp only[cellsOf,aq]at j;subst j;exact key (.sl a len cap sz es g h1 l m n q x t) rfl rfl
 | fX=>simp only[cellsOf,aq]at j;subst j;exact key .fX rfl rfl
 | lS a vs h1 l m=>simp only[cellsOf,aq]at j;subst j;exact key (.lS a vs h1 l m) rfl rfl
 | fM v k sz off len cap L h1 l m n q=>simp only[cellsOf,aq]at j;subst j;exact key (.fM v k sz off len cap L h1 l m n q) rfl rfl
 | mh v k sz off L h1 a=>simp only[cellsOf,aq]at j;subst j;exact key (.mh v k sz off L h1 a) rfl rfl
 | ptr v k off L h1 l=>simp only[cellsOf,aq]at j;subst j;exact key (.ptr v k off L h1 l) rfl rfl
 | gi b o cs g h1 l m=>simp only[cellsOf,aq]at j;subst j;exact key (.gi b o cs g h1 l m) rfl rfl
 | gx v L h1 l=>simp only[cellsOf,aq]at j;subst j;exact key (.gx v L h1 l) rfl rfl
 | fn f fs cs y z h1 l m n=>simp only[cellsOf,aq]at j;subst j;exact key (.fn f fs cs y z h1 l m n) rfl rfl
 | iP v L h1 l=>simp only[cellsOf,aq]at j;subst j;exact key (.iP v L h1 l) rfl rfl
theorem al3{d:D}(h:one d=true):cellsOf d=some [d]:=by
 cases d<;>first|rfl|(simp[one]at h;done)|skip
 rename_i v;simp only[one]at h;simp[cellsOf,h]
theorem ami{L:Loc}(a:L.jG=false)(h0:L.base=0)(v g:Nat):fR (c.set v g L) w (.pointer (some ⟨L.b,0,none⟩)) (.ptr v g 0):=by have:=fR.ptr (c:=c.set v g L) (w:=w) v g 0 L (Ctx.sk _ _ _ _) a;simpa[h0]using this
theorem ZA(h:gv G c H w){al:Al}(b:mW H al)(t:TypeId){v:Value}{cs:List D}(e:Cells c w v.cells.toList cs)(d:K (.ptr al.1 0 0) (al.2 (.row t 0 cs))) :
  ∃w',(newVar t v).run P w = .ok ⟨w.heap.size,0,none⟩ w'/\ja G c H w K (.pointer (some ⟨w.heap.size,0,none⟩)) w':=by
 obtain⟨L,h1,j,i,k,g,f⟩:=D9 h w (jZ.refl w) t v.cells.toList cs v.cells.size v.cells (b _).tT e (by rw[<-c9,dA]) (Nat.le_refl _);refine⟨w.alloc (.cells v.cells t),by simp[newVar,newRow],?_⟩;have a:=ami (c:=c) (w:=w.alloc (.cells v.cells t)) h1 i al.1 0;rw[j]at a;exact⟨_,_,_,d,g,a,f⟩
theorem alu(h:gv G c H w){al:Al}(d:mW H al)(t:TypeId){x:D}{u:Value}(h1:fR c w u x)(a:Fu t x al K) :
  ∃r w',(Instr.box t u).run P w = .ok r w'/\ja G c H w K r w':=by
 unfold Fu at a;split at a
 .rename_i cs b;obtain⟨w',e,f⟩:=ZA (P:=P) h d t (CW h1 b) a;exact⟨_,w',by simp[Instr.box,e],f⟩
 .grind
theorem alo(h:gv G c H w){al:Al}(a:mW H al){t:TypeId}{z:List D}(b:qx P t=some z)(g:K (.ptr al.1 0 0) (al.2 (.row t 0 z))) :
  ∃r w',(Instr.alloc t true (.tuple #[])).run P w = .ok r w'/\ja G c H w K r w':=by
 obtain⟨v,d,_,i⟩:=Af b w;obtain⟨w',e,f⟩:=ZA (P:=P) h a t (i c w) g;exact⟨_,w',by simp[Instr.alloc,d,e],f⟩
theorem Cells.sq{vs us:List Value}{cs ds:List D}(h:Cells c w vs cs)(k:Cells c w us ds)(o:Nat):Cells c w (vs.take o++us++vs.drop (o+us.length)) (cs.take o++ds++cs.drop (o+ds.length)):=by rw[k.len];exact((h.take o).append k).append (h.drop _)
theorem aeI(l:List Value):∀(off:Nat) (cs:Array Value),off+l.length<=cs.size ->
  ((l.zipIdx off).foldl (λ(cs:Array Value) (x:Value×Nat)=>cs.setIfInBounds x.2 x.1) cs).toList=cs.toList.take off++l++cs.toList.drop (off+l.length):=by
 induction l with
 | nil=>intro off cs _;simp
 | cons v r a=>
  intro off cs h;simp only[aH]at h;simp only[List.zipIdx_cons,b7];rw[a (off+1) _ (by simp;omega)];simp only[Array.toList_setIfInBounds];have:=list_seg_step cs.toList off v r (by simp;omega);simpa[a7,dq 1]using this
theorem aeC(cs:Array Value)(l:Array Value)(off:Nat)(h:off+l.size<=cs.size) :
  (l.zipIdx.foldl (λ(cs:Array Value) (x:Value×Nat)=>match x with|(c,j)=>cs.setIfInBounds (off+j) c) cs).toList=cs.toList.take off++l.toList++cs.toList.drop (off+l.size):=by
 have:=aeI l.toList off cs (by simpa using h);rw[<-Array.foldl_toList,Array.toList_zipIdx]
 have e:(l.toList.zipIdx off)=(l.toList.zipIdx 0).map λx=>(x.1,off+x.2):=by
  rw[List.zipIdx_eq_map_add]
  first|done|(simp only[dq])
 rw[e,List.foldl_map]at this;exact this
theorem My(a:Nat->Option (Nat×Nat)):∀(vs:List (Nat×Value)) (ps:List (Nat×Nat×List D)) (arr:Array Value) (cs rs:List D),
  Cells c w arr.toList cs->vs.length=ps.length ->
  (∀(i:Nat) (v:Nat×Value) (p:Nat×Nat×List D),vs[i]? = some v->ps[i]? = some p->a v.1=some (p.1,p.2.1)/\Cells c w v.2.cells.toList p.2.2) ->
  lay ps cs=some rs->∃d,Instr.fill a arr vs=some d/\Cells c w d.toList rs
 | [],[],arr,cs,rs,hc,_,_,hl=>by simp[lay]at hl;subst hl;exact⟨arr,rfl,hc⟩
 | (i,v)::vs,(o,n,xs)::ps,arr,cs,rs,hc,hlen,h,hl=>by
  obtain⟨b,g⟩:=h 0 (i,v) (o,n,xs) rfl rfl;simp only[lay]at hl;split at hl
  .rename_i e;have f:v.cells.size=n:=by rw[<-e.1,<-g.len];simp
   have k:o+v.cells.size<=arr.size:=by rw[f];have:=hc.len;simp at this;omega
   simp only[Instr.fill,b];rw[if_neg (by simp;omega)];have j:=aeC arr v.cells o k;refine My a vs ps _ _ rs ?_ (by simpa using hlen) (λi v p l b=>h (i+1) v p (by simpa using l) (by simpa using b)) hl;rw[j];have:=hc.sq g o;rw[e.1]at this;simpa[f]using this
  .cases hl
theorem LQ(h:gv G c H w)(e:kK c w env a):∀(l:List (Nat×Operand)) {ps:List (Nat×X)},yU G l=some ps ->
  ps.length=l.length/\∀(i:Nat) (x:Nat×Operand) (p:Nat×X),l[i]? = some x->ps[i]? = some p->p.1=x.1/\fR c w (a.eval x.2) (ev env p.2)
 | [],ps,hx=>by cases hx;simp
 | (i,x)::r,ps,hx=>by
  simp only[yU]at hx;split at hx
  .rename_i X l hX hl;cases hx;obtain⟨g,f⟩:=LQ h e r hl;refine⟨by simp[g],λj y p b d=>?_⟩
   cases j with
   | zero=>simp at b d;subst b;subst d;exact⟨rfl,iE h e hX⟩
   | succ j=>simp at b d;exact f j y p b d
  .cases hx
theorem ZO{fs:Array Field}:∀ {ps:List (Nat×X)} {a:List (Nat×Nat×X)},HO P fs ps=some a ->
  a.length=ps.length/\∀(i:Nat) (p:Nat×X) (q:Nat×Nat×X),ps[i]? = some p->a[i]? = some q->q.2.2=p.2/\∃f,fs[p.1]? = some f/\q.1=f.offset/\kl P f.type=some q.2.1
 | [],a,h=>by cases h;simp
 | (i,x)::r,a,h=>by
  simp only[HO]at h;split at h
  .rename_i f l k hl;simp only[ak]at h;obtain⟨n,g,rfl⟩:=h;obtain⟨e,d⟩:=ZO hl;refine⟨by simp[e],λj p q c b=>?_⟩
   cases j with
   | zero=>simp at c b;subst c;subst b;exact⟨rfl,f,k,rfl,g⟩
   | succ j=>simp at c b;exact d j p q c b
  .cases h
theorem SK{l:List (Nat×Nat×X)}{r:List (Nat×Nat×List D)}(h:partsOf env l=some r) :
  r.length=l.length/\∀(i:Nat) (p:Nat×Nat×X) (q:Nat×Nat×List D),l[i]? = some p->r[i]? = some q->q.1=p.1/\q.2.1=p.2.1/\cellsOf (ev env p.2.2)=some q.2.2:=by
 induction l generalizing r with
 | nil=>simp[partsOf]at h;subst h;simp
 | cons p l a=>
  obtain⟨o,n,x⟩:=p;simp only[partsOf]at h;split at h
  .grind
  .cases h
theorem MH{α:Type}{l:List α}{n i:Nat}(hl:l.length=n)(hi:i<n):∃x,l[i]? = some x:=⟨l[i],by simp[hl▸hi]⟩
theorem alv(h:gv G c H w)(he:kK c w env a){t:TypeId}{z:List D}{ops:Array (Nat×Operand)}{ps:List (Nat×X)}{C:List (Nat×Nat×X)}{fs:Array Field}
  (V:qx P t=some z) (hp:yU G ops.toList=some ps) (Y:P.underlying t=some (.struct fs)) (hf:V8 P fs=true) (Z:HO P fs ps=some C)
  (e:Aw env z C H K):∃r,(Instr.build t (ops.map λ(i,x)=>(i,a.eval x))).run P w = .ok r w/\ja G c H w K r w:=by
 unfold Aw at e;split at e
 .rename_i l hl;split at e
  .rename_i cs T;obtain⟨v,W,_,hc⟩:=Af V w;obtain⟨j,Q⟩:=LQ h he ops.toList hp;obtain⟨q1,q2⟩:=ZO Z;obtain⟨O,N⟩:=SK hl
   have A:∃b:Array (Nat×Nat),(fs.mapM λf=>do pure (f.offset,<-sizeOf f.type):Sem (Array (Nat×Nat))).run P w = .ok b w/\∀(i:Nat) (f:Field) (n:Nat),fs[i]? = some f->kl P f.type=some n->b[i]? = some (f.offset,n):=by
    have key:∀(l:List Field),(∀f∈l,(kl P f.type).isSome=true)->∃pl:List (Nat×Nat),(l.mapM λf=>do pure (f.offset,<-sizeOf f.type):Sem (List (Nat×Nat))).run P w = .ok pl w/\∀(i:Nat) (f:Field) (n:Nat),l[i]? = some f->kl P f.type=some n->pl[i]? = some (f.offset,n):=by
     intro l
     induction l with
     | nil=>intro _;exact⟨[],by simp,by simp⟩
     | cons f l U=>
      intro E;obtain⟨pl,d,k⟩:=U (λg hg=>E g (by simp[hg]));obtain⟨n,o⟩:=c8.1 (E f (by simp));refine⟨(f.offset,n)::pl,?_,λi g m hg hm=>?_⟩
      .simp only[eJ,Sem.run_bind,qo o,Result.andThen_ok,Sem.run_pure,d]
      .grind
    obtain⟨pl,d,k⟩:=key fs.toList (λf u=>cG.1 hf f (by simpa using u));refine⟨pl.toArray,?_,λi f n hi o=>by simpa using k i f n (by simpa using hi) o⟩;rw[eX,Sem.run_map,d];rfl
   obtain⟨b,d,k⟩:=A
   obtain⟨S,M,R⟩:=My (c:=c) (w:=w) (b[·]?) (ops.toList.map λx=>(x.1,a.eval x.2)) l v.cells z cs (hc c w) (by simp[O,q1,j]) (λi x q I GQ=>by
    simp only[av,ak]at I;obtain⟨y,F,rfl⟩:=I;have hi:i<ops.toList.length:=(ae.1 F).1;obtain⟨p,B⟩:=MH j hi;obtain⟨s,L⟩:=MH (q1.trans j) hi;obtain⟨e1,e2⟩:=Q i y p F B;obtain⟨e3,f,a2,a1,a0⟩:=q2 i p s B L;obtain⟨e4,e5,J⟩:=N i s q L GQ;refine⟨?_,?_⟩
    .grind
    .rw[e3]at J
     exact CW e2 J) T
   refine⟨.agg S,?_,?_⟩
   .simp only[Instr.build,Sem.run_bind,W,Result.andThen_ok,run_underlying Y,d];have:(Array.map (λx=>(x.fst,a.eval x.snd)) ops).toList=ops.toList.map λx=>(x.1,a.eval x.2):=by simp
    simp only[this,M];rfl
   .have:=R.agg;exact .plain h e (by simpa using this)
  .exact e.elim
 .grind
theorem alw(h:gv G c H w)(J:kK c w env a){t e:TypeId}{n sz:Nat}{z:List D}{ops:Array (Nat×Operand)}{ps:List (Nat×X)}
  (C:qx P t=some z) (I:yU G ops.toList=some ps) (F:P.underlying t=some (.array n e)) (hs:kl P e=some sz)
  (b:Aw env z (ps.map λp=>(p.1*sz,sz,p.2)) H K):∃r,(Instr.build t (ops.map λ(i,x)=>(i,a.eval x))).run P w = .ok r w/\ja G c H w K r w:=by
 unfold Aw at b;split at b
 .rename_i l hl;split at b
  .rename_i cs B;obtain⟨v,E,_,L⟩:=Af C w;obtain⟨f,s⟩:=LQ h J ops.toList I;obtain⟨o,m⟩:=SK hl
   obtain⟨A,k,u⟩:=My (c:=c) (w:=w) (λi=>some (i*sz,sz)) (ops.toList.map λx=>(x.1,a.eval x.2)) l v.cells z cs (L c w) (by simp[o,f]) (λi x q j S=>by
    simp only[av,ak]at j;obtain⟨y,g,rfl⟩:=j;have hi:i<ops.toList.length:=(ae.1 g).1;obtain⟨p,d⟩:=MH f hi;obtain⟨R,Q⟩:=s i y p g d;obtain⟨O,N,M⟩:=m i (p.1*sz,sz,p.2) q (by simp[d]) S
    exact⟨by simp[O,N,R],CW Q M⟩) B
   refine⟨.agg A,?_,?_⟩
   .simp only[Instr.build,Sem.run_bind,E,Result.andThen_ok,run_underlying F,qo hs];have:(Array.map (λx=>(x.fst,a.eval x.snd)) ops).toList=ops.toList.map λx=>(x.1,a.eval x.2):=by simp
    simp only[this,k];rfl
   .have:=u.agg;exact .plain h b (by simpa using this)
  .exact b.elim
 .exact b.elim
