/- Part 1 of DisputeSettles. -/
import Derived.RangeFuncIn
import Derived.TacticsIn
import Derived.OrdersIn
import Derived.Laws.CopyRow
import Derived.Laws.AppendOwn
import Derived.Laws.OwnMore
import Derived.Laws.Concat
import Derived.Laws.Strings
import Derived.Laws.Slices
import Derived.Laws.StructEq
import Derived.Laws.BytesString
set_option linter.all false
namespace Go.AL
open Go
def ae:=@List.getElem?_eq_some_iff
def af:=@List.take_of_length_le
def ag:=@Option.bind_eq_some_iff
def ah:=@List.getElem?_append_left
def ai:=@List.getElem?_append_right
def aj:=@List.length_append
def ak:=@Option.map_eq_some_iff
def ao:=@List.mem_cons
def aq:=@List.map_congr_left
def ar:=@List.length_set
def au:=@List.getElem?_map
def av:=@Option.some.injEq
def aw:=@List.length_pos_iff
def ax:=@List.length_eq_zero_iff
def ay:=@List.getElem?_set_ne
def az:=@List.append_nil
def aA:=@Option.bind_eq_bind
def aB:=@List.mem_iff_getElem?
def aC:=@List.length_cons
def aD:=@List.getElem?_take
def aF:=@Option.map_some
def aG:=@Option.pure_def
def aH:=@List.getElem?_set_self
def aI:=@List.getElem?_drop
def aJ:=@List.length_take
def aK:=@List.append_assoc
def aL:=@List.mem_filter
def aM:=@Nat.lt_of_lt_of_le
def aN:=@List.mem_of_mem_take
def aO:=@List.set_append_left
def aP:=@Array.getElem?_eq_some_iff
def aQ:=@List.length_drop
def aR:=@Nat.zero_add
def aS:=@List.nil_append
def aT:=@Option.getD_some
def aU:=@List.eq_nil_iff_forall_not_mem
def aV:=@List.length_singleton
def aW:=@List.take_append_of_le_length
def aX:=@List.pairwise_cons
def aY:=@List.map_id
def aZ:=@List.flatten_cons
def a7:=@List.mem_flatten
def a8:=@List.mem_range
def bg:=@List.eq_nil_of_length_eq_zero
def bh:=@Nat.add_assoc
def bj:=@List.mem_cons_of_mem
def bk:=@List.mem_append_left
def bn:=@List.pairwise_append
def bp:=@List.getElem?_eq_none
def bq:=@Array.getElem?_modify
def br:=@List.drop_eq_nil_of_le
def bt:=@List.ext_getElem
def bw:=@Nat.add_mul
def bz:=@List.replicate_succ
def bA:=@List.drop_eq_getElem_cons
def bB:=@Int.toNat_natCast
def bC:=@List.mem_of_mem_drop
def bE:=@Nat.mul_le_mul_right
def bF:=@List.drop_of_length_le
def bG:=@Bool.false_eq_true
def bH:=@Array.getElem?_toList
def bI:=@List.mem_append_right
def bJ:=@List.countP_cons
def bK:=@Nat.lt_or_ge
def bL:=@List.getElem?_set
def bM:=@List.pairwise_iff_getElem
def bN:=@List.mem_flatMap
def bO:=@List.getElem?_range
def bP:=@List.flatMap_append
def bQ:=@List.ext_getElem?
def bR:=@List.nodup_append
def bS:=@Array.toArray_toList
def bT:=@Int.emod_lt_of_pos
def bU:=@Option.some.inj
def bV:=@List.getElem_mem
def bW:=@List.cons_append
def bX:=@Nat.add_zero
def bY:=@List.take_append_drop
def bZ:=@List.drop_drop
def b6:=@Nat.sub_self
def b7:=@Bool.or_eq_true
def b9:=@Int.emod_nonneg
def cd:=@List.map_map
def cj:=@Int.toNat_of_nonneg
def cu:=@List.foldl_cons
def cy:=@Array.getElem?_eq_getElem
def cz:=@Nat.eq_of_beq_eq_true
def cA:=@Ne.symm
def cD:=@Classical.choose_spec
def cE:=@Nat.succ_mul
def cF:=@Array.size_append
def cG:=@Prod.ext
def cH:=@List.set_eq_take_append_cons_drop
def cI:=@List.findIdx?_eq_some_iff_getElem
def cJ:=@Array.getElem?_append_left
def cK:=@Array.all_eq_true_iff_forall_mem
def cL:=@List.range'_succ
def cM:=@List.exists_mem_of_ne_nil
def cN:=@Array.getElem?_setIfInBounds_ne
def cO:=@Nat.zero_mul
def cP:=@List.range_eq_range'
def cQ:=@List.nodup_cons
def cS:=@List.cons.injEq
def cT:=@Nat.pow_le_pow_right
def cU:=@List.take_add_one
def cV:=@List.getElem?_cons_succ
def cW:=@Array.getD_eq_getD_getElem?
def cY:=@List.mem_filterMap
def cZ:=@List.countP_append
def c8:=@List.filter_append
def c9:=@Option.toList_some
def da:=@List.length_nil
def db:=@Nat.le_of_ble_eq_true
def de:=@List.countP_le_length
def dh:=@List.size_toArray
def dj:=@List.findIdx?_eq_none_iff
def dm:=@List.contains_eq_mem
def dp:=@Option.isSome_iff_exists
def dq:=@Array.length_toList
def dt:=@Array.toList_append
def du:=@List.find?_eq_none
def dw:=@Int.le_refl
def dy:=@Bool.not_eq_true'
def dz:=@List.count_append
def dA:=@Nat.add_comm
def dB:=@List.getElem?_toArray
def dC:=@List.contains_iff_mem
def dD:=@List.set_append_right
def dF:=@Array.getElem?_mapIdx
def dH:=@List.take_length
def dJ:=@List.flatten_nil
def dK:=@List.count_singleton
def dM:=@Prod.mk.injEq
def dO:=@List.mem_or_eq_of_mem_set
def dQ:=@Bool.decide_and
def dR:=@List.mem_take_iff_getElem
def dS:=@List.Sublist.append_left
def dT:=@Nat.mul_comm
def dW:=@Int.add_sub_cancel
def dX:=@List.map_replicate
def dY:=@List.eq_of_mem_replicate
def dZ:=@List.Pairwise.imp_of_mem
def ea:=@List.count_pos_iff
def ec:=@List.take_zero
def ef:=@List.take_take
def ei:=@List.drop_zero
def eo:=@Iff.rfl
def et:=@List.pairwise_map
def eu:=@Array.getElem?_eq_none
def ew:=@List.sublist_cons_self
def ey:=@List.append_eq_nil_iff
def eA:=@Bool.true_and
def eC:=@List.isEmpty_iff
def eD:=@Array.mem_filter
def eE:=@List.not_mem_nil
def eF:=@List.length_filter_eq_length_iff
def eG:=@List.set_getElem_self
def eH:=@List.length_mergeSort
def eI:=@List.singleton_append
def eJ:=@List.length_replicate
def eM:=@Nat.pow_succ
def eN:=@List.replicate_succ'
def eO:=@List.drop_append_of_le_length
def eP:=@Array.getElem?_push
def eQ:=@List.replicate_zero
def eR:=@Nat.mul_le_mul_left
def eT:=@List.flatten_append
def eU:=@List.filter_eq_self
def eV:=@List.mapM_cons
def eW:=@Int.toNat_zero
def eX:=@Nat.mul_one
def eY:=@Nat.eq_zero_or_pos
def eZ:=@Int.add_assoc
def e7:=@List.exists_cons_of_ne_nil
def e9:=@Function.comp_def
def fe:=@Int.not_lt
def ff:=@Array.mapM_eq_mapM_toList
def fg:=@List.mem_of_find?_eq_some
def fh:=@Nat.mod_eq_of_lt
def fj:=@Nat.sub_zero
def fm:=@List.nodup_range
def fo:=@Nat.le_add_right
def fq:=@List.drop_append
def fr:=@Nat.le_of_not_lt
def ft:=@Nat.mul_le_mul_right_iff
def fu:=@List.length_erase_of_mem
def fw:=@List.length_filterMap_le
def fy:=@Array.toList_inj
def fD:=@List.getElem?_replicate
def fE:=@List.pairwise_mergeSort
def fF:=@List.getElem?_cons_zero
def fG:=@List.append_inj
def fH:=@List.range_succ
def fJ:=@List.length_pos_of_mem
def fL:=@List.length_eq_one_iff
def fM:=@Bool.decide_or
def fO:=@List.Pairwise.sublist
def fQ:=@List.perm_append_comm
def fR:=@Nat.not_lt
def fV:=@Nat.mul_assoc
def fX:=@Nat.min_zero
def fY:=@Int.le_trans
def pD{A P:Prop}(k:P)(a:A:=by first|omega|(dsimp only;omega)):A/\P:=⟨a,k⟩
def qo{A B P:Prop}(k:P)(a:A:=by first|omega|(dsimp only;omega))(b:B:=by first|omega|(dsimp only;omega)):A/\B/\P:=⟨a,b,k⟩
def gJ{A B C P:Prop}(k:P)(a:A:=by first|omega|(dsimp only;omega))(b:B:=by first|omega|(dsimp only;omega))(c:C:=by first|omega|(dsimp only;omega)):A/\B/\C/\P:=⟨a,b,c,k⟩
def AM{A B C D P:Prop}(k:P)(a:A:=by first|omega|(dsimp only;omega))(b:B:=by first|omega|(dsimp only;omega))(c:C:=by first|omega|(dsimp only;omega))(d:D:=by first|omega|(dsimp only;omega)):A/\B/\C/\D/\P:=⟨a,b,c,d,k⟩
def iE{A B:Prop}(a:A:=by first|omega|(dsimp only;omega))(b:B:=by first|omega|(dsimp only;omega)):A/\B:=⟨a,b⟩
def mj{A B C:Prop}(a:A:=by first|omega|(dsimp only;omega))(b:B:=by first|omega|(dsimp only;omega))(c:C:=by first|omega|(dsimp only;omega)):A/\B/\C:=⟨a,b,c⟩
inductive D where
 | any
 | val (v:Value)
 | agg (cs:List D)
 | tup (cs:List D)
 | sl (sz:Nat) (es:List (List D))
 | gg
 | l9 (vs:List Value)
 | fZ (v g sz off len:Nat)
 | ptr (v g off:Nat)
 | gC (cs:List D)
 | gH (v:Nat)
 | fn (fn:Fn) (first captured:List D)
 | ja (v:Nat)
 deriving Inhabited
abbrev D.i(n:Int):D:=.val (.int .i64 n)
abbrev D.b(x:Bool):D:=.val (.bool x)
abbrev Env:=List (Nat×D)
def Env.get:Env->Nat->D
 | [],_=>.any
 | (k,d)::r,j=>match Nat.beq k j with
  | true=>d
  | false=>Env.get r j
def Env.xf(k:Nat)(d:D)(r:Env)(j:Nat):Env.get ((k,d)::r) j=if k=j then d else Env.get r j:=by
 simp only[Env.get]
 by_cases h:k=j
 .simp_all
 .have:Nat.beq k j=false:=by
   cases a:Nat.beq k j with
   | false=>rfl
   | true=>exact absurd (cz a) h
  rw[if_neg h,this]
structure Loc where
 b:Nat
 base:Nat
 top:Nat
 jN:Bool:=false
structure Ctx where
 ι:Nat->Nat->Option Loc
 F:Nat->Prop
 RT:Nat->Option (Nat×Array Tmp×Code×Code)
inductive gh(c:Ctx)(w:World):Value->D->Prop
 | any (v:Value):gh c w v .any
 | val (v:Value):gh c w v (.val v)
 | agg (vs:List Value) (ds:List D) (hl:vs.length=ds.length) (h1:∀v∈vs,v.oneCell'=true)
   (h:∀(i:Nat) (v:Value) (d:D),vs[i]? = some v->ds[i]? = some d->gh c w v d):gh c w (.agg vs.toArray) (.agg ds)
 | tup (vs:List Value) (ds:List D) (hl:vs.length=ds.length)
   (h:∀(i:Nat) (v:Value) (d:D),vs[i]? = some v->ds[i]? = some d->gh c w v d):gh c w (.tuple vs.toArray) (.tup ds)
 | sl (a:Option Addr) (len cap sz:Nat) (es:List (List D)) (g:Nat->Nat->Value)
   (hlen:es.length=len) (ka:len<=cap) (jc:cap<=maxLen) (iP:∀e∈es,e.length=sz)
   (lL:a=none->cap=0)
   (hc:∀(i:Nat) (e:List D) (j:Nat) (d:D),es[i]? = some e->e[j]? = some d->∃b o,a=some ⟨b,o,none⟩/\c.F b/\w.cell? ⟨b,o+(i*sz+j),none⟩=some (g i j)/\(g i j).oneCell'=true)
   (hr:∀(i:Nat) (e:List D) (j:Nat) (d:D),es[i]? = some e->e[j]? = some d->gh c w (g i j) d):gh c w (.slice a len cap) (.sl sz es)
 | gg:gh c w (.slice none 0 0) .gg
 | l9 (a:Option Addr) (vs:List Value) (jc:vs.length<=maxLen) (lL:a=none->vs = [])
   (hc:∀(i:Nat) (v:Value),vs[i]? = some v->∃b o,a=some ⟨b,o,none⟩/\c.F b/\w.cell? ⟨b,o+i,none⟩=some v/\v.oneCell'=true):gh c w (.slice a vs.length vs.length) (.l9 vs)
 | fZ (v k sz off len cap:Nat) (L:Loc) (gu:c.ι v k=some L) (hv:L.jN=false) (ka:len<=cap) (jc:cap<=maxLen)
   (lN:L.base+(off+cap)*sz<=L.top):gh c w (.slice (some ⟨L.b,L.base+off*sz,none⟩) len cap) (.fZ v k sz off len)
 | mA (v k sz off:Nat) (L:Loc) (gu:c.ι v k=some L) (a:Option Addr):gh c w (.slice a 0 0) (.fZ v k sz off 0)
 | ptr (v k off:Nat) (L:Loc) (gu:c.ι v k=some L) (hv:L.jN=false):gh c w (.pointer (some ⟨L.b,L.base+off,none⟩)) (.ptr v k off)
 | gC (b o:Nat) (cs:List D) (g:Nat->Value) (hF:c.F b)
   (hc:∀(j:Nat) (d:D),cs[j]? = some d->w.cell? ⟨b,o+j,none⟩=some (g j)/\(g j).oneCell'=true)
   (hr:∀(j:Nat) (d:D),cs[j]? = some d->gh c w (g j) d):gh c w (.pointer (some ⟨b,o,none⟩)) (.gC cs)
 | gH (v:Nat) (L:Loc) (gu:c.ι v 0=some L) (hv:L.jN=false):gh c w (.map (some L.b)) (.gH v)
 | fn (fn:Fn) (fs cs:List Value) (df dc:List D) (jY:fs.length=df.length) (jP:cs.length=dc.length)
   (h1:∀(i:Nat) (v:Value) (d:D),fs[i]? = some v->df[i]? = some d->gh c w v d)
   (h2:∀(i:Nat) (v:Value) (d:D),cs[i]? = some v->dc[i]? = some d->gh c w v d):gh c w (.func fn fs.toArray cs.toArray) (.fn fn df dc)
 | ja (v:Nat) (L:Loc) (gu:c.ι v 0=some L) (hv:L.jN=false):gh c w (.func (.yield L.b) #[] #[]) (.ja v)
inductive KK where
 | int (k:IntKind)
 | str
 | bool
 | ints (l:List IntKind)
 deriving Inhabited,DecidableEq
def tt:List IntKind->List Value->Bool
 | [],[]=>true
 | k::ks,.int k' _::vs=>k == k'&&tt ks vs
 | _,_=>false
def KK.has:KK->Value->Bool
 | .int k,.int k' _=>k == k'
 | .str,.string _=>true
 | .bool,.bool _=>true
 | .ints l,.agg cs=>tt l cs.toList
 | _,_=>false
inductive qv where
 | ready|busy|Bk|zM (id:Nat)
 deriving Inhabited,DecidableEq
inductive Ob where
 | row (t:TypeId) (g:Nat) (cs:List D)
 | map (kk:KK) (es:List (Value×D))
 | im (rf:Nat) (env:Env) (st:qv)
 | sO (s:ByteArray) (pos:Nat)
 | jj (m:D) (since:Nat) (seen:List Nat)
 | jE
 | dead
 | lY
 deriving Inhabited
def Ob.alive:Ob->Bool
 | .dead | .lY=>false
 | _=>true
def Ob.gen:Ob->Nat
 | .row _ g _=>g
 | _=>0
abbrev U:=List Ob
def l7(c:Ctx)(H:U)(v:Nat)(L:Loc):Prop:=∃o,H[v]? = some o/\o.alive=true/\c.ι v o.gen=some L
def mm(c:Ctx)(H:U)(b:Nat):Prop:=∃v L,l7 c H v L/\L.jN=false/\L.b=b
def F7(c:Ctx)(w:World)(arr:Array MapEntry)(a:Nat)(es:List (Value×D)):Prop:=
 arr.size=es.length/\(∀(i:Nat) (e:MapEntry) (x:Value×D),arr[i]? = some e->es[i]? = some x->e.key=x.1/\gh c w e.val x.2/\e.born=i)/\a=es.length
def qv.is:qv->Loop->Prop
 | .ready,r=>r.state = .ready/\r.pending=none
 | .busy,r=>r.state = .busy
 | .Bk,r=>r.state = .done/\r.pending=some .ret
 | .zM id,r=>r.state = .done/\r.pending=some (.exit id)
def ie(c:Ctx)(w:World):Option Loc->Ob->Prop
 | _,.dead=>True
 | L,.lY=>L=none
 | none,_=>False
 | some L,.row t _ cs=>if L.jN then cs = []else
   ∃arr:Array Value,w.heap[L.b]? = some (.cells arr t (0,0))/\L.top=arr.size/\L.base+cs.length<=L.top /\
    ∀(i:Nat) (d:D),cs[i]? = some d->∃v,arr[L.base+i]? = some v/\v.oneCell'=true/\gh c w v d
 | some L,.map kk es=>L.jN=false/\(∀x∈es,kk.has x.1=true)/\∃arr a,w.heap[L.b]? = some (.map arr a)/\F7 c w arr a es
 | some L,.im rf env st=>L.jN=false/\∃r:Loop,w.heap[L.b]? = some (.loop r)/\(∀k,gh c w (r.tmps.getD k undef) (env.get k)) /\
   (∃N,c.RT rf=some (N,r.params,r.assign,r.body)/\N<=r.tmps.size)/\st.is r
 | some L,.sO s p=>L.jN=false/\L.base=0/\w.heap[L.b]? = some (.stringIter s p)
 | some L,.jj m since seen=>L.jN=false/\L.base=0/\∃b:Nat,gh c w (.map (some b)) m/\w.heap[L.b]? = some (.mapIter (some b) since seen.toArray since)
 | some L,.jE=>L.jN=true\/w.heap[L.b]? = some (.deferred (some []))
structure HeapOK(c:Ctx)(H:U)(w:World):Prop where
 inj:∀v v' L L',l7 c H v L->l7 c H v' L'->L.jN=false->L'.jN=false->L.b=L'.b->v=v'
 lt:∀b,mm c H b->b<w.heap.size
 nF:∀b,mm c H b->¬c.F b
 kR:∀b,c.F b->b<w.heap.size
 out:∀v k,H.length<=v->c.ι v k=none
 mF:∀v o k,H[v]? = some o->(o = .lY\/(o.alive=true/\o.gen<k))->c.ι v k=none
 ob:∀(v:Nat) (o:Ob),H[v]? = some o->ie c w (c.ι v o.gen) o
structure Step(n:Nat)(c:Ctx)(H:U)(w:World)(c':Ctx)(H':U)(w':World):Prop where
 os:w'.os=w.os/\w.drawn<=w'.drawn
 tape:w'.tape=w.tape
 output:w'.output=w.output
 size:w.heap.size<=w'.heap.size
 RT:c'.RT=c.RT
 Fm:∀b,c.F b->c'.F b
 Fn:∀b,c'.F b->c.F b\/w.heap.size<=b\/mm c H b
 kept:∀b,b<w.heap.size->¬mm c H b->w'.heap[b]? = w.heap[b]?
 old:∀v k L,v<n->c.ι v k=some L->c'.ι v k=some L
 own:∀b,mm c' H' b->w.heap.size<=b\/mm c H b
def Step.refl(n:Nat)(c:Ctx)(H:U)(w:World):Step n c H w c H w:=
 ⟨⟨rfl,Nat.le_refl _⟩,rfl,rfl,Nat.le_refl _,rfl,λ_ h=>h,λ_ h=>.inl h,λ_ _ _=>rfl,λ_ _ _ _ h=>h,λ_ h=>.inr h⟩
theorem Step.trans{n m:Nat}{c d c2:Ctx}{H H1 H2:U}{w w1 w2:World}(h1:Step n c H w d H1 w1)(a:Step m d H1 w1 c2 H2 w2)(f:n<=m) :
  Step n c H w c2 H2 w2 where
 os:=⟨a.os.1.trans h1.os.1,Nat.le_trans h1.os.2 a.os.2⟩
 tape:=a.tape.trans h1.tape
 output:=a.output.trans h1.output
 size:=Nat.le_trans h1.size a.size
 RT:=a.RT.trans h1.RT
 Fm b h:=a.Fm b (h1.Fm b h)
 Fn b h:=by
  rcases a.Fn b h with h|h|h
  .exact h1.Fn b h
  .exact .inr (.inl (Nat.le_trans h1.size h))
  .rcases h1.own b h with h|h
   .grind
   .grind
 kept b hb hn:=by
  rw[a.kept b (aM hb h1.size) (λe=>?_),h1.kept b hb hn];rcases h1.own b e with h|h
  .omega
  .exact hn h
 old v k L hv h:=a.old v k L (by omega) (h1.old v k L hv h)
 own b h:=by
  rcases a.own b h with h|h
  .exact .inl (Nat.le_trans h1.size h)
  .exact h1.own b h
def Step.weaken{n m:Nat}{c c':Ctx}{H H':U}{w w':World}(h:Step n c H w c' H' w')(b:m<=n):Step m c H w c' H' w':=
 { h with old:=λv k L a=>h.old v k L (by omega) }
def Gu{w w':World}{a:Addr}(h:w'.heap[a.block]? = w.heap[a.block]?):w'.cell? a=w.cell? a:=by simp[World.cell?,h]
def gh.carry{c c':Ctx}{w w':World}(s:∀v k L,c.ι v k=some L->c'.ι v k=some L)(B:∀b,c.F b->c'.F b)
  (t:∀b o,c.F b->w'.cell? ⟨b,o,none⟩=w.cell? ⟨b,o,none⟩) {v:Value} {d:D} (h:gh c w v d):gh c' w' v d:=by
 induction h with
 | any v=>exact .any _
 | val v=>exact .val _
 | agg vs ds hl h1 h n=>exact .agg vs _ hl h1 n
 | tup vs ds hl h n=>exact .tup vs _ hl n
 | sl a len cap sz es g q y p I x r J n=>
  refine .sl a len cap sz _ g q y p I x ?_ n;intro i e j d K z;obtain⟨b,o,A,m,u,h1⟩:=r i e j d K z;exact⟨b,o,A,B b m,by rw[t b _ m];exact u,h1⟩
 | gg=>exact .gg
 | l9 a vs p x r=>
  refine .l9 a vs p x ?_;intro i v l;obtain⟨b,o,A,m,u,h1⟩:=r i v l;exact⟨b,o,A,B b m,by rw[t b _ m];exact u,h1⟩
 | fZ v k sz off len cap L h l y p F=>exact .fZ v k sz off len cap L (s _ _ _ h) l y p F
 | mA v k sz off L h a=>exact .mA v k sz off L (s _ _ _ h) a
 | ptr v k off L h l=>exact .ptr v k off L (s _ _ _ h) l
 | gC b o cs g m r J n=>
  refine .gC b o _ g (B b m) ?_ n;intro j d z;rw[t b _ m];exact r j d z
 | gH v L h l=>exact .gH v L (s _ _ _ h) l
 | fn f fs cs N O G H h1 M E C=>exact .fn f fs cs _ _ G H E C
 | ja v L h l=>exact .ja v L (s _ _ _ h) l
def gh.step{n:Nat}{c c':Ctx}{H H':U}{w w':World}(e:HeapOK c H w)(hs:Step n c H w c' H' w')(i:H.length<=n){v:Value}{d:D}(h:gh c w v d) :
  gh c' w' v d:=by
 refine h.carry (λv k L a=>hs.old v k L ?_ a) hs.Fm (λb o f=>Gu (hs.kept b (e.kR b f) (λg=>e.nF b g f)));rcases bK v H.length with h|h
 .omega
 .rw[e.out v k h]at a;cases a
def gh.p7{c c':Ctx}{H H':U}{w w':World}(a:HeapOK c H w)(hs:Step H.length c H w c' H' w'){v:Value}{d:D}(h:gh c w v d):gh c' w' v d:=
 h.step a hs (Nat.le_refl _)
inductive X where
 | t (k:Nat)
 | c (d:D)
 deriving Inhabited
abbrev gT:=Nat->D
def ev(env:gT):X->D
 | .t k=>env k
 | .c d=>d
def cellsOf:D->Option (List D)
 | .agg cs=>some cs
 | .any | .tup _=>none
 | .val v=>if v.oneCell' then some [.val v]else none
 | d=>some [d]
def one:D->Bool
 | .any | .tup _ | .agg _=>false
 | .val v=>v.oneCell'
 | _=>true
mutual
def closed:D->Bool
 | .any | .val _ | .gg | .l9 _=>true
 | .agg cs | .tup cs | .gC cs=>gG cs
 | .sl _ es=>DK es
 | .fZ .. | .ptr .. | .gH _ | .ja _=>false
 | .fn _ a b=>gG a&&gG b
def gG:List D->Bool
 | []=>true
 | d::ds=>closed d&&gG ds
def DK:List (List D)->Bool
 | []=>true
 | e::es=>gG e&&DK es
end
def nW:Value->Value->Bool
 | .int k a,.int k' b=>k == k'&&a == b
 | .string a,.string b=>a == b
 | .bool a,.bool b=>a == b
 | .agg a,.agg b=>a.size == b.size&&(a.toList.zip b.toList).all λ(x,y)=>match x,y with
  | .int k a,.int k' b=>k == k'&&a == b
  | _,_=>false
 | _,_=>false
def IB:List D->Option (List Value)
 | []=>some []
 | .val (.int k n)::r=>(IB r).map (.int k n :: ·)
 | _::_=>none
def keyOf:D->Option Value
 | .val (.int k n)=>some (.int k n)
 | .val (.string s)=>some (.string s)
 | .val (.bool b)=>some (.bool b)
 | .agg cs=>(IB cs).map λl=>.agg l.toArray
 | _=>none
def sJ:Value->D
 | .agg cs=>.agg (cs.toList.map .val)
 | v=>.val v
def rr:List (Value×D)->Value->Option D
 | [],_=>none
 | (k,d)::r,j=>if nW j k then some d else rr r j
def mz:List (Value×D)->Value->D->List (Value×D)
 | [],j,x=>[(j,x)]
 | (k,d)::r,j,x=>if nW j k then(j,x)::r else(k,d)::mz r j x
inductive mH where
 | int|bool|str
 deriving Inhabited,DecidableEq
inductive A9 where
 | slice|string|map
 deriving Inhabited,DecidableEq
inductive iR where
 | mv (x:X)
 | pick (c a b:X)
 | box (t:TypeId) (x:X)
 | alloc (t:TypeId) (z:List D)
 | build (z:List D) (ps:List (Nat×Nat×X))
 | buildSl (t sz:Nat) (z:List D) (n:Nat) (ps:List (Nat×X))
 | ld1 (x:X)
 | ldN (n:Nat) (x:X)
 | st1 (a x:X)
 | stN (n:Nat) (a x:X)
 | nilck (x:X)
 | arith (op:BinOp) (x y:X)
 | eqS (jL:Bool) (ls:List mH) (neg:Bool) (x y:X)
 | un (op:UnOp) (x:X)
 | conv (k:IntKind) (x:X)
 | b2s (x:X)
 | mkfn (fn:Fn) (first captured:List X)
 | mkmap (kk:KK)
 | mksl (t sz bytes:Nat) (z:List D) (l c:X)
 | slc (sz:Nat) (x:X) (lo hi:Option X)
 | slcS (x:X) (lo hi:Option X)
 | slc3 (sz:Nat) (x:X) (lo:Option X) (hi mx:X)
 | slcArr (sz n:Nat) (x:X) (lo hi:Option X)
 | fieldA (off:Nat) (x:X)
 | field (off n:Nat) (jL:Bool) (x:X)
 | idxA (sz:Nat) (x i:X)
 | idxArr (sz n:Nat) (x i:X)
 | idx (sz n:Nat) (jL:Bool) (x i:X)
 | idxStr (x i:X)
 | lookup (kk:KK) (z:D) (ok:Bool) (m k:X)
 | mapUpd (kk:KK) (m k v:X)
 | ext (x:X) (i:Nat)
 | call (f:FuncId) (args:List X)
 | callN (f:FuncId) (args:List X)
 | callv (f:X) (args:List X)
 | app (t sz bytes:Nat) (x y:X)
 | copy (sz:Nat) (x y:X)
 | len (k:A9) (x:X)
 | minmax (isMax:Bool) (xs:List X)
 | nilS (neg:Bool) (x:X)
 | capE (x:X)
 | appZ (t sz bytes:Nat) (z:List D) (x n:X)
 | clr (sz:Nat) (z:List D) (x:X)
 | rangeS (x:X)
 | nextS (x:X)
 | rangeM (x:X)
 | nextM (x:X)
 | entry (x:X)
 | mapEnt (kk:KK) (z:D) (m k:X)
 | entSt (m s x:X)
 deriving Inhabited
structure ia where
 dst:Option Nat
 op:iR
 guard:Option (Nat×Bool):=none
 deriving Inhabited
structure GT where
 g:Nat->Option (List D)
 rt:Nat->Option (Nat×Array Tmp×Code×Code)
 nw:FuncId->Bool:=λ_=>false
instance:CoeFun GT (λ_=>Nat->Option (List D)):=⟨GT.g⟩
inductive jC(c:Ctx)(w:World):List Value->List D->Prop
 | nil:jC c w [] []
 | cons {v d vs ds} (h:gh c w v d) (t:jC c w vs ds):jC c w (v::vs) (d::ds)
structure gE(G:GT)(c:Ctx)(H:U)(w:World):Prop extends HeapOK c H w where
 gl:∀(g:Nat) (cs:List D),G g=some cs->gG cs=true/\gh c w (.pointer (some ⟨g,0,none⟩)) (.gC cs)
 rt:c.RT=G.rt
abbrev jG:=D->U->Prop
abbrev Al:=Nat×(Ob->U)
def Al.last(H:U):Al:=(H.length,λob=>H ++ [ob])
def Al.lY(H:U)(v:Nat):Al:=(v,λob=>H.set v ob)
def om(n:Int):Prop := -9223372036854775808<=n/\n<=9223372036854775807
def Ge(op:BinOp)(k:IntKind)(a b:Int)(H:U)(K:jG):Prop:=
 match op with
 | .add=>if k = .i64 then om (a+b)/\K (.val (.int .i64 (a+b))) H else K (.val (.int k (k.wrap (a+b)))) H
 | .sub=>if k = .i64 then om (a-b)/\K (.val (.int .i64 (a-b))) H else K (.val (.int k (k.wrap (a-b)))) H
 | .mul=>if k = .i64 then om (a*b)/\K (.val (.int .i64 (a*b))) H else K (.val (.int k (k.wrap (a*b)))) H
 | .quo=>b≠0/\K (.val (.int k (k.wrap (a.tdiv b)))) H
 | .rem=>b≠0/\K (.val (.int k (a.tmod b))) H
 | .and | .or | .xor | .andNot=>K (.val (.int k (bits op k a b))) H
 | .eql=>K (.val (.bool (a == b))) H
 | .neq=>K (.val (.bool (a != b))) H
 | .lss=>K (.val (.bool (decide (a<b)))) H
 | .leq=>K (.val (.bool (decide (a<=b)))) H
 | .gtr=>K (.val (.bool (decide (a>b)))) H
 | .geq=>K (.val (.bool (decide (a>=b)))) H
 | _=>False
def Jl(op:BinOp)(k:IntKind)(a b:Int)(H:U)(K:jG):Prop:=
 match op with
 | .shl=>0<=b/\K (.val (.int k (k.wrap (a*2 ^ (min b.toNat k.bits))))) H
 | .shr=>0<=b/\K (.val (.int k (a.fdiv (2 ^ (min b.toNat k.bits))))) H
 | _=>False
def pY:BinOp->Bool
 | .shl | .shr=>true
 | _=>false
def PT(op:BinOp)(a b:ByteArray)(H:U)(K:jG):Prop:=
 match op with
 | .eql=>K (.val (.bool (a.data.toList == b.data.toList))) H
 | .neq=>K (.val (.bool (!(a.data.toList == b.data.toList)))) H
 | .add=>((a.size+b.size:Nat):Int)<=9223372036854775807/\K (.val (.string (a++b))) H
 | _=>False
def Gj(op:BinOp)(x y:D)(H:U)(K:jG):Prop:=
 match x,y with
 | .val (.int k a),.val (.int k' b)=>if pY op then Jl op k a b H K else k=k'/\Ge op k a b H K
 | .val (.string a),.val (.string b)=>PT op a b H K
 | _,_=>False
def JD(op:UnOp)(x:D)(H:U)(K:jG):Prop:=
 match op,x with
 | .not,.val (.bool b)=>K (.val (.bool (!b))) H
 | .neg,.val (.int .i64 n)=>om (-n)/\K (.val (.int .i64 (-n))) H
 | .xor,.val (.int k n)=>K (.val (.int k (bits .xor k (if k.signed then -1 else k.max) n))) H
 | _,_=>False
def uO:mH->D->D->Option Bool
 | .int,.val (.int k a),.val (.int k' b)=>if k=k' then some (a == b)else none
 | .bool,.val (.bool a),.val (.bool b)=>some (a == b)
 | .str,.val (.string a),.val (.string b)=>some (a.data.toList == b.data.toList)
 | _,_,_=>none
def mI:List mH->List D->List D->Option Bool
 | [],[],[]=>some true
 | l::ls,x::xs,y::ys=>match uO l x y,mI ls xs ys with
  | some a,some b=>some (a&&b)
  | _,_=>none
 | _,_,_=>none
def w9(c:Bool)(ls:List mH)(neg:Bool)(x y:D)(H:U)(K:jG):Prop:=
 match c,x,y with
 | true,.agg a,.agg b=>match mI ls a b with
  | some r=>K (.val (.bool (if neg then !r else r))) H
  | none=>False
 | false,x,y=>match mI ls [x] [y]with
  | some r=>K (.val (.bool (if neg then !r else r))) H
  | none=>False
 | _,_,_=>False
def IY(c a b:D)(H:U)(K:jG):Prop:=
 match c with
 | .val (.bool x)=>K (if x then a else b) H
 | _=>False
def rowAt(H:U)(v k:Nat):Option (TypeId×List D):=match H[v]? with
 | some (.row t g cs)=>if g=k then some (t,cs)else none
 | _=>none
def IC(x:D)(H:U)(K:jG):Prop:=
 match x with
 | .ptr v g o=>match rowAt H v g with
  | some (_,cs)=>match cs[o]? with
   | some d=>K d H
   | none=>False
  | none=>False
 | .gC cs=>match cs[0]? with
  | some d=>K d H
  | none=>False
 | _=>False
def ID(n:Nat)(x:D)(H:U)(K:jG):Prop:=
 match x with
 | .ptr v g o=>match rowAt H v g with
  | some (_,cs)=>o+n<=cs.length/\K (.agg ((cs.drop o).take n)) H
  | none=>False
 | .gC cs=>n<=cs.length/\K (.agg (cs.take n)) H
 | _=>False
def Js(a x:D)(H:U)(K:jG):Prop:=
 match a with
 | .ptr v g o=>match rowAt H v g with
  | some (t,cs)=>o<cs.length/\one x=true/\K .any (H.set v (.row t g (cs.set o x)))
  | none=>False
 | _=>False
def Jt(n:Nat)(a x:D)(H:U)(K:jG):Prop:=
 match a,cellsOf x with
 | .ptr v g o,some xs=>match rowAt H v g with
  | some (t,cs)=>xs.length=n/\o+n<=cs.length/\K .any (H.set v (.row t g (cs.take o++xs++cs.drop (o+n))))
  | none=>False
 | _,_=>False
def Gl(t:TypeId)(x:D)(al:Al)(K:jG):Prop:=
 match cellsOf x with
 | some cs=>K (.ptr al.1 0 0) (al.2 (.row t 0 cs))
 | none=>False
def lay:List (Nat×Nat×List D)->List D->Option (List D)
 | [],cs=>some cs
 | (o,n,xs)::r,cs=>if xs.length=n/\o+n<=cs.length then lay r (cs.take o++xs++cs.drop (o+n))else none
def partsOf(env:gT):List (Nat×Nat×X)->Option (List (Nat×Nat×List D))
 | []=>some []
 | (o,n,x)::r=>match cellsOf (ev env x),partsOf env r with
  | some cs,some l=>some ((o,n,cs)::l)
  | _,_=>none
def Bc(env:gT)(z:List D)(ps:List (Nat×Nat×X))(H:U)(K:jG):Prop:=
 match partsOf env ps with
 | some l=>match lay l z with
  | some cs=>K (.agg cs) H
  | none=>False
 | none=>False
def Gm(env:gT)(t sz:Nat)(z:List D)(n:Nat)(ps:List (Nat×X))(al:Al)(K:jG):Prop:=
 match partsOf env (ps.map λp=>(p.1*sz,sz,p.2))with
 | some l=>match lay l (List.replicate n z).flatten with
  | some cs=>K (.fZ al.1 0 sz 0 n) (al.2 (.row t 0 cs))
  | none=>False
 | none=>False
def GZ(off:Nat)(x:D)(H:U)(K:jG):Prop:=
 match x with
 | .ptr v g o=>K (.ptr v g (o+off)) H
 | .gC cs=>K (.gC (cs.drop off)) H
 | _=>False
def Bv(off n:Nat)(a:Bool)(x:D)(H:U)(K:jG):Prop:=
 match x with
 | .agg cs=>if a then off+n<=cs.length/\K (.agg ((cs.drop off).take n)) H else match cs[off]? with
  | some d=>K d H
  | none=>False
 | _=>False
def Iu(sz:Nat)(x i:D)(H:U)(K:jG):Prop:=
 match x,i with
 | .sl gV es,.val (.int _ n)=>gV=sz/\(0<=n/\n<es.length)/\K (.gC (es.getD n.toNat [])) H
 | .l9 vs,.val (.int _ n)=>1=sz/\(0<=n/\n<vs.length)/\K (.gC [.val (vs.getD n.toNat undef)]) H
 | .fZ v g gV off len,.val (.int _ n)=>gV=sz/\(0<=n/\n<len)/\K (.ptr v g ((off+n.toNat)*sz)) H
 | _,_=>False
def Iv(sz n:Nat)(x i:D)(H:U)(K:jG):Prop:=
 match x,i with
 | .ptr v g o,.val (.int _ k)=>(0<=k/\k<n)/\K (.ptr v g (o+k.toNat*sz)) H
 | .gC cs,.val (.int _ k)=>(0<=k/\k<n)/\K (.gC (cs.drop (k.toNat*sz))) H
 | _,_=>False
def Ix(sz n:Nat)(a:Bool)(x i:D)(H:U)(K:jG):Prop:=
 match x,i with
 | .agg cs,.val (.int _ k)=>(0<=k/\k<n)/\Bv (k.toNat*sz) sz a (.agg cs) H K
 | _,_=>False
def Iy(x i:D)(H:U)(K:jG):Prop:=
 match x,i with
 | .val (.string s),.val (.int _ k)=>(0<=k/\k<s.size)/\K (.val (.int .u8 ((s.data.toList.getD k.toNat 0).toNat))) H
 | _,_=>False
def lP(H:U)(v:Nat):Option (KK×List (Value×D)):=match H[v]? with
 | some (.map kk es)=>some (kk,es)
 | _=>none
def IH(a:KK)(z:D)(ok:Bool)(m k:D)(H:U)(K:jG):Prop:=
 match m,keyOf k with
 | .gH v,some kv=>match lP H v with
  | some (kk,es)=>kk=a/\kk.has kv=true/\(match rr es kv with
    | some d=>K (if ok then .tup [d,.val (.bool true)]else d) H
    | none=>K (if ok then .tup [z,.val (.bool false)]else z) H)
  | none=>False
 | _,_=>False
def IK(a:KK)(m k x:D)(H:U)(K:jG):Prop:=
 match m,keyOf k with
 | .gH v,some kv=>match lP H v with
  | some (kk,es)=>kk=a/\kk.has kv=true/\K .any (H.set v (.map kk (mz es kv x)))
  | none=>False
 | _,_=>False
def GU(x:D)(i:Nat)(H:U)(K:jG):Prop:=
 match x with
 | .tup ds=>match ds[i]? with
  | some d=>K d H
  | none=>False
 | _=>False
def IP(t sz bytes:Nat)(z:List D)(l c:D)(al:Al)(K:jG):Prop:=
 match l,c with
 | .val (.int _ n),.val (.int _ m)=>(0<=n/\n<=m/\m<=9223372036854775807/\(bytes:Int)*m<=281474976710656)/\K (.fZ al.1 0 sz 0 n.toNat) (al.2 (.row t 0 (List.replicate m.toNat z).flatten))
 | _,_=>False
def ik(env:gT):Option X->Int->Option Int
 | none,n=>some n
 | some x,_=>match ev env x with
  | .val (.int _ n)=>some n
  | _=>none
def Jo(env:gT)(sz:Nat)(x:D)(lo hi:Option X)(H:U)(K:jG):Prop:=
 match x with
 | .sl a es=>match ik env lo 0,ik env hi es.length with
  | some l,some h=>a=sz/\(0<=l/\l<=h/\h<=es.length)/\K (.sl sz ((es.drop l.toNat).take (h.toNat-l.toNat))) H
  | _,_=>False
 | .fZ v g a off len=>match ik env lo 0,ik env hi len with
  | some l,some h=>a=sz/\(0<=l/\l<=h/\h<=len)/\K (.fZ v g sz (off+l.toNat) (h.toNat-l.toNat)) H
  | _,_=>False
 | .gg=>match ik env lo 0,ik env hi 0 with
  | some l,some h=>(l=0/\h=0)/\K .gg H
  | _,_=>False
 | _=>False
def FA:List (List D)->Option (List Value)
 | []=>some []
 | [.val v]::r=>if v.oneCell' then(match FA r with|some l=>some (v::l)|none=>none)else none
 | _::_=>none
def clip(sz:Nat)(es:List (List D)):D:=match FA es with
 | some vs=>if sz=1 then .l9 vs else .sl sz es
 | none=>.sl sz es
def Jm(env:gT)(sz:Nat)(x:D)(lo:Option X)(hi mx:X)(H:U)(K:jG):Prop:=
 match ik env lo 0,ik env (some hi) 0,ik env (some mx) 0 with
 | some l,some h,some m=>match x with
  | .sl a es=>a=sz/\(0<=l/\l<=h/\h=m/\m<=es.length)/\K (clip sz ((es.drop l.toNat).take (h.toNat-l.toNat))) H
  | .fZ v g a off len=>a=sz/\(0<=l/\l<=h/\h<=m/\m<=len)/\K (.fZ v g sz (off+l.toNat) (h.toNat-l.toNat)) H
  | .gg=>(l=0/\h=0/\m=0)/\K .gg H
  | _=>False
 | _,_,_=>False
def Jn(env:gT)(sz n:Nat)(x:D)(lo hi:Option X)(H:U)(K:jG):Prop:=
 match x,ik env lo 0,ik env hi n with
 | .gC cs,some l,some h=>(sz=1/\n<=cs.length/\n<=16777216/\0<=l/\l<=h/\h<=n)/\K (.sl 1 (((cs.drop l.toNat).take (h.toNat-l.toNat)).map λd=>[d])) H
 | .ptr v g o,some l,some h=>match rowAt H v g with
  | some (_,cs)=>(o % sz=0/\o+n*sz<=cs.length/\n<=16777216/\0<=l/\l<=h/\h<=n)/\K (.fZ v g sz (o / sz+l.toNat) (h.toNat-l.toNat)) H
  | none=>False
 | _,_,_=>False
def Fk(env:gT)(x:D)(lo hi:Option X)(H:U)(K:jG):Prop:=
 match x with
 | .val (.string s)=>match ik env lo 0,ik env hi s.size with
  | some l,some h=>(0<=l/\l<=h/\h<=s.size)/\K (.val (.string (s.extract l.toNat h.toNat))) H
  | _,_=>False
 | _=>False
def kQ(sz:Nat)(H:U):D->Option (List D×Nat)
 | .sl a es=>if a=sz then some (es.flatten,es.length)else none
 | .gg=>some ([],0)
 | .l9 vs=>if sz=1 then some (vs.map .val,vs.length)else none
 | .fZ v g a off len=>match rowAt H v g with
  | some (_,cs)=>if a=sz/\(off+len)*sz<=cs.length then some ((cs.drop (off*sz)).take (len*sz),len)else none
  | none=>none
 | _=>none
def Gd(t sz bytes:Nat)(x y:D)(H:U)(al:Al)(K:jG):Prop:=
 match kQ sz H y with
 | some (ys,n)=>match x with
  | .fZ v g a off len=>match rowAt H v g with
   | some (t',cs)=>(a=sz/\t'=t/\(off+len)*sz<=cs.length/\(len+n)*bytes<=140737488355328/\len+n<=9223372036854775807) /\
     K (.fZ v (g+1) sz 0 (len+n)) (H.set v (.row t (g+1) ((cs.drop (off*sz)).take (len*sz)++ys)))
   | none=>False
  | .l9 vs=>(n≠0/\sz=1/\(vs.length+n)*bytes<=140737488355328/\vs.length+n<=9223372036854775807)/\K (.fZ al.1 0 sz 0 (vs.length+n)) (al.2 (.row t 0 (vs.map .val++ys)))
  | .gg=>if n=0 then K .gg H else(n*bytes<=140737488355328/\n<=9223372036854775807)/\K (.fZ al.1 0 sz 0 n) (al.2 (.row t 0 ys))
  | _=>False
 | none=>False
def GK(sz:Nat)(x y:D)(H:U)(K:jG):Prop:=
 match x,kQ sz H y with
 | .fZ v g gV off len,some (ys,n)=>match rowAt H v g with
  | some (t,cs)=>(gV=sz/\(off+len)*sz<=cs.length) /\
    K (.val (.int .i64 (min n len:Nat))) (H.set v (.row t g (cs.take (off*sz)++ys.take (min n len*sz)++cs.drop (off*sz+min n len*sz))))
  | none=>False
 | .gg,some _=>K (.val (.int .i64 0)) H
 | _,_=>False
def IE(k:A9)(x:D)(H:U)(K:jG):Prop:=
 match k,x with
 | .slice,.sl _ es=>K (.val (.int .i64 es.length)) H
 | .slice,.gg=>K (.val (.int .i64 0)) H
 | .slice,.l9 vs=>K (.val (.int .i64 vs.length)) H
 | .slice,.fZ _ _ _ _ len=>K (.val (.int .i64 len)) H
 | .string,.val (.string s)=>K (.val (.int .i64 s.size)) H
 | .map,.gH v=>match lP H v with
  | some (_,es)=>K (.val (.int .i64 es.length)) H
  | none=>False
 | _,_=>False
def sc(env:gT):List X->Option (List Int)
 | []=>some []
 | x::r=>match ev env x,sc env r with
  | .val (.int .i64 n),some l=>some (n::l)
  | _,_=>none
def IN(env:gT)(d:Bool)(xs:List X)(H:U)(K:jG):Prop:=
 match sc env xs with
 | some [a,b]=>K (.val (.int .i64 (if d then max a b else min a b))) H
 | some [a,b,c]=>K (.val (.int .i64 (if d then max (max a b) c else min (min a b) c))) H
 | _=>False
def IT(x:D)(H:U)(K:jG):Prop:=
 match x with
 | .ptr v g o=>K (.ptr v g o) H
 | .gC cs=>K (.gC cs) H
 | .fn (.func f) a b=>K (.fn (.func f) a b) H
 | .ja v=>K (.ja v) H
 | _=>False
def GF(k:IntKind)(x:D)(H:U)(K:jG):Prop:=
 match x with
 | .val (.int _ n)=>K (.val (.int k (k.wrap n))) H
 | _=>False
def bytesOf:List D->Option (List Int)
 | []=>some []
 | .val (.int .u8 n)::r=>match bytesOf r with
  | some l=>some (n::l)
  | none=>none
 | _=>none
def Gi(x:D)(H:U)(K:jG):Prop:=
 match kQ 1 H x with
 | some (ys,_)=>match bytesOf ys with
  | some a=>K (.val (.string (a.foldl (λr n=>r.push (UInt8.ofNat n.toNat)) ByteArray.empty))) H
  | none=>False
 | none=>False
def Gc(env:gT)(H:U)(al:Al)(K:jG):iR->Prop
 | .mv x=>K (ev env x) H
 | .pick c a b=>IY (ev env c) (ev env a) (ev env b) H K
 | .box t x=>Gl t (ev env x) al K
 | .alloc t z=>K (.ptr al.1 0 0) (al.2 (.row t 0 z))
 | .build z ps=>Bc env z ps H K
 | .buildSl t sz z n ps=>Gm env t sz z n ps al K
 | .ld1 x=>IC (ev env x) H K
 | .ldN n x=>ID n (ev env x) H K
 | .st1 a x=>Js (ev env a) (ev env x) H K
 | .stN n a x=>Jt n (ev env a) (ev env x) H K
 | .nilck x=>IT (ev env x) H K
 | .arith op x y=>Gj op (ev env x) (ev env y) H K
 | .eqS e ls neg x y=>w9 e ls neg (ev env x) (ev env y) H K
 | .un op x=>JD op (ev env x) H K
 | .conv k x=>GF k (ev env x) H K
 | .b2s x=>Gi (ev env x) H K
 | .mkfn f first cap=>K (.fn f (first.map (ev env)) (cap.map (ev env))) H
 | .mkmap kk=>K (.gH al.1) (al.2 (.map kk []))
 | .mksl t sz bytes z l c=>IP t sz bytes z (ev env l) (ev env c) al K
 | .slc sz x lo hi=>Jo env sz (ev env x) lo hi H K
 | .slcS x lo hi=>Fk env (ev env x) lo hi H K
 | .slc3 sz x lo hi mx=>Jm env sz (ev env x) lo hi mx H K
 | .slcArr sz n x lo hi=>Jn env sz n (ev env x) lo hi H K
 | .fieldA off x=>GZ off (ev env x) H K
 | .field off n e x=>Bv off n e (ev env x) H K
 | .idxA sz x i=>Iu sz (ev env x) (ev env i) H K
 | .idxArr sz n x i=>Iv sz n (ev env x) (ev env i) H K
 | .idx sz n e x i=>Ix sz n e (ev env x) (ev env i) H K
 | .idxStr x i=>Iy (ev env x) (ev env i) H K
 | .lookup kk z ok m k=>IH kk z ok (ev env m) (ev env k) H K
 | .mapUpd kk m k x=>IK kk (ev env m) (ev env k) (ev env x) H K
 | .ext x i=>GU (ev env x) i H K
 | .call _ _ | .callN _ _ | .callv _ _=>False
 | .app t sz bytes x y=>Gd t sz bytes (ev env x) (ev env y) H al K
 | .copy sz x y=>GK sz (ev env x) (ev env y) H K
 | .len k x=>IE k (ev env x) H K
 | .minmax d xs=>IN env d xs H K
 | .nilS .. | .capE .. | .appZ .. | .clr .. | .rangeS .. | .nextS .. | .rangeM .. | .nextM .. | .entry .. | .mapEnt .. | .entSt .. => False
def put(env:Env)(dst:Option Nat)(d:D):Env:=match dst with
 | some k=>(k,d)::env
 | none=>env
def Ctx.set(c:Ctx)(v k:Nat)(L:Loc):Ctx:={ c with ι:=λu l=>if u=v/\l=k then some L else c.ι u l }
def Ctx.sN(c:Ctx)(v k:Nat)(L:Loc):(c.set v k L).ι v k=some L:=by simp[Ctx.set]
def Ctx.wI(c:Ctx){v k u l:Nat}(L:Loc)(h:¬(u=v/\l=k)):(c.set v k L).ι u l=c.ι u l:=by simp only[Ctx.set];rw[if_neg h]
structure xV(H:U)(v:Nat)(ob:Ob)(H':U):Prop where
 get:∀u,H'[u]? = if u=v then some ob else H[u]?
 free:H.length<=v\/H[v]? = some .lY
 len:H.length<=H'.length
def xV.last(H:U)(ob:Ob):xV H H.length ob (H ++ [ob]) where
 get u:=by
  split
  .rename_i h;subst h;simp
  .rename_i h;rcases bK u H.length with h1|h1
   .rw[ah h1]
   .rw[bp (by simp;omega),bp h1]
 free:=.inl (Nat.le_refl _)
 len:=by simp
theorem xV.lY{H:U}{v:Nat}(h:H[v]? = some .lY)(ob:Ob):xV H v ob (H.set v ob) where
 get u:=by
  have:=(ae.1 h).1;rw[bL];split
  .rename_i e;subst e;simp[this]
  .rename_i e;rw[if_neg (cA e)]
 free:=.inr h
 len:=by simp
def nq(H:U)(al:Al):Prop:=∀ob,xV H al.1 ob (al.2 ob)
theorem nq.last(H:U):nq H (Al.last H):=λob=>xV.last H ob
theorem nq.lY{H:U}{v:Nat}(h:H[v]? = some .lY):nq H (Al.lY H v):=λob=>xV.lY h ob
structure kf(w w':World):Prop where
 os:w'.os=w.os/\w.drawn<=w'.drawn
 tape:w'.tape=w.tape
 output:w'.output=w.output
 size:w.heap.size<=w'.heap.size
 kept:∀b,b<w.heap.size->w'.heap[b]? = w.heap[b]?
def kf.refl(w:World):kf w w:=⟨⟨rfl,Nat.le_refl _⟩,rfl,rfl,Nat.le_refl _,λ_ _=>rfl⟩
theorem kf.alloc(w:World)(o:Obj):kf w (w.alloc o):=
 ⟨⟨rfl,Nat.le_refl _⟩,rfl,rfl,by simp,λb h=>by simp only[World.alloc,eP];rw[if_neg (by omega)]⟩
theorem kf.trans{a b c:World}(h:kf a b)(k:kf b c):kf a c:=
 ⟨⟨k.os.1.trans h.os.1,Nat.le_trans h.os.2 k.os.2⟩,k.tape.trans h.tape,k.output.trans h.output,Nat.le_trans h.size k.size,λi hi=>(k.kept i (aM hi h.size)).trans (h.kept i hi)⟩
theorem kf.drew(w:World):kf w w.drew:=⟨⟨rfl,Nat.le_succ _⟩,rfl,rfl,Nat.le_refl _,λ_ _=>rfl⟩
def C8(n:Nat){c:Ctx}{H:U}{w w':World}(hg:kf w w'):Step n c H w c H w':=
 ⟨hg.os,hg.tape,hg.output,hg.size,rfl,λ_ h=>h,λ_ h=>.inl h,λb a _=>hg.kept b a,λ_ _ _ _ h=>h,λ_ h=>.inr h⟩
def F7.mono{c c':Ctx}{w w':World}(j:∀v d,gh c w v d->gh c' w' v d){arr:Array MapEntry}{f:Nat}{es:List (Value×D)}(h:F7 c w arr f es):F7 c' w' arr f es:=
 ⟨h.1,λi e x k g=>let ⟨a,b,d⟩:=h.2.1 i e x k g;⟨a,j _ _ b,d⟩,h.2.2⟩
def ie.keep{c c':Ctx}{w w':World}(u:c'.RT=c.RT)(q:∀v d,gh c w v d->gh c' w' v d){L:Option Loc}{o:Ob}
  (f:∀l,L=some l->l.jN=false->o.alive=true->w'.heap[l.b]? = w.heap[l.b]?) (h:ie c w L o):ie c' w' L o:=by
 cases o with
 | dead=>simp[ie]
 | lY=>simpa[ie]using h
 | row t g cs=>
  cases L with
  | none=>simp[ie]at h
  | some l=>
   simp only[ie]at h ⊢;split
   .rename_i a;simpa[a]using h
   .rename_i a;simp only[a]at h;obtain⟨arr,h1,b,n,j⟩:=h;refine⟨arr,by rw[f l rfl (by simpa using a) rfl];exact h1,b,n,λi d A=>?_⟩;obtain⟨v,y,x,C⟩:=j i d A;exact⟨v,y,x,q _ _ C⟩
 | map kk es=>
  cases L with
  | none=>simp[ie]at h
  | some l=>
   simp only[ie]at h ⊢;obtain⟨a,z,arr,e,h1,b⟩:=h;exact⟨a,z,arr,e,by rw[f l rfl a rfl];exact h1,b.mono q⟩
 | im rf env st=>
  cases L with
  | none=>simp[ie]at h
  | some l=>
   simp only[ie]at h ⊢;obtain⟨a,r,h1,b,n,j⟩:=h;exact⟨a,r,by rw[f l rfl a rfl];exact h1,λk=>q _ _ (b k),by rw[u];exact n,j⟩
 | sO s p=>
  cases L with
  | none=>simp[ie]at h
  | some l=>
   simp only[ie]at h ⊢;exact⟨h.1,h.2.1,by rw[f l rfl h.1 rfl];exact h.2.2⟩
 | jj m since seen=>
  cases L with
  | none=>simp[ie]at h
  | some l=>
   simp only[ie]at h ⊢;obtain⟨h1,b,B,n,j⟩:=h;exact⟨h1,b,B,q _ _ n,by rw[f l rfl h1 rfl];exact j⟩
 | jE=>
  cases L with
  | none=>simp[ie]at h
  | some l=>
   simp only[ie]at h ⊢
   by_cases a:l.jN=true
   .exact .inl a
   .exact .inr (by rw[f l rfl (by simpa using a) rfl];exact h.resolve_left a)
def gE.pP{G:GT}{c:Ctx}{H:U}{w w':World}(h:gE G c H w)(hg:kf w w'):gE G c H w':=by
 have hs:=C8 H.length (c:=c) (H:=H) hg;have i:∀v d,gh c w v d->gh c w' v d:=λv d e=>e.p7 h.toHeapOK hs
 exact{
  inj:=h.inj
  lt:=λb f=>aM (h.lt b f) hg.size
  nF:=h.nF
  kR:=λb f=>aM (h.kR b f) hg.size
  out:=h.out
  mF:=h.mF
  ob:=λv o j=>(h.ob v o j).keep rfl i λl hl m e=>hg.kept _ (h.lt _ ⟨v,l,⟨o,j,e,hl⟩,m,rfl⟩)
  gl:=λg cs k=>let ⟨a,b⟩:=h.gl g cs k;⟨a,i _ _ b⟩
  rt:=h.rt }
structure zw(H:U)(v:Nat)(ob:Ob)(H':U):Prop where
 get:∀u,H'[u]? = if u=v then some ob else H[u]?
 free:H.length<=v\/H[v]? = some .lY\/∃o,H[v]? = some o/\o.alive=true/\o.gen<ob.gen
 len:H.length<=H'.length
def xV.uF{H:U}{v:Nat}{ob:Ob}{H':U}(h:xV H v ob H'):zw H v ob H':=⟨h.get,h.free.imp id .inl,h.len⟩
def Fv{c:Ctx}{H H':U}{v:Nat}{ob:Ob}{L:Loc}(d:zw H v ob H'){u:Nat}{l:Loc}(h:l7 (c.set v ob.gen L) H' u l) :
  (u=v/\l=L)\/(u≠v/\l7 c H u l):=by
 obtain⟨o,a,f,b⟩:=h;rw[d.get]at a;split at a
 .rename_i e;cases a;subst e;rw[Ctx.sN]at b;cases b;exact .inl ⟨rfl,rfl⟩
 .rename_i e;rw[Ctx.wI _ _ (λh=>e h.1)]at b;exact .inr ⟨e,o,a,f,b⟩
def abZ{G:GT}{c:Ctx}{H H':U}{w:World}{v:Nat}{ob:Ob}(h:gE G c H w)(b:zw H v ob H')(k:Nat)(f:ob.gen<=k):c.ι v k=none:=by
 rcases b.free with a|a|⟨o,d,e,hg⟩
 .exact h.out v k a
 .exact h.mF v _ k a (.inl rfl)
 .exact h.mF v o k d (.inr ⟨e,by omega⟩)
def ab0{G:GT}{c:Ctx}{H H':U}{w:World}{v:Nat}{ob:Ob}{L:Loc}(h:gE G c H w)(b:zw H v ob H')(u k:Nat)(l:Loc)(a:c.ι u k=some l):(c.set v ob.gen L).ι u k=some l:=by
 rw[Ctx.wI]
 .exact a
 .rintro⟨rfl,rfl⟩;rw[abZ h b _ (Nat.le_refl _)]at a;cases a
def PY{G:GT}{c:Ctx}{H H':U}{w w':World}{v:Nat}{ob:Ob}(h:gE G c H w)(d:zw H v ob H')(hg:kf w w')(L:Loc)
  (f:L.jN=false->w.heap.size<=L.b/\L.b<w'.heap.size):Step H.length c H w (c.set v ob.gen L) H' w' where
 os:=hg.os
 tape:=hg.tape
 output:=hg.output
 size:=hg.size
 RT:=rfl
 Fm _ h:=h
 Fn _ h:=.inl h
 kept b hb _:=hg.kept b hb
 old u k l _ gu:=ab0 h d u k l gu
 own b hb:=by
  obtain⟨u,l,hl,a,e⟩:=hb;rcases Fv d hl with⟨_,rfl⟩|⟨_,hl⟩
  .exact .inl (e▸(f a).1)
  .exact .inr ⟨u,l,hl,a,e⟩
def UD{G:GT}{c:Ctx}{H H':U}{w w':World}{v:Nat}{ob:Ob}(h:gE G c H w)(f:zw H v ob H')(hg:kf w w')(L:Loc)
  (n:L.jN=false->w.heap.size<=L.b/\L.b<w'.heap.size) (D:ob.alive=true) (E:ie (c.set v ob.gen L) w' (some L) ob):gE G (c.set v ob.gen L) H' w':=by
 have hs:=PY h f hg L n;have x:∀u d,gh c w u d->gh (c.set v ob.gen L) w' u d:=λu d r=>r.p7 h.toHeapOK hs;have p:∀u l,l7 c H u l->l.jN=false->l.b<w.heap.size:=λu l hl j=>h.lt _ ⟨u,l,hl,j,rfl⟩
 have K:v<H'.length:=by have:=f.get v;rw[if_pos rfl]at this;exact(ae.1 this).1
 exact{
  inj:=by
   intro u B l C h1 J t s I;rcases Fv f h1 with⟨rfl,rfl⟩|⟨_,b⟩<;>rcases Fv f J with⟨rfl,rfl⟩|⟨_,z⟩
   .rfl
   .have:=(n t).1;have:=p _ _ z s;omega
   .have:=(n s).1;have:=p _ _ b t;omega
   .exact h.inj u B l C b z t s I
  lt:=λb m=>by
   obtain⟨u,l,hl,j,e⟩:=m;rcases Fv f hl with⟨_,rfl⟩|⟨_,hl⟩
   .exact e▸(n j).2
   .exact e▸aM (p u l hl j) hg.size
  nF:=λb m y=>by
   obtain⟨u,l,hl,j,e⟩:=m;rcases Fv f hl with⟨_,rfl⟩|⟨_,hl⟩
   .have:=h.kR b y;have:=(n j).1;omega
   .exact h.nF b ⟨u,l,hl,j,e⟩ y
  kR:=λb m=>aM (h.kR b m) hg.size
  out:=λu k F=>by rw[Ctx.wI _ _ (by rintro⟨rfl,_⟩;omega)];exact h.out u k (Nat.le_trans f.len F)
  mF:=λu o k i q=>by
   rw[f.get]at i;split at i
   .rename_i e;cases i;subst e;rcases q with rfl|⟨_,q⟩
    .cases D
    .rw[Ctx.wI _ _ (by rintro⟨_,rfl⟩;omega)];exact abZ h f k (by omega)
   .rename_i e;rw[Ctx.wI _ _ (λh=>e h.1)];exact h.mF u o k i q
  ob:=λu o i=>by
   rw[f.get]at i;split at i
   .rename_i e;cases i;subst e;rw[Ctx.sN];exact E
   .rename_i e;rw[Ctx.wI _ _ (λh=>e h.1)];exact ie.keep (c:=c) (c':=c.set v ob.gen L) rfl x (λl hl j r=>hg.kept _ (p u l ⟨o,i,r,hl⟩ j)) (h.ob u o i)
  gl:=λg cs A=>let ⟨a,b⟩:=h.gl g cs A;⟨a,x _ _ b⟩
  rt:=h.rt }
structure Cells(c:Ctx)(w:World)(vs:List Value)(cs:List D):Prop where
 len:vs.length=cs.length
 one:∀v∈vs,v.oneCell'=true
 rep:∀(i:Nat) (v:Value) (d:D),vs[i]? = some v->cs[i]? = some d->gh c w v d
def EW{G:GT}{c:Ctx}{H H':U}{v gen:Nat}{w:World}(h:gE G c H w)(a:World)(hg:kf w a)(t:TypeId)(vs:List Value)(cs:List D)(n:Nat)(arr:Array Value)
  (l:zw H v (.row t gen cs) H') (f:Cells c w vs cs) (g:arr.toList.take n=vs) (p:n<=arr.size) :
  ∃L:Loc,L.jN=false/\L.b=a.heap.size/\L.base=0/\L.top=arr.size /\
   gE G (c.set v gen L) H' (a.alloc (.cells arr t))/\Step H.length c H w (c.set v gen L) H' (a.alloc (.cells arr t)):=by
 have k:=hg.trans (kf.alloc a (.cells arr t));refine⟨⟨a.heap.size,0,arr.size,false⟩,rfl,rfl,rfl,rfl,?_⟩;have m:(⟨a.heap.size,0,arr.size,false⟩:Loc).jN=false->w.heap.size<=(⟨a.heap.size,0,arr.size,false⟩:Loc).b/\(⟨a.heap.size,0,arr.size,false⟩:Loc).b<(a.alloc (.cells arr t)).heap.size:=λ_=>⟨hg.size,by simp⟩;have hs:=PY h l k ⟨a.heap.size,0,arr.size,false⟩ m;refine⟨UD h l k _ m rfl ?_,hs⟩;have o:∀u d,gh c w u d->gh (c.set v gen ⟨a.heap.size,0,arr.size,false⟩) (a.alloc (.cells arr t)) u d:=λu d e=>e.p7 h.toHeapOK hs;have b:cs.length=n:=by rw[<-f.len,<-g];simp;omega
 simp only[ie,Ob.gen];refine⟨arr,heap_alloc_new _ _,rfl,by simp;omega,λi d e=>?_⟩;have hi:i<cs.length:=(ae.1 e).1;have j:i<arr.size:=by omega
 refine⟨arr[i],by simp[j],?_,?_⟩
 .exact f.one _ (by rw[<-g];exact List.mem_of_getElem? (i:=i) (by rw[aD];simp[b▸hi,j]))
 .exact o _ _ (f.rep i _ d (by rw[<-g,aD];simp[b▸hi,j]) e)
def sM{H:U}{v:Nat}{ob:Ob}(a:v<H.length)(u:Nat):(H.set v ob)[u]? = if u=v then some ob else H[u]? := by
 rw[bL];split
 .rename_i e;subst e;simp[a]
 .rename_i e;rw[if_neg (cA e)]
def aoH{c:Ctx}{H:U}{v:Nat}{ob ob':Ob}(b:H[v]? = some ob)(g:ob.alive=true)(hg:ob'.gen=ob.gen){u:Nat}{l:Loc}(h:l7 c (H.set v ob') u l):l7 c H u l:=by
 obtain⟨o,a,f,d⟩:=h;rw[sM (ae.1 b).1]at a;split at a
 .rename_i e;cases a;subst e;exact⟨ob,b,g,by rw[<-hg];exact d⟩
 .exact⟨o,a,f,d⟩
def aco{G:GT}{c:Ctx}{H:U}{w:World}(h:gE G c H w){v:Nat}{ob ob':Ob}(j:H[v]? = some ob)(s:ob.alive=true)(I:ob'.alive=true)(A:ob'.gen=ob.gen){L:Loc}(z:c.ι v ob.gen=some L)(y:L.jN=false)
  {w':World} (F:w'.os=w.os/\w.drawn<=w'.drawn) (S:w'.tape=w.tape) (J:w'.output=w.output) (B:w'.heap.size=w.heap.size)
  (x:∀b,b≠L.b->w'.heap[b]? = w.heap[b]?) (N:(∀u d,gh c w u d->gh c w' u d)->ie c w' (some L) ob') :
  gE G c (H.set v ob') w'/\Step H.length c H w c (H.set v ob') w':=by
 have HK:l7 c H v L:=⟨ob,j,s,z⟩;have D:mm c H L.b:=⟨v,L,HK,y,rfl⟩;have t:∀u l,l7 c (H.set v ob') u l->l7 c H u l:=λu l hl=>aoH j s A hl;have m:∀b,mm c (H.set v ob') b->mm c H b:=λb ⟨u,l,hl,r⟩=>⟨u,l,t u l hl,r⟩
 have hs:Step H.length c H w c (H.set v ob') w':=
  ⟨F,S,J,by omega,rfl,λ_ h=>h,λ_ h=>.inl h,λb _ P=>x b (λe=>P (e▸D)),λ_ _ _ _ h=>h,λb i=>.inr (m b i)⟩
 have n:∀u d,gh c w u d->gh c w' u d:=λu d q=>q.p7 h.toHeapOK hs
 refine⟨{
  inj:=λu E l M h1 Q=>h.inj u E l M (t _ _ h1) (t _ _ Q)
  lt:=λb i=>by rw[B];exact h.lt b (m b i)
  nF:=λb i=>h.nF b (m b i)
  kR:=λb i=>by rw[B];exact h.kR b i
  out:=λu k O=>h.out u k (by simpa using O)
  mF:=λu o k f p=>by
   rw[sM (ae.1 j).1]at f;split at f
   .rename_i e;cases f;subst e;rcases p with rfl|⟨_,p⟩
    .cases I
    .exact h.mF u ob k j (.inr ⟨s,by omega⟩)
   .exact h.mF u o k f p
  ob:=λu o f=>by
   rw[sM (ae.1 j).1]at f;split at f
   .rename_i e;cases f;subst e;rw[A,z];exact N n
   .rename_i R;exact(h.ob u o f).keep rfl n λl hl K q=>x _ λe=>R (h.inj u v l L ⟨o,f,q,hl⟩ HK K y e)
  gl:=λg cs C=>let ⟨a,b⟩:=h.gl g cs C;⟨a,n _ _ b⟩
  rt:=h.rt },hs⟩
def FC{G:GT}{c:Ctx}{H:U}{w:World}(h:gE G c H w){v g:Nat}{t:TypeId}{cs:List D}(p:H[v]? = some (.row t g cs)){L:Loc}(z:c.ι v g=some L)(j:L.jN=false)
  {arr:Array Value} (k:w.heap[L.b]? = some (.cells arr t (0,0))) (a:Array Value) (o:a.size=arr.size) (l:L.top=arr.size) (e:List D) (f:L.base+e.length<=L.top)
  (s:∀(i:Nat) (d:D),e[i]? = some d->∃u,a[L.base+i]? = some u/\u.oneCell'=true/\gh c w u d) :
  gE G c (H.set v (.row t g e)) (w.setRow L.b a)/\Step H.length c H w c (H.set v (.row t g e)) (w.setRow L.b a):=by
 refine aco (w':=w.setRow L.b a) (ob':=.row t g e) h p rfl rfl rfl z j ⟨rfl,Nat.le_refl _⟩ rfl rfl (by simp[World.setRow]) (λb y=>by simp only[World.setRow,bq];rw[if_neg (cA y)]) λq=>?_;simp only[ie,j];refine⟨a,setRow_heap w L.b arr _ t _ k,by rw[l,o],f,λi d r=>?_⟩;obtain⟨x,m,n,A⟩:=s i d r;exact⟨x,m,n,q _ _ A⟩
def tF:Value->D
 | .slice none 0 0=>.gg
 | v=>.val v
def Nf:Value->Option D
 | .slice none 0 0=>some .gg
 | .agg cs=>if cs.all (·.oneCell')then some (.agg (cs.toList.map tF))else none
 | .tuple _=>none
 | v=>some (.val v)
def cX(G:GT):Operand->Option X
 | .tmp t=>some (.t t)
 | .const v=>(Nf v).map .c
 | .global g=>(G g).map λcs=>.c (.gC cs)
 | .func f=>some (.c (.fn (.func f) [] []))
def x7(G:GT):List Operand->Option (List X)
 | []=>some []
 | x::r=>match cX G x,x7 G r with
  | some a,some l=>some (a::l)
  | _,_=>none
def zC(G:GT):List (Nat×Operand)->Option (List (Nat×X))
 | []=>some []
 | (i,x)::r=>match cX G x,zC G r with
  | some a,some l=>some ((i,a)::l)
  | _,_=>none
def sw(G:GT):Option Operand->Option (Option X)
 | none=>some none
 | some x=>(cX G x).map some
def ky(P:Program)(t:TypeId):Option Nat:=(P.info? t).map (·.size)
def rF(P:Program)(t:TypeId):Option (List D):=match (P.info? t).bind (·.zero)with
 | some z=>if z.cells.all (·.oneCell')then some (z.cells.toList.map tF)else none
 | none=>none
def pa(P:Program)(t:TypeId):Option Bool:=match P.underlying t with
 | some (.struct _)|some (.array _ _)=>some true
 | some _=>some false
 | none=>none
def ZD(P:Program)(t:TypeId):Bool:=match P.underlying t with
 | some (.int _)|some .string|some .bool=>true
 | _=>false
def MW(P:Program)(t:TypeId):Bool:=match P.underlying t with
 | some .bool=>true
 | _=>false
def yM(P:Program)(t:TypeId):Option mH:=match P.underlying t with
 | some (.int _)=>some .int
 | some .string=>some .str
 | some .bool=>some .bool
 | _=>none
def Nx(P:Program):Nat->List Field->Option (List mH)
 | _,[]=>some []
 | i,f::r=>match yM P f.type,Nx P (i+1) r with
  | some l,some ls=>if f.offset=i/\f.name≠ "_" then some (l::ls)else none
  | _,_=>none
def Ny(P:Program)(t:TypeId):Option (List mH):=match P.underlying t with
 | some (.struct fs)=>if P.stoodInHeld t=false/\P.eqGuardType P.depth t=false then Nx P 0 fs.toList else none
 | some (.array n e)=>if P.eqGuardType P.depth t=false/\P.cellsOf e=1/\(P.info? e).isSome=true then(yM P e).map (List.replicate n)else none
 | _=>none
def IZ(P:Program)(fs:Array Field):List (Nat×X)->Option (List (Nat×Nat×X))
 | []=>some []
 | (i,x)::r=>match fs[i]?,IZ P fs r with
  | some f,some l=>(ky P f.type).map λn=>(f.offset,n,x)::l
  | _,_=>none
def Xo(P:Program)(fs:Array Field):Bool:=fs.all λf=>(ky P f.type).isSome
def s5(P:Program)(f:FuncId):Bool:=match P.funcs[f]? with
 | some fn=>fn.name != "runtime.NumGoroutine" && fn.body.isSome
 | none=>false
def Cs(P:Program):Nat->List Field->Option (List IntKind)
 | _,[]=>some []
 | i,f::r=>match P.underlying f.type,Cs P (i+1) r with
  | some (.int k),some ks=>if f.offset=i/\f.name≠ "_" then some (k::ks)else none
  | _,_=>none
def ve(P:Program)(t:TypeId):Option KK:=match P.underlying t with
 | some (.struct fs)=>if P.stoodInHeld t=false then(Cs P 0 fs.toList).map .ints else none
 | some (.int k)=>some (.int k)
 | some .string=>some .str
 | some .bool=>some .bool
 | _=>none
def FD(P:Program)(t:TypeId):Option D:=(P.info? t).bind λi=>i.zero.bind Nf
def nP(P:Program)(G:GT)(o:Oper):Option iR:=
 match o.op with
 | .move x=>do let a <-cX G x;pure (.mv a)
 | .assign x=>do let a <-cX G x;pure (.mv a)
 | .pick c a b=>do pure (.pick (<-cX G c) (<-cX G a) (<-cX G b))
 | .box e x=>do pure (.box e (<-cX G x))
 | .alloc e=>do pure (.alloc e (<-rF P e))
 | .build t ps=>do
  let z <-rF P t
  let l <-zC G ps.toList
  match P.underlying t with
  | some (.struct fs)=>if Xo P fs then do pure (.build z (<-IZ P fs l))else none
  | some (.array _ e)=>do
   let sz <-ky P e
   pure (.build z (l.map λp=>(p.1*sz,sz,p.2)))
  | _=>none
 | .buildSlice t n ps=>do
  let .slice e <-P.underlying t|none
  let z <-rF P e
  let sz <-ky P e
  let l <-zC G ps.toList
  if z.length=sz/\0<sz/\n*sz<=16777216 then pure (.buildSl e sz z n l)else none
 | .load t a=>do
  let x <-cX G a
  let n <-ky P t
  if <-pa P t then pure (.ldN n x)else pure (.ld1 x)
 | .store t a v=>do
  let x <-cX G a
  let y <-cX G v
  let n <-ky P t
  if <-pa P t then pure (.stN n x y)else if n=1 then pure (.st1 x y)else none
 | .nilCheck x=>do pure (.nilck (<-cX G x))
 | .binOp op t x y _=>do
  let a <-cX G x
  let b <-cX G y
  match op with
  | .eql=>if MW P t then pure (.eqS false [.bool] false a b)else if ZD P t then pure (.arith .eql a b)else do pure (.eqS true (<-Ny P t) false a b)
  | .neq=>if MW P t then pure (.eqS false [.bool] true a b)else if ZD P t then pure (.arith .neq a b)else do pure (.eqS true (<-Ny P t) true a b)
  | op=>pure (.arith op a b)
 | .unOp op _ x=>do pure (.un op (<-cX G x))
 | .convert s d x=>do
  let a <-cX G x
  let _ <-P.underlying s
  match P.underlying d with
  | some (.int k)=>pure (.conv k a)
  | some .string=>do
   let .slice e <-P.underlying s|none
   let .int .u8 <-P.underlying e|none
   pure (.b2s a)
  | _=>none
 | .makeFunc f first cap=>do pure (.mkfn f (<-x7 G first.toList) (<-x7 G cap.toList))
 | .makeMap t none=>do
  let .map k _ <-P.underlying t|none
  pure (.mkmap (<-ve P k))
 | .lookup t x i ok=>do
  let .map k e <-P.underlying t|none
  let z <-FD P e
  pure (.lookup (<-ve P k) z ok (<-cX G x) (<-cX G i))
 | .mapUpdate t m k v=>do
  let .map kt _ <-P.underlying t|none
  pure (.mapUpd (<-ve P kt) (<-cX G m) (<-cX G k) (<-cX G v))
 | .insert t m k v=>do
  let .map kt _ <-P.underlying t|none
  pure (.mapUpd (<-ve P kt) (<-cX G m) (<-cX G k) (<-cX G v))
 | .makeSlice t l c=>do
  let .slice e <-P.underlying t|none
  let z <-rF P e
  let i <-P.info? e
  if z.length=i.size/\0<i.size then pure (.mksl e i.size i.bytes z (<-cX G l) (<-cX G c))else none
 | .slice t x lo hi none=>do
  let a <-cX G x
  let l <-sw G lo
  let h <-sw G hi
  match P.underlying t with
  | some (.slice e)=>do pure (.slc (<-ky P e) a l h)
  | some .string=>pure (.slcS a l h)
  | some (.array n e)=>do pure (.slcArr (<-ky P e) n a l h)
  | _=>none
 | .slice t x lo (some hi) (some mx)=>do
  let a <-cX G x
  let l <-sw G lo
  let h <-cX G hi
  let m <-cX G mx
  let .slice e <-P.underlying t|none
  pure (.slc3 (<-ky P e) a l h m)
 | .fieldAddr t x f=>do
  let a <-cX G x
  let .struct fs <-P.underlying t|none
  let g <-fs[f]?
  let n <-ky P g.type
  if 0<n then pure (.fieldA g.offset a)else none
 | .field t x f=>do
  let a <-cX G x
  let .struct fs <-P.underlying t|none
  let g <-fs[f]?
  let n <-ky P g.type
  pure (.field g.offset n (<-pa P g.type) a)
 | .indexAddr t x i=>do
  let a <-cX G x
  let j <-cX G i
  match P.underlying t with
  | some (.slice e)=>do
   let n <-ky P e
   if 0<n then pure (.idxA n a j)else none
  | some (.array n e)=>do pure (.idxArr (<-ky P e) n a j)
  | _=>none
 | .index t x i=>do
  let a <-cX G x
  let j <-cX G i
  match P.underlying t with
  | some (.array n e)=>do pure (.idx (<-ky P e) n (<-pa P e) a j)
  | some .string=>pure (.idxStr a j)
  | _=>none
 | .extract x i=>do pure (.ext (<-cX G x) i)
 | .call c=>do
  let args <-x7 G c.args.toList
  match c.callee with
  | .value (.func f)=>if s5 P f then pure (if G.nw f then .callN f args else .call f args)else none
  | .value f=>do pure (.callv (<-cX G f) args)
  | .builtin .append=>match c.argTypes.toList,args with
   | [t,u],[x,y]=>do
    let .slice e <-P.underlying t|none
    let i <-P.info? e
    let z <-rF P e
    let .slice _ <-P.underlying u|none
    if z.length=i.size/\0<i.size then pure (.app e i.size i.bytes x y)else none
   | _,_=>none
  | .builtin .copy=>match c.argTypes.toList,args with
   | [t,u],[x,y]=>do
    let .slice e <-P.underlying t|none
    let .slice _ <-P.underlying u|none
    let n <-ky P e
    if 0<n then pure (.copy n x y)else none
   | _,_=>none
  | .builtin .len=>match c.argTypes.toList,args with
   | [t],[x]=>match P.underlying t with
    | some (.slice _)=>pure (.len .slice x)
    | some .string=>pure (.len .string x)
    | some (.map _ _)=>pure (.len .map x)
    | _=>none
   | _,_=>none
  | .builtin .max=>pure (.minmax true args)
  | .builtin .min=>pure (.minmax false args)
  | _=>none
 | _=>none
end Go.AL
namespace Go.AL
open Go
def kW(c:Ctx)(w:World)(env:gT)(a:Act):Prop:=∀k,gh c w (a.tmps.getD k undef) (env k)
def jl(G:GT)(c:Ctx)(H:U)(w:World)(K:jG)(v:Value)(w':World):Prop:=
 ∃d H' c',K d H'/\gE G c' H' w'/\gh c' w' v d/\Step H.length c H w c' H' w'
section
variable{P:Program}{G:GT}{c:Ctx}{H:U}{w:World}{K:jG}{env:gT}{a:Act}
theorem jl.plain(h:gE G c H w){v:Value}{d:D}(b:K d H)(a:gh c w v d):jl G c H w K v w:=
 ⟨d,H,c,b,h,a,Step.refl _ _ _ _⟩
theorem abf(v:Value):gh c w v (tF v):=by
 unfold tF;split
 .exact .gg
 .exact .val _
theorem Ua{v:Value}{d:D}(h:Nf v=some d):gh c w v d:=by
 unfold Nf at h;split at h
 .cases h;exact .gg
 .rename_i cs;split at h
  .rename_i e;cases h
   have:=gh.agg (c:=c) (w:=w) cs.toList (cs.toList.map tF) (by simp) (λv a=>by
    have:=cK.1 e v (by simpa using a)
    exact this) (λi v d a b=>by
    simp only[au,a,aF,av]at b;subst b
    exact abf v)
   simpa using this
  .cases h
 .cases h
 .cases h;exact .val _
theorem iS(h:gE G c H w)(i:kW c w env a){x:Operand}{X:X}(b:cX G x=some X):gh c w (a.eval x) (ev env X):=by
 cases x with
 | tmp t=>cases b;exact i t
 | const v=>
  simp only[cX,ak]at b;obtain⟨d,j,rfl⟩:=b;exact Ua j
 | global g=>
  simp only[cX,ak]at b;obtain⟨cs,e,rfl⟩:=b;exact(h.gl g cs e).2
 | func f=>cases b;exact .fn (.func f) [] [] [] [] rfl rfl (by simp) (by simp)
theorem Be(h:gE G c H w)(b:kW c w env a):∀(l:List Operand) {xs:List X},x7 G l=some xs->jC c w (l.map a.eval) (xs.map (ev env))
 | [],xs,hx=>by cases hx;exact .nil
 | x::r,xs,hx=>by
  simp only[x7]at hx;split at hx
  .rename_i X l hX hl;cases hx;exact .cons (iS h b hX) (Be h b r hl)
  .cases hx
theorem jC.length{vs:List Value}{ds:List D}(h:jC c w vs ds):vs.length=ds.length:=by
 induction h with
 | nil=>rfl
 | cons _ _ a=>simp[a]
theorem jC.get{vs:List Value}{ds:List D}(h:jC c w vs ds):∀(i:Nat) (v:Value) (d:D),vs[i]? = some v->ds[i]? = some d->gh c w v d:=by
 induction h with
 | nil=>intro i v d a;simp at a
 | cons h _ e=>
  intro i v d a b
  cases i with
  | zero=>simp at a b;subst a;subst b;exact h
  | succ i=>simp at a b;exact e i v d a b
theorem jC.append{vs us:List Value}{ds es:List D}(h:jC c w vs ds)(k:jC c w us es):jC c w (vs++us) (ds++es):=by
 induction h with
 | nil=>exact k
 | cons h _ a=>exact .cons h a
theorem jC.IV:∀ {vs:List Value} {ds:List D},vs.length=ds.length->(∀(i:Nat) (v:Value) (d:D),vs[i]? = some v->ds[i]? = some d->gh c w v d)->jC c w vs ds
 | [],[],_,_=>.nil
 | v::vs,d::ds,hl,h=>.cons (h 0 v d rfl rfl) (jC.IV (by simpa using hl) λi v d a b=>h (i+1) v d (by simpa using a) (by simpa using b))
theorem Cells.agg{vs:List Value}{cs:List D}(h:Cells c w vs cs):gh c w (.agg vs.toArray) (.agg cs):=.agg vs cs h.len h.one h.rep
theorem Cells.drop{vs:List Value}{cs:List D}(h:Cells c w vs cs)(n:Nat):Cells c w (vs.drop n) (cs.drop n):=
 ⟨by simp[h.len],λv a=>h.one v (bC a),λi v d a b=>h.rep (n+i) v d (by simpa using a) (by simpa using b)⟩
theorem Cells.take{vs:List Value}{cs:List D}(h:Cells c w vs cs)(n:Nat):Cells c w (vs.take n) (cs.take n):=
 ⟨by simp[h.len],λv a=>h.one v (aN a),λi v d a b=>by
  rw[aD]at a b;split at a
  .rename_i hi;rw[if_pos hi]at b;exact h.rep i v d a b
  .cases a⟩
theorem Cells.append{vs us:List Value}{cs ds:List D}(h:Cells c w vs cs)(k:Cells c w us ds):Cells c w (vs++us) (cs++ds):=
 ⟨by simp[h.len,k.len],λv a=>by
  rcases List.mem_append.1 a with a|a
  .exact h.one v a
  .exact k.one v a,λi v d a b=>by
  rw[List.getElem?_append]at a b;split at a
  .rename_i hi;rw[if_pos (by rw[<-h.len];exact hi)]at b;exact h.rep i v d a b
  .rename_i hi;rw[if_neg (by rw[<-h.len];exact hi)]at b;rw[<-h.len]at b;exact k.rep _ v d a b⟩
theorem Cells.nil:Cells c w [] []:=⟨rfl,by simp,by simp⟩
theorem Cells.get{vs:List Value}{cs:List D}(h:Cells c w vs cs){i:Nat}{d:D}(a:cs[i]? = some d):∃v,vs[i]? = some v/\v.oneCell'=true/\gh c w v d:=by
 have hi:i<vs.length:=by rw[h.len];exact(ae.1 a).1
 exact⟨vs[i],by simp[hi],h.one _ (bV hi),h.rep i _ d (by simp[hi]) a⟩
def uH(c:Ctx)(w:World)(b o:Nat)(cs:List D):Prop:=∃vs,Cells c w vs cs/\∀(j:Nat) (v:Value),vs[j]? = some v->w.cell? ⟨b,o+j,none⟩=some v
theorem uH.drop{b o:Nat}{cs:List D}(h:uH c w b o cs)(n:Nat):uH c w b (o+n) (cs.drop n):=by obtain⟨vs,e,d⟩:=h;exact⟨vs.drop n,e.drop n,λj v a=>by rw[aI]at a;have:=d _ _ a;rwa [bh]⟩
theorem uH.take{b o:Nat}{cs:List D}(h:uH c w b o cs)(n:Nat):uH c w b o (cs.take n):=by
 obtain⟨vs,e,d⟩:=h;refine⟨vs.take n,e.take n,λj v a=>?_⟩;rw[aD]at a;split at a
 .exact d _ _ a
 .cases a
theorem y4(h:gE G c H w){v g:Nat}{t:TypeId}{cs:List D}(j:H[v]? = some (.row t g cs)){L:Loc}(p:c.ι v g=some L)(f:L.jN=false) :
  ∃arr:Array Value,w.heap[L.b]? = some (.cells arr t (0,0))/\L.top=arr.size/\L.base+cs.length<=L.top/\Cells c w ((arr.toList.drop L.base).take cs.length) cs:=by
 have h0:=h.ob v _ j;simp only[Ob.gen]at h0;rw[p]at h0;simp only[ie,f]at h0;obtain⟨arr,h1,o,n,e⟩:=h0;refine⟨arr,h1,o,n,⟨by simp;omega,λu a=>?_,λi u d a k=>?_⟩⟩
 .obtain⟨i,hi⟩:=aB.1 a;rw[aD]at hi;split at hi
  .rename_i q;rw[aI]at hi;obtain⟨x,b,m,_⟩:=e i cs[i] (by simp[q]);have:arr[L.base+i]? = some u:=by simpa using hi
   rw[b]at this;cases this;exact m
  .cases hi
 .rw[aD]at a;split at a
  .rw[aI]at a;obtain⟨x,b,_,l⟩:=e i d k;have:arr[L.base+i]? = some u:=by simpa using a
   rw[b]at this;cases this;exact l
  .cases a
theorem M3(h:gE G c H w){v g o:Nat}{t:TypeId}{cs:List D}(e:H[v]? = some (.row t g cs)){u:Value}(f:gh c w u (.ptr v g o)) :
  ∃b p,u = .pointer (some ⟨b,p,none⟩)/\uH c w b p (cs.drop o):=by
 cases f with
 | ptr _ _ _ L k d=>
  obtain⟨arr,h1,m,l,i⟩:=y4 h e k d;refine⟨L.b,L.base+o,rfl,?_⟩;refine uH.drop ⟨_,i,λj x a=>?_⟩ o;rw[aD]at a;split at a
  .rw[aI]at a;simp[World.cell?,h1];simpa using a
  .cases a
theorem zD{u:Value}{cs:List D}(h:gh c w u (.gC cs)):∃b p,u = .pointer (some ⟨b,p,none⟩)/\c.F b/\uH c w b p cs:=by
 cases h with
 | gC b o _ g m l h=>
  refine⟨b,o,rfl,m,(List.range cs.length).map g,⟨by simp,λv a=>?_,λi v d a k=>?_⟩,λj v a=>?_⟩
  .simp only[List.mem_map,a8]at a;obtain⟨j,f,rfl⟩:=a;exact(l j cs[j] (by simp[f])).2
  .simp only[au,ak,bO (ae.1 k).1]at a;obtain⟨_,e,rfl⟩:=a;cases e;exact h i d k
  .have f:j<cs.length:=by have:=(ae.1 a).1;simpa using this
   simp only[au,bO f,aF,av]at a;subst a;exact(l j cs[j] (by simp[f])).1
theorem Rh{b o:Nat}{cs:List D}(i:c.F b)(h:uH c w b o cs):gh c w (.pointer (some ⟨b,o,none⟩)) (.gC cs):=by
 obtain⟨vs,f,g⟩:=h;refine .gC b o cs (λj=>vs.getD j undef) i (λj d e=>?_) (λj d e=>?_)
 .obtain⟨u,a,h1,_⟩:=f.get e;simp only[List.getD,a,aT];exact⟨g j u a,h1⟩
 .obtain⟨u,a,_,h1⟩:=f.get e;simp only[List.getD,a,aT];exact h1
theorem CX{t:TypeId}{b:Bool}(h:pa P t=some b)(w:World):(isAgg t).run P w = .ok b w:=by
 unfold pa at h;unfold isAgg
 cases a:P.underlying t with
 | none=>simp[a]at h
 | some d=>cases d<;>simp[a]at h<;>subst h<;>simp[run_underlying a]
theorem ry{t:TypeId}{n:Nat}(h:ky P t=some n)(w:World):(sizeOf t).run P w = .ok n w:=by simp only[ky,ak]at h;obtain⟨i,hi,rfl⟩:=h;simp[sizeOf,typeInfo,hi]
theorem run_typeInfo{t:TypeId}{i:TypeInfo}(h:P.info? t=some i)(w:World):(typeInfo t).run P w = .ok i w:=by simp[typeInfo,h]
theorem AY{t:TypeId}{z:List D}(h:rF P t=some z)(w:World):∃v:Value,(zeroValue t).run P w = .ok v w/\(P.info? t).bind (·.zero)=some v /\
  ∀c w,Cells c w v.cells.toList z:=by
 unfold rF at h
 cases hi:P.info? t with
 | none=>simp[hi]at h
 | some i=>
  simp only[hi,Option.bind_some]at h
  cases a:i.zero with
  | none=>simp[a]at h
  | some v=>
   simp only[a]at h;split at h
   .rename_i f;cases h;refine⟨v,by simp[zeroValue,run_typeInfo hi,a],by simp[a],λc w=>⟨by simp,λu b=>?_,λi u d b e=>?_⟩⟩
    .exact cK.1 f u (by simpa using b)
    .simp only[au,b,aF,av]at e;subst e;exact abf u
   .cases h
theorem PD{t:TypeId}(i:pa P t=some false){b o:Nat}{cs:List D}(h:uH c w b o cs){d:D}(g:cs[0]? = some d) :
  ∃u,(Instr.loadAt t (.pointer (some ⟨b,o,none⟩))).run P w = .ok u w/\u.oneCell'=true/\gh c w u d:=by
 obtain⟨vs,a,e⟩:=h;obtain⟨u,f,h1,j⟩:=a.get g;have:=e 0 u f;exact⟨u,by simp[Instr.loadAt,Instr.sureAddr,loadVar,CX i];simp at this;simp[this],h1,j⟩
theorem PE{t:TypeId}{n:Nat}(g:pa P t=some true)(hs:ky P t=some n){b o:Nat}{cs:List D}(f:uH c w b o cs)(h:n<=cs.length) :
  ∃u,(Instr.loadAt t (.pointer (some ⟨b,o,none⟩))).run P w = .ok u w/\gh c w u (.agg (cs.take n)):=by
 obtain⟨vs,a,d⟩:=f.take n;have hl:vs.length=n:=by rw[a.len];simp;omega
 have:=run_loadCells_list (P:=P) w ⟨b,o,none⟩ vs (λj v e=>by rw[Addr.add_lit];exact d j v e);rw[hl]at this;exact⟨.agg vs.toArray,by simp[Instr.loadAt,Instr.sureAddr,loadVar,CX g,ry hs,this],a.agg⟩
theorem uB{v g:Nat}{x:TypeId×List D}(h:rowAt H v g=some x):H[v]? = some (.row x.1 g x.2):=by
 unfold rowAt at h;split at h
 .split at h
  .rename_i e;subst e;cases h;assumption
  .cases h
 .cases h
theorem anf(h:gE G c H w){t:TypeId}(l:pa P t=some false){x:D}{u:Value}(k:gh c w u x)(a:IC x H K) :
  ∃v,(Instr.loadAt t u).run P w = .ok v w/\jl G c H w K v w:=by
 unfold IC at a;split at a
 .rename_i v g o;split at a
  .rename_i q cs n;have m:=uB n;split at a
   .rename_i d f;obtain⟨b,p,rfl,i⟩:=M3 h m k;obtain⟨u,e,_,j⟩:=PD l i (d:=d) (by simpa using f);exact⟨u,e,.plain h a j⟩
   .exact a.elim
  .exact a.elim
 .rename_i cs;split at a
  .rename_i d f;obtain⟨b,p,rfl,_,i⟩:=zD k;obtain⟨u,e,_,j⟩:=PD l i f;exact⟨u,e,.plain h a j⟩
  .exact a.elim
 .exact a.elim
theorem ang(h:gE G c H w){t:TypeId}{n:Nat}(j:pa P t=some true)(hs:ky P t=some n){x:D}{u:Value}(i:gh c w u x)(a:ID n x H K) :
  ∃v,(Instr.loadAt t u).run P w = .ok v w/\jl G c H w K v w:=by
 unfold ID at a;split at a
 .rename_i v g o;split at a
  .rename_i m cs l;have k:=uB l;obtain⟨b,p,rfl,e⟩:=M3 h k i;obtain⟨u,d,f⟩:=PE (n:=n) j hs e (by simp;omega);exact⟨u,d,.plain h a.2 f⟩
  .exact a.elim
 .rename_i cs;obtain⟨b,p,rfl,_,e⟩:=zD i;obtain⟨u,d,f⟩:=PE (n:=n) j hs e a.1;exact⟨u,d,.plain h a.2 f⟩
 .exact a.elim
theorem ano(h:gE G c H w){x y z:D}{u v t:Value}(h1:gh c w u x)(e:gh c w v y)(d:gh c w t z)(a:IY x y z H K) :
  ∃b,u = .bool b/\jl G c H w K (if b then v else t) w:=by
 unfold IY at a;split at a
 .rename_i b;cases h1;refine⟨b,rfl,.plain h a ?_⟩;cases b
  .exact d
  .exact e
 .exact a.elim
end
end Go.AL
namespace Go.AL
open Go
section
variable{P:Program}{G:GT}{c:Ctx}{H:U}{w:World}{K:jG}{env:gT}{a:Act}
theorem wrap_i64{n:Int}(h:om n):IntKind.i64.wrap n=n:=by unfold om at h;simp only[IntKind.wrap,IntKind.signed,IntKind.bits];simp;omega
theorem jl.val(h:gE G c H w){v:Value}(a:K (.val v) H):jl G c H w K v w:=.plain h a (.val _)
theorem amV(h:gE G c H w){op:BinOp}{k:IntKind}{x y:Int}(a:Ge op k x y H K)(hs:op≠.shl/\op≠.shr)(t:TypeId)(xo b:Operand) :
  ∃v,(do eqGuard op t xo b (.int k x) (.int k y);binOp op t (.int k x) (.int k y)).run P w = .ok v w/\jl G c H w K v w:=by
 have hg:(eqGuard op t xo b (.int k x) (.int k y)).run P w = .ok () w:=by cases op<;>simp[eqGuard]
 simp only[Sem.run_bind,hg,Result.andThen_ok];cases op<;>simp only[Ge]at a
 case add=>
  by_cases e:k = .i64
  .subst e;simp only[if_true]at a;exact⟨_,by simp[binOp,Op.intArith,wrap_i64 a.1]<;>rfl,.val h a.2⟩
  .rw[if_neg e]at a;exact⟨_,by simp[binOp,Op.intArith]<;>rfl,.val h a⟩
 case sub=>
  by_cases e:k = .i64
  .subst e;simp only[if_true]at a;exact⟨_,by simp[binOp,Op.intArith,wrap_i64 a.1]<;>rfl,.val h a.2⟩
  .rw[if_neg e]at a;exact⟨_,by simp[binOp,Op.intArith]<;>rfl,.val h a⟩
 case mul=>
  by_cases e:k = .i64
  .subst e;simp only[if_true]at a;exact⟨_,by simp[binOp,Op.intArith,wrap_i64 a.1]<;>rfl,.val h a.2⟩
  .rw[if_neg e]at a;exact⟨_,by simp[binOp,Op.intArith]<;>rfl,.val h a⟩
 case quo=>exact⟨_,by simp[binOp,Op.intDiv,a.1]<;>rfl,.val h a.2⟩
 case rem=>exact⟨_,by simp[binOp,Op.intDiv,a.1]<;>rfl,.val h a.2⟩
 case and=>exact⟨_,by simp[binOp,Op.intBits]<;>rfl,.val h (by simpa[bits]using a)⟩
 case or=>exact⟨_,by simp[binOp,Op.intBits]<;>rfl,.val h (by simpa[bits]using a)⟩
 case xor=>exact⟨_,by simp[binOp,Op.intBits]<;>rfl,.val h (by simpa[bits]using a)⟩
 case andNot=>exact⟨_,by simp[binOp,Op.intBits]<;>rfl,.val h (by simpa[bits]using a)⟩
 case eql=>exact⟨_,by simp[binOp,Op.intCmp]<;>rfl,.val h a⟩
 case neq=>exact⟨_,by simp[binOp,Op.intCmp]<;>rfl,.val h a⟩
 case lss=>exact⟨_,by simp[binOp,Op.intCmp]<;>rfl,.val h a⟩
 case leq=>exact⟨_,by simp[binOp,Op.intCmp]<;>rfl,.val h a⟩
 case gtr=>exact⟨_,by simp[binOp,Op.intCmp]<;>rfl,.val h a⟩
 case geq=>exact⟨_,by simp[binOp,Op.intCmp]<;>rfl,.val h a⟩
 all_goals exact absurd rfl (by first|exact hs.1|exact hs.2)
theorem TR(h:gE G c H w){op:BinOp}{x y:D}{u v:Value}(h1:gh c w u x)(f:gh c w v y)(a:Gj op x y H K)(t:TypeId)(xo d:Operand) :
  ∃r,(do eqGuard op t xo d u v;binOp op t u v).run P w = .ok r w/\jl G c H w K r w:=by
 unfold Gj at a;split at a
 .cases h1;cases f;split at a
  .have key:∀op,pY op=true->op = .shl\/op = .shr:=λop g=>by cases op<;>simp[pY]at g<;>simp
   rename_i hs;rcases key op hs with rfl|rfl
   .simp only[Jl]at a;have b:=a.1;exact⟨_,by simp[eqGuard,binOp,Op.shift,fe.2 b]<;>rfl,.val h a.2⟩
   .simp only[Jl]at a;have b:=a.1;exact⟨_,by simp[eqGuard,binOp,Op.shift,fe.2 b]<;>rfl,.val h a.2⟩
  .rename_i hs;obtain⟨rfl,a⟩:=a;exact amV h a ⟨λe=>by subst e;exact hs rfl,λe=>by subst e;exact hs rfl⟩ t xo d
 .cases h1;cases f;rename_i p q;cases op<;>simp only[PT]at a
  case add=>exact⟨.string (p++q),by simp[eqGuard,binOp,run_string_add_sum w p q (by have:=a.1;omega)],.val h a.2⟩
  case eql=>exact⟨_,by simp[eqGuard,binOp,Op.stringOp,ByteArray.toList_eq]<;>rfl,.val h (by simpa using a)⟩
  case neq=>exact⟨_,by simp[eqGuard,binOp,Op.stringOp,ByteArray.toList_eq]<;>rfl,.val h (by simpa using a)⟩
 .grind
theorem anw(h:gE G c H w){op:UnOp}{x:D}{u:Value}(h1:gh c w u x)(a:JD op x H K) :
  ∃r,(Op.unary op u).run P w = .ok r w/\jl G c H w K r w:=by
 unfold JD at a;split at a
 .cases h1;exact⟨_,by simp[Op.unary]<;>rfl,.val h a⟩
 .cases h1;rename_i n;have:(0-n) = -n:=by omega
  exact⟨_,by simp[Op.unary,Op.intArith,wrap_i64 a.1]<;>rfl,.val h a.2⟩
 .cases h1;exact⟨_,by simp[Op.unary,Op.intBits]<;>rfl,.val h (by simpa[bits]using a)⟩
 .grind
theorem DH{d:D}{v:Value}{cs:List D}(r:gh c w v d)(j:cellsOf d=some cs):Cells c w v.cells.toList cs:=by
 have key:∀ {v:Value} {d:D},gh c w v d->v.oneCell'=true->v.cells = #[v]->Cells c w v.cells.toList [d]:=λ{v d} r h1 p=>by rw[p];exact⟨rfl,by simpa using h1,λi u e A B=>by grind⟩
 cases r with
 | any v=>simp[cellsOf]at j
 | val v=>
  simp only[cellsOf]at j;split at j
  .rename_i h1;cases j;refine key (.val v) h1 ?_;cases v<;>first|rfl|(simp[Value.oneCell']at h1)
  .cases j
 | agg vs ds hl h1 h=>
  simp only[cellsOf,av]at j;subst j;exact⟨by simpa[Value.cells]using hl,by simpa[Value.cells]using h1,λi v d p s=>h i v d (by simpa[Value.cells]using p) s⟩
 | tup=>simp[cellsOf]at j
 | sl a len cap sz es g h1 l m n q x t=>simp only[cellsOf,av]at j;subst j;exact key (.sl a len cap sz es g h1 l m n q x t) rfl rfl
 | gg=>simp only[cellsOf,av]at j;subst j;exact key .gg rfl rfl
 | l9 a vs h1 l m=>simp only[cellsOf,av]at j;subst j;exact key (.l9 a vs h1 l m) rfl rfl
 | fZ v k sz off len cap L h1 l m n q=>simp only[cellsOf,av]at j;subst j;exact key (.fZ v k sz off len cap L h1 l m n q) rfl rfl
 | mA v k sz off L h1 a=>simp only[cellsOf,av]at j;subst j;exact key (.mA v k sz off L h1 a) rfl rfl
 | ptr v k off L h1 l=>simp only[cellsOf,av]at j;subst j;exact key (.ptr v k off L h1 l) rfl rfl
 | gC b o cs g h1 l m=>simp only[cellsOf,av]at j;subst j;exact key (.gC b o cs g h1 l m) rfl rfl
 | gH v L h1 l=>simp only[cellsOf,av]at j;subst j;exact key (.gH v L h1 l) rfl rfl
 | fn f fs cs y z h1 l m n=>simp only[cellsOf,av]at j;subst j;exact key (.fn f fs cs y z h1 l m n) rfl rfl
 | ja v L h1 l=>simp only[cellsOf,av]at j;subst j;exact key (.ja v L h1 l) rfl rfl
theorem anx{d:D}(h:one d=true):cellsOf d=some [d]:=by
 cases d<;>first|rfl|(simp[one]at h;done)|skip
 rename_i v;simp only[one]at h;simp[cellsOf,h]
theorem anN{L:Loc}(a:L.jN=false)(h0:L.base=0)(v g:Nat):gh (c.set v g L) w (.pointer (some ⟨L.b,0,none⟩)) (.ptr v g 0):=by have:=gh.ptr (c:=c.set v g L) (w:=w) v g 0 L (Ctx.sN _ _ _ _) a;simpa[h0]using this
theorem aaM(h:gE G c H w){al:Al}(b:nq H al)(t:TypeId){v:Value}{cs:List D}(e:Cells c w v.cells.toList cs)(d:K (.ptr al.1 0 0) (al.2 (.row t 0 cs))) :
  ∃w',(newVar t v).run P w = .ok ⟨w.heap.size,0,none⟩ w'/\jl G c H w K (.pointer (some ⟨w.heap.size,0,none⟩)) w':=by
 obtain⟨L,h1,j,i,k,g,f⟩:=EW h w (kf.refl w) t v.cells.toList cs v.cells.size v.cells (b _).uF e (by rw[<-dq,dH]) (Nat.le_refl _);refine⟨w.alloc (.cells v.cells t),by simp[newVar,newRow],?_⟩;have a:=anN (c:=c) (w:=w.alloc (.cells v.cells t)) h1 i al.1 0;rw[j]at a;exact⟨_,_,_,d,g,a,f⟩
theorem amX(h:gE G c H w){al:Al}(d:nq H al)(t:TypeId){x:D}{u:Value}(h1:gh c w u x)(a:Gl t x al K) :
  ∃r w',(Instr.box t u).run P w = .ok r w'/\jl G c H w K r w':=by
 unfold Gl at a;split at a
 .rename_i cs b;obtain⟨w',e,f⟩:=aaM (P:=P) h d t (DH h1 b) a;exact⟨_,w',by simp[Instr.box,e],f⟩
 .grind
theorem amS(h:gE G c H w){al:Al}(a:nq H al){t:TypeId}{z:List D}(b:rF P t=some z)(g:K (.ptr al.1 0 0) (al.2 (.row t 0 z))) :
  ∃r w',(Instr.alloc t true (.tuple #[])).run P w = .ok r w'/\jl G c H w K r w':=by
 obtain⟨v,d,_,i⟩:=AY b w;obtain⟨w',e,f⟩:=aaM (P:=P) h a t (i c w) g;exact⟨_,w',by simp[Instr.alloc,d,e],f⟩
theorem Cells.sP{vs us:List Value}{cs ds:List D}(h:Cells c w vs cs)(k:Cells c w us ds)(o:Nat):Cells c w (vs.take o++us++vs.drop (o+us.length)) (cs.take o++ds++cs.drop (o+ds.length)):=by rw[k.len];exact((h.take o).append k).append (h.drop _)
theorem af5(l:List Value):∀(off:Nat) (cs:Array Value),off+l.length<=cs.size ->
  ((l.zipIdx off).foldl (λ(cs:Array Value) (x:Value×Nat)=>cs.setIfInBounds x.2 x.1) cs).toList=cs.toList.take off++l++cs.toList.drop (off+l.length):=by
 induction l with
 | nil=>intro off cs _;simp
 | cons v r a=>
  intro off cs h;simp only[aC]at h;simp only[List.zipIdx_cons,cu];rw[a (off+1) _ (by simp;omega)];simp only[Array.toList_setIfInBounds];have:=list_seg_step cs.toList off v r (by simp;omega);simpa[bh,dA 1]using this
theorem afY(cs:Array Value)(l:Array Value)(off:Nat)(h:off+l.size<=cs.size) :
  (l.zipIdx.foldl (λ(cs:Array Value) (x:Value×Nat)=>match x with|(c,j)=>cs.setIfInBounds (off+j) c) cs).toList=cs.toList.take off++l.toList++cs.toList.drop (off+l.size):=by
 have:=af5 l.toList off cs (by simpa using h);rw[<-Array.foldl_toList,Array.toList_zipIdx]
 have e:(l.toList.zipIdx off)=(l.toList.zipIdx 0).map λx=>(x.1,off+x.2):=by
  rw[List.zipIdx_eq_map_add]
  first|done|(simp only[dA])
 rw[e,List.foldl_map]at this;exact this
theorem NG(a:Nat->Option (Nat×Nat)):∀(vs:List (Nat×Value)) (ps:List (Nat×Nat×List D)) (arr:Array Value) (cs rs:List D),
  Cells c w arr.toList cs->vs.length=ps.length ->
  (∀(i:Nat) (v:Nat×Value) (p:Nat×Nat×List D),vs[i]? = some v->ps[i]? = some p->a v.1=some (p.1,p.2.1)/\Cells c w v.2.cells.toList p.2.2) ->
  lay ps cs=some rs->∃d,Instr.fill a arr vs=some d/\Cells c w d.toList rs
 | [],[],arr,cs,rs,hc,_,_,hl=>by simp[lay]at hl;subst hl;exact⟨arr,rfl,hc⟩
 | (i,v)::vs,(o,n,xs)::ps,arr,cs,rs,hc,hlen,h,hl=>by
  obtain⟨b,g⟩:=h 0 (i,v) (o,n,xs) rfl rfl;simp only[lay]at hl;split at hl
  .rename_i e;have f:v.cells.size=n:=by rw[<-e.1,<-g.len];simp
   have k:o+v.cells.size<=arr.size:=by rw[f];have:=hc.len;simp at this;omega
   simp only[Instr.fill,b];rw[if_neg (by simp;omega)];have j:=afY arr v.cells o k;refine NG a vs ps _ _ rs ?_ (by simpa using hlen) (λi v p l b=>h (i+1) v p (by simpa using l) (by simpa using b)) hl;rw[j];have:=hc.sP g o;rw[e.1]at this;simpa[f]using this
  .cases hl
theorem MX(h:gE G c H w)(e:kW c w env a):∀(l:List (Nat×Operand)) {ps:List (Nat×X)},zC G l=some ps ->
  ps.length=l.length/\∀(i:Nat) (x:Nat×Operand) (p:Nat×X),l[i]? = some x->ps[i]? = some p->p.1=x.1/\gh c w (a.eval x.2) (ev env p.2)
 | [],ps,hx=>by cases hx;simp
 | (i,x)::r,ps,hx=>by
  simp only[zC]at hx;split at hx
  .rename_i X l hX hl;cases hx;obtain⟨g,f⟩:=MX h e r hl;refine⟨by simp[g],λj y p b d=>?_⟩
   cases j with
   | zero=>simp at b d;subst b;subst d;exact⟨rfl,iS h e hX⟩
   | succ j=>simp at b d;exact f j y p b d
  .cases hx
theorem aa0{fs:Array Field}:∀ {ps:List (Nat×X)} {a:List (Nat×Nat×X)},IZ P fs ps=some a ->
  a.length=ps.length/\∀(i:Nat) (p:Nat×X) (q:Nat×Nat×X),ps[i]? = some p->a[i]? = some q->q.2.2=p.2/\∃f,fs[p.1]? = some f/\q.1=f.offset/\ky P f.type=some q.2.1
 | [],a,h=>by cases h;simp
 | (i,x)::r,a,h=>by
  simp only[IZ]at h;split at h
  .rename_i f l k hl;simp only[ak]at h;obtain⟨n,g,rfl⟩:=h;obtain⟨e,d⟩:=aa0 hl;refine⟨by simp[e],λj p q c b=>?_⟩
   cases j with
   | zero=>simp at c b;subst c;subst b;exact⟨rfl,f,k,rfl,g⟩
   | succ j=>simp at c b;exact d j p q c b
  .cases h
theorem TW{l:List (Nat×Nat×X)}{r:List (Nat×Nat×List D)}(h:partsOf env l=some r) :
  r.length=l.length/\∀(i:Nat) (p:Nat×Nat×X) (q:Nat×Nat×List D),l[i]? = some p->r[i]? = some q->q.1=p.1/\q.2.1=p.2.1/\cellsOf (ev env p.2.2)=some q.2.2:=by
 induction l generalizing r with
 | nil=>simp[partsOf]at h;subst h;simp
 | cons p l a=>
  obtain⟨o,n,x⟩:=p;simp only[partsOf]at h;split at h
  .grind
  .cases h
theorem NP{α:Type}{l:List α}{n i:Nat}(hl:l.length=n)(hi:i<n):∃x,l[i]? = some x:=⟨l[i],by simp[hl▸hi]⟩
theorem amY(h:gE G c H w)(he:kW c w env a){t:TypeId}{z:List D}{ops:Array (Nat×Operand)}{ps:List (Nat×X)}{C:List (Nat×Nat×X)}{fs:Array Field}
  (U:rF P t=some z) (Z:zC G ops.toList=some ps) (W:P.underlying t=some (.struct fs)) (hf:Xo P fs=true) (Y:IZ P fs ps=some C)
  (e:Bc env z C H K):∃r,(Instr.build t (ops.map λ(i,x)=>(i,a.eval x))).run P w = .ok r w/\jl G c H w K r w:=by
 unfold Bc at e;split at e
 .rename_i l hl;split at e
  .rename_i cs S;obtain⟨v,V,_,hc⟩:=AY U w;obtain⟨j,R⟩:=MX h he ops.toList Z;obtain⟨q1,q2⟩:=aa0 Y;obtain⟨N,M⟩:=TW hl
   have A:∃b:Array (Nat×Nat),(fs.mapM λf=>do pure (f.offset,<-sizeOf f.type):Sem (Array (Nat×Nat))).run P w = .ok b w/\∀(i:Nat) (f:Field) (n:Nat),fs[i]? = some f->ky P f.type=some n->b[i]? = some (f.offset,n):=by
    have key:∀(l:List Field),(∀f∈l,(ky P f.type).isSome=true)->∃pl:List (Nat×Nat),(l.mapM λf=>do pure (f.offset,<-sizeOf f.type):Sem (List (Nat×Nat))).run P w = .ok pl w/\∀(i:Nat) (f:Field) (n:Nat),l[i]? = some f->ky P f.type=some n->pl[i]? = some (f.offset,n):=by
     intro l
     induction l with
     | nil=>intro _;exact⟨[],by simp,by simp⟩
     | cons f l T=>
      intro E;obtain⟨pl,d,k⟩:=T (λg hg=>E g (by simp[hg]));obtain⟨n,o⟩:=dp.1 (E f (by simp));refine⟨(f.offset,n)::pl,?_,λi g m hg hm=>?_⟩
      .simp only[eV,Sem.run_bind,ry o,Result.andThen_ok,Sem.run_pure,d]
      .grind
    obtain⟨pl,d,k⟩:=key fs.toList (λf u=>cK.1 hf f (by simpa using u));refine⟨pl.toArray,?_,λi f n hi o=>by simpa using k i f n (by simpa using hi) o⟩;rw[ff,Sem.run_map,d];rfl
   obtain⟨b,d,k⟩:=A
   obtain⟨Q,Ae,O⟩:=NG (c:=c) (w:=w) (b[·]?) (ops.toList.map λx=>(x.1,a.eval x.2)) l v.cells z cs (hc c w) (by simp[N,q1,j]) (λi x q I H7=>by
    simp only[au,ak]at I;obtain⟨y,F,rfl⟩:=I;have hi:i<ops.toList.length:=(ae.1 F).1;obtain⟨p,B⟩:=NP j hi;obtain⟨s,L⟩:=NP (q1.trans j) hi;obtain⟨e1,e2⟩:=R i y p F B;obtain⟨e3,f,a1,a0,a'⟩:=q2 i p s B L;obtain⟨e4,e5,J⟩:=M i s q L H7;refine⟨?_,?_⟩
    .grind
    .rw[e3]at J
     exact DH e2 J) S
   refine⟨.agg Q,?_,?_⟩
   .simp only[Instr.build,Sem.run_bind,V,Result.andThen_ok,run_underlying W,d];have:(Array.map (λx=>(x.fst,a.eval x.snd)) ops).toList=ops.toList.map λx=>(x.1,a.eval x.2):=by simp
    simp only[this,Ae];rfl
   .have:=O.agg;exact .plain h e (by simpa using this)
  .exact e.elim
 .grind
theorem amZ(h:gE G c H w)(I:kW c w env a){t e:TypeId}{n sz:Nat}{z:List D}{ops:Array (Nat×Operand)}{ps:List (Nat×X)}
  (B:rF P t=some z) (F:zC G ops.toList=some ps) (E:P.underlying t=some (.array n e)) (hs:ky P e=some sz)
  (b:Bc env z (ps.map λp=>(p.1*sz,sz,p.2)) H K):∃r,(Instr.build t (ops.map λ(i,x)=>(i,a.eval x))).run P w = .ok r w/\jl G c H w K r w:=by
 unfold Bc at b;split at b
 .rename_i l hl;split at b
  .rename_i cs A;obtain⟨v,C,_,J⟩:=AY B w;obtain⟨f,u⟩:=MX h I ops.toList F;obtain⟨m,k⟩:=TW hl
   obtain⟨s,S,o⟩:=NG (c:=c) (w:=w) (λi=>some (i*sz,sz)) (ops.toList.map λx=>(x.1,a.eval x.2)) l v.cells z cs (J c w) (by simp[m,f]) (λi x q j R=>by
    simp only[au,ak]at j;obtain⟨y,g,rfl⟩:=j;have hi:i<ops.toList.length:=(ae.1 g).1;obtain⟨p,d⟩:=NP f hi;obtain⟨Q,O⟩:=u i y p g d;obtain⟨N,M,L⟩:=k i (p.1*sz,sz,p.2) q (by simp[d]) R
    exact⟨by simp[N,M,Q],DH O L⟩) A
   refine⟨.agg s,?_,?_⟩
   .simp only[Instr.build,Sem.run_bind,C,Result.andThen_ok,run_underlying E,ry hs];have:(Array.map (λx=>(x.fst,a.eval x.snd)) ops).toList=ops.toList.map λx=>(x.1,a.eval x.2):=by simp
    simp only[this,S];rfl
   .have:=o.agg;exact .plain h b (by simpa using this)
  .exact b.elim
 .exact b.elim
