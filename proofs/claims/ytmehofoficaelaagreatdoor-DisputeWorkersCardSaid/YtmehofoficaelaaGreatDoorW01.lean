/- Part 1 of DisputeWorkers. -/
import Derived.RangeFuncIn
import Derived.TacticsIn
import Derived.OrdersIn
import Derived.Laws.CopyRow
import Derived.Laws.AppendOwn
import Derived.Laws.OwnMore
import Derived.Laws.Concat
import Derived.Laws.Strings
import Derived.Laws.Slices
import Derived.Laws.StructEq
import Derived.Laws.BytesString
set_option linter.all false
namespace Go.AL
open Go
def ae:=@List.getElem?_eq_some_iff
def af:=@List.take_of_length_le
def ag:=@Option.bind_eq_some_iff
def ah:=@List.getElem?_append_left
def ai:=@List.getElem?_append_right
def aj:=@Option.map_eq_some_iff
def ak:=@List.length_append
def ao:=@List.length_set
def aq:=@Option.some.injEq
def ar:=@List.mem_map
def au:=@List.getElem?_map
def av:=@List.mem_cons
def aw:=@List.map_congr_left
def ax:=@List.length_pos_iff
def ay:=@List.length_eq_zero_iff
def az:=@List.append_nil
def aA:=@Option.bind_eq_bind
def aB:=@List.getElem?_set_ne
def aC:=@List.mem_iff_getElem?
def aD:=@Option.pure_def
def aF:=@List.getElem?_take
def aG:=@List.getElem?_drop
def aH:=@Option.map_some
def aI:=@List.getElem?_set_self
def aJ:=@List.length_cons
def aK:=@List.length_take
def aL:=@List.append_assoc
def aM:=@List.set_append_left
def aN:=@List.mem_filter
def aO:=@Nat.lt_of_lt_of_le
def aP:=@Array.getElem?_eq_some_iff
def aQ:=@Nat.zero_add
def aR:=@List.length_drop
def aS:=@List.pairwise_cons
def aT:=@List.eq_nil_iff_forall_not_mem
def aU:=@List.eq_nil_of_length_eq_zero
def aV:=@List.take_append_of_le_length
def aW:=@List.mem_of_mem_take
def aX:=@List.mem_cons_of_mem
def aY:=@List.length_singleton
def aZ:=@Option.getD_some
def a7:=@List.flatten_cons
def a8:=@Nat.add_assoc
def bf:=@List.map_id
def bg:=@Array.getElem?_modify
def bh:=@List.mem_flatten
def bj:=@List.mem_range
def bk:=@List.getElem?_eq_none
def bn:=@Nat.add_mul
def bp:=@List.replicate_succ
def bq:=@List.nil_append
def br:=@List.ext_getElem
def bt:=@Int.toNat_natCast
def bw:=@List.mem_of_mem_drop
def bz:=@Nat.mul_le_mul_right
def bA:=@List.mem_append_left
def bB:=@List.drop_of_length_le
def bC:=@Bool.false_eq_true
def bE:=@Int.emod_lt_of_pos
def bF:=@Array.getElem?_toList
def bG:=@List.mem_append_right
def bH:=@Nat.lt_or_ge
def bI:=@List.ext_getElem?
def bJ:=@List.pairwise_iff_getElem
def bK:=@List.drop_eq_getElem_cons
def bL:=@Int.emod_nonneg
def bM:=@List.mem_flatMap
def bN:=@List.getElem?_range
def bO:=@List.flatMap_append
def bP:=@Array.toArray_toList
def bQ:=@Bool.or_eq_true
def bR:=@List.pairwise_append
def bS:=@Nat.sub_self
def bT:=@List.getElem_mem
def bU:=@List.cons_append
def bV:=@List.drop_eq_nil_of_le
def bW:=@List.getElem?_set
def bX:=@List.take_append_drop
def bY:=@List.set_eq_take_append_cons_drop
def bZ:=@Option.some.inj
def b6:=@List.drop_drop
def b7:=@Int.toNat_of_nonneg
def b9:=@List.foldl_cons
def cd:=@Array.getElem?_eq_getElem
def cj:=@Nat.eq_of_beq_eq_true
def cu:=@Ne.symm
def cy:=@Nat.add_zero
def cz:=@List.map_map
def cA:=@Nat.succ_mul
def cD:=@Array.size_append
def cE:=@Array.getElem?_append_left
def cF:=@Array.all_eq_true_iff_forall_mem
def cG:=@List.range'_succ
def cH:=@Classical.choose_spec
def cI:=@List.exists_mem_of_ne_nil
def cJ:=@Array.getElem?_setIfInBounds_ne
def cK:=@List.range_eq_range'
def cL:=@Prod.ext
def cM:=@List.nodup_cons
def cN:=@Nat.pow_le_pow_right
def cO:=@List.nodup_append
def cP:=@List.countP_cons
def cQ:=@Nat.zero_mul
def cT:=@Array.getD_eq_getD_getElem?
def cU:=@List.mem_filterMap
def cV:=@List.countP_append
def cW:=@List.length_nil
def cY:=@List.cons.injEq
def cZ:=@Nat.le_of_ble_eq_true
def c8:=@List.size_toArray
def c9:=@List.contains_eq_mem
def da:=@Option.isSome_iff_exists
def db:=@Array.length_toList
def de:=@Array.toList_append
def dh:=@List.getElem?_cons_succ
def dj:=@List.filter_append
def dm:=@List.find?_eq_none
def dp:=@List.take_add_one
def dq:=@Bool.not_eq_true'
def dt:=@Nat.add_comm
def du:=@List.getElem?_toArray
def dw:=@List.contains_iff_mem
def dy:=@List.set_append_right
def dz:=@Array.getElem?_mapIdx
def dA:=@List.countP_le_length
def dB:=@List.take_length
def dC:=@Prod.mk.injEq
def dD:=@List.mem_zipIdx_iff_le_and_getElem?_sub
def dF:=@List.findIdx?_eq_none_iff
def dH:=@List.mem_or_eq_of_mem_set
def dJ:=@Bool.decide_and
def dK:=@List.mem_take_iff_getElem
def dM:=@Nat.eq_zero_or_pos
def dO:=@List.Sublist.append_left
def dQ:=@Nat.mul_comm
def dR:=@Int.add_sub_cancel
def dS:=@List.map_replicate
def dT:=@Option.toList_some
def dW:=@List.take_take
def dX:=@Int.le_refl
def dY:=@List.findIdx?_eq_some_iff_getElem
def dZ:=@Array.getElem?_eq_none
def ea:=@List.sublist_cons_self
def ec:=@Int.ediv_eq_zero_of_lt
def ef:=@List.append_eq_nil_iff
def ei:=@Bool.true_and
def eo:=@List.isEmpty_iff
def et:=@Array.mem_filter
def eu:=@List.not_mem_nil
def ew:=@List.flatten_nil
def ey:=@List.length_filter_eq_length_iff
def eA:=@List.set_getElem_self
def eC:=@List.length_mergeSort
def eD:=@Iff.rfl
def eE:=@List.length_replicate
def eF:=@Int.le_of_lt
def eG:=@Nat.pow_succ
def eH:=@List.replicate_succ'
def eI:=@List.drop_append_of_le_length
def eJ:=@Array.getElem?_push
def eM:=@List.replicate_zero
def eN:=@Nat.mul_le_mul_left
def eO:=@List.flatten_append
def eP:=@List.filter_eq_self
def eQ:=@List.mapM_cons
def eR:=@List.take_zero
def eT:=@Int.toNat_zero
def eU:=@List.drop_zero
def eV:=@Nat.mul_one
def eW:=@Nat.add_sub_cancel
def eX:=@List.exists_cons_of_ne_nil
def eY:=@Function.comp_def
def eZ:=@List.pairwise_map
def e7:=@Int.not_lt
def e9:=@Array.mapM_eq_mapM_toList
def fe:=@List.mem_of_find?_eq_some
def ff:=@Nat.mod_eq_of_lt
def fg:=@Nat.sub_zero
def fh:=@List.nodup_range
def fj:=@Nat.le_add_right
def fm:=@List.drop_append
def fo:=@Nat.le_of_not_lt
def fq:=@Nat.mul_le_mul_right_iff
def fr:=@List.length_erase_of_mem
def ft:=@List.length_filterMap_le
def fu:=@Array.toList_inj
def fw:=@List.getElem?_take_of_lt
def fy:=@List.pairwise_mergeSort
def fD:=@List.getElem?_cons_zero
def fE:=@List.append_inj
def fF:=@List.length_pos_of_mem
def fG:=@List.length_eq_one_iff
def fH:=@List.singleton_append
def fJ:=@Bool.decide_or
def fL:=@List.Pairwise.sublist
def fM:=@List.perm_append_comm
def fO:=@Int.add_mul_ediv_left
def fQ:=@Nat.not_lt
def fR:=@Nat.mul_assoc
def fV:=@Nat.min_zero
def fX:=@Int.le_trans
theorem pE{A P:Prop}(k:P)(a:A:=by first|omega|(dsimp only;omega)):A/\P:=⟨a,k⟩
theorem p9{A B P:Prop}(k:P)(a:A:=by first|omega|(dsimp only;omega))(b:B:=by first|omega|(dsimp only;omega)):A/\B/\P:=⟨a,b,k⟩
theorem gO{A B C P:Prop}(k:P)(a:A:=by first|omega|(dsimp only;omega))(b:B:=by first|omega|(dsimp only;omega))(c:C:=by first|omega|(dsimp only;omega)):A/\B/\C/\P:=⟨a,b,c,k⟩
theorem Ay{A B C D P:Prop}(k:P)(a:A:=by first|omega|(dsimp only;omega))(b:B:=by first|omega|(dsimp only;omega))(c:C:=by first|omega|(dsimp only;omega))(d:D:=by first|omega|(dsimp only;omega)):A/\B/\C/\D/\P:=⟨a,b,c,d,k⟩
theorem iy{A B:Prop}(a:A:=by first|omega|(dsimp only;omega))(b:B:=by first|omega|(dsimp only;omega)):A/\B:=⟨a,b⟩
theorem mI{A B C:Prop}(a:A:=by first|omega|(dsimp only;omega))(b:B:=by first|omega|(dsimp only;omega))(c:C:=by first|omega|(dsimp only;omega)):A/\B/\C:=⟨a,b,c⟩
inductive D where
 | any
 | val (v:Value)
 | agg (cs:List D)
 | tup (cs:List D)
 | sl (sz:Nat) (es:List (List D))
 | gg
 | l4 (vs:List Value)
 | fY (v g sz off len:Nat)
 | ptr (v g off:Nat)
 | gu (cs:List D)
 | gD (v:Nat)
 | fn (fn:Fn) (first captured:List D)
 | iT (v:Nat)
 deriving Inhabited
abbrev D.i(n:Int):D:=.val (.int .i64 n)
abbrev D.b(x:Bool):D:=.val (.bool x)
abbrev Env:=List (Nat×D)
def Env.get:Env->Nat->D
 | [],_=>.any
 | (k,d)::r,j=>match Nat.beq k j with
  | true=>d
  | false=>Env.get r j
theorem Env.wW(k:Nat)(d:D)(r:Env)(j:Nat):Env.get ((k,d)::r) j=if k=j then d else Env.get r j:=by
 simp only[Env.get]
 by_cases h:k=j
 .simp_all
 .have:Nat.beq k j=false:=by
   cases a:Nat.beq k j with
   | false=>rfl
   | true=>exact absurd (cj a) h
  rw[if_neg h,this]
structure Loc where
 b:Nat
 base:Nat
 top:Nat
 jO:Bool:=false
structure Ctx where
 ι:Nat->Nat->Option Loc
 F:Nat->Prop
 RT:Nat->Option (Nat×Array Tmp×Code×Code)
inductive gh(c:Ctx)(w:World):Value->D->Prop
 | any (v:Value):gh c w v .any
 | val (v:Value):gh c w v (.val v)
 | agg (vs:List Value) (ds:List D) (hl:vs.length=ds.length) (h1:∀v∈vs,v.oneCell'=true)
   (h:∀(i:Nat) (v:Value) (d:D),vs[i]? = some v->ds[i]? = some d->gh c w v d):gh c w (.agg vs.toArray) (.agg ds)
 | tup (vs:List Value) (ds:List D) (hl:vs.length=ds.length)
   (h:∀(i:Nat) (v:Value) (d:D),vs[i]? = some v->ds[i]? = some d->gh c w v d):gh c w (.tuple vs.toArray) (.tup ds)
 | sl (a:Option Addr) (len cap sz:Nat) (es:List (List D)) (g:Nat->Nat->Value)
   (hlen:es.length=len) (ka:len<=cap) (jb:cap<=maxLen) (iA:∀e∈es,e.length=sz)
   (lJ:a=none->cap=0)
   (hc:∀(i:Nat) (e:List D) (j:Nat) (d:D),es[i]? = some e->e[j]? = some d->∃b o,a=some ⟨b,o,none⟩/\c.F b/\w.cell? ⟨b,o+(i*sz+j),none⟩=some (g i j)/\(g i j).oneCell'=true)
   (hr:∀(i:Nat) (e:List D) (j:Nat) (d:D),es[i]? = some e->e[j]? = some d->gh c w (g i j) d):gh c w (.slice a len cap) (.sl sz es)
 | gg:gh c w (.slice none 0 0) .gg
 | l4 (a:Option Addr) (vs:List Value) (jb:vs.length<=maxLen) (lJ:a=none->vs = [])
   (hc:∀(i:Nat) (v:Value),vs[i]? = some v->∃b o,a=some ⟨b,o,none⟩/\c.F b/\w.cell? ⟨b,o+i,none⟩=some v/\v.oneCell'=true):gh c w (.slice a vs.length vs.length) (.l4 vs)
 | fY (v k sz off len cap:Nat) (L:Loc) (gp:c.ι v k=some L) (hv:L.jO=false) (ka:len<=cap) (jb:cap<=maxLen)
   (mG:L.base+(off+cap)*sz<=L.top):gh c w (.slice (some ⟨L.b,L.base+off*sz,none⟩) len cap) (.fY v k sz off len)
 | mw (v k sz off:Nat) (L:Loc) (gp:c.ι v k=some L) (a:Option Addr):gh c w (.slice a 0 0) (.fY v k sz off 0)
 | ptr (v k off:Nat) (L:Loc) (gp:c.ι v k=some L) (hv:L.jO=false):gh c w (.pointer (some ⟨L.b,L.base+off,none⟩)) (.ptr v k off)
 | gu (b o:Nat) (cs:List D) (g:Nat->Value) (hF:c.F b)
   (hc:∀(j:Nat) (d:D),cs[j]? = some d->w.cell? ⟨b,o+j,none⟩=some (g j)/\(g j).oneCell'=true)
   (hr:∀(j:Nat) (d:D),cs[j]? = some d->gh c w (g j) d):gh c w (.pointer (some ⟨b,o,none⟩)) (.gu cs)
 | gD (v:Nat) (L:Loc) (gp:c.ι v 0=some L) (hv:L.jO=false):gh c w (.map (some L.b)) (.gD v)
 | fn (fn:Fn) (fs cs:List Value) (df dc:List D) (jL:fs.length=df.length) (kd:cs.length=dc.length)
   (h1:∀(i:Nat) (v:Value) (d:D),fs[i]? = some v->df[i]? = some d->gh c w v d)
   (h2:∀(i:Nat) (v:Value) (d:D),cs[i]? = some v->dc[i]? = some d->gh c w v d):gh c w (.func fn fs.toArray cs.toArray) (.fn fn df dc)
 | iT (v:Nat) (L:Loc) (gp:c.ι v 0=some L) (hv:L.jO=false):gh c w (.func (.yield L.b) #[] #[]) (.iT v)
inductive KK where
 | int (k:IntKind)
 | str
 | bool
 | ints (l:List IntKind)
 deriving Inhabited,DecidableEq
def th:List IntKind->List Value->Bool
 | [],[]=>true
 | k::ks,.int k' _::vs=>k == k'&&th ks vs
 | _,_=>false
def KK.has:KK->Value->Bool
 | .int k,.int k' _=>k == k'
 | .str,.string _=>true
 | .bool,.bool _=>true
 | .ints l,.agg cs=>th l cs.toList
 | _,_=>false
inductive qx where
 | ready|busy|A7|zA (id:Nat)
 deriving Inhabited,DecidableEq
inductive Ob where
 | row (t:TypeId) (g:Nat) (cs:List D)
 | map (kk:KK) (es:List (Value×D))
 | ib (rf:Nat) (env:Env) (st:qx)
 | sO (s:ByteArray) (pos:Nat)
 | jl (m:D) (since:Nat) (seen:List Nat)
 | ja
 | dead
 | lT
 deriving Inhabited
def Ob.alive:Ob->Bool
 | .dead | .lT=>false
 | _=>true
def Ob.gen:Ob->Nat
 | .row _ g _=>g
 | _=>0
abbrev U:=List Ob
def lY(c:Ctx)(H:U)(v:Nat)(L:Loc):Prop:=∃o,H[v]? = some o/\o.alive=true/\c.ι v o.gen=some L
def mh(c:Ctx)(H:U)(b:Nat):Prop:=∃v L,lY c H v L/\L.jO=false/\L.b=b
def FH(c:Ctx)(w:World)(arr:Array MapEntry)(a:Nat)(es:List (Value×D)):Prop:=
 arr.size=es.length/\(∀(i:Nat) (e:MapEntry) (x:Value×D),arr[i]? = some e->es[i]? = some x->e.key=x.1/\gh c w e.val x.2/\e.born=i)/\a=es.length
def qx.is:qx->Loop->Prop
 | .ready,r=>r.state = .ready/\r.pending=none
 | .busy,r=>r.state = .busy
 | .A7,r=>r.state = .done/\r.pending=some .ret
 | .zA id,r=>r.state = .done/\r.pending=some (.exit id)
def ia(c:Ctx)(w:World):Option Loc->Ob->Prop
 | _,.dead=>True
 | L,.lT=>L=none
 | none,_=>False
 | some L,.row t _ cs=>if L.jO then cs = []else
   ∃arr:Array Value,w.heap[L.b]? = some (.cells arr t (0,0))/\L.top=arr.size/\L.base+cs.length<=L.top /\
    ∀(i:Nat) (d:D),cs[i]? = some d->∃v,arr[L.base+i]? = some v/\v.oneCell'=true/\gh c w v d
 | some L,.map kk es=>L.jO=false/\(∀x∈es,kk.has x.1=true)/\∃arr a,w.heap[L.b]? = some (.map arr a)/\FH c w arr a es
 | some L,.ib rf env st=>L.jO=false/\∃r:Loop,w.heap[L.b]? = some (.loop r)/\(∀k,gh c w (r.tmps.getD k undef) (env.get k)) /\
   (∃N,c.RT rf=some (N,r.params,r.assign,r.body)/\N<=r.tmps.size)/\st.is r
 | some L,.sO s p=>L.jO=false/\L.base=0/\w.heap[L.b]? = some (.stringIter s p)
 | some L,.jl m since seen=>L.jO=false/\L.base=0/\∃b:Nat,gh c w (.map (some b)) m/\w.heap[L.b]? = some (.mapIter (some b) since seen.toArray since)
 | some L,.ja=>L.jO=true\/w.heap[L.b]? = some (.deferred (some []))
structure HeapOK(c:Ctx)(H:U)(w:World):Prop where
 inj:∀v v' L L',lY c H v L->lY c H v' L'->L.jO=false->L'.jO=false->L.b=L'.b->v=v'
 lt:∀b,mh c H b->b<w.heap.size
 nF:∀b,mh c H b->¬c.F b
 kO:∀b,c.F b->b<w.heap.size
 out:∀v k,H.length<=v->c.ι v k=none
 mD:∀v o k,H[v]? = some o->(o = .lT\/(o.alive=true/\o.gen<k))->c.ι v k=none
 ob:∀(v:Nat) (o:Ob),H[v]? = some o->ia c w (c.ι v o.gen) o
structure Step(n:Nat)(c:Ctx)(H:U)(w:World)(c':Ctx)(H':U)(w':World):Prop where
 os:w'.os=w.os/\w.drawn<=w'.drawn
 tape:w'.tape=w.tape
 output:w'.output=w.output
 size:w.heap.size<=w'.heap.size
 RT:c'.RT=c.RT
 Fm:∀b,c.F b->c'.F b
 Fn:∀b,c'.F b->c.F b\/w.heap.size<=b\/mh c H b
 kept:∀b,b<w.heap.size->¬mh c H b->w'.heap[b]? = w.heap[b]?
 old:∀v k L,v<n->c.ι v k=some L->c'.ι v k=some L
 own:∀b,mh c' H' b->w.heap.size<=b\/mh c H b
theorem Step.refl(n:Nat)(c:Ctx)(H:U)(w:World):Step n c H w c H w:=
 ⟨⟨rfl,Nat.le_refl _⟩,rfl,rfl,Nat.le_refl _,rfl,λ_ h=>h,λ_ h=>.inl h,λ_ _ _=>rfl,λ_ _ _ _ h=>h,λ_ h=>.inr h⟩
theorem Step.trans{n m:Nat}{c d c2:Ctx}{H H1 H2:U}{w w1 w2:World}(h1:Step n c H w d H1 w1)(a:Step m d H1 w1 c2 H2 w2)(f:n<=m) :
  Step n c H w c2 H2 w2 where
 os:=⟨a.os.1.trans h1.os.1,Nat.le_trans h1.os.2 a.os.2⟩
 tape:=a.tape.trans h1.tape
 output:=a.output.trans h1.output
 size:=Nat.le_trans h1.size a.size
 RT:=a.RT.trans h1.RT
 Fm b h:=a.Fm b (h1.Fm b h)
 Fn b h:=by
  rcases a.Fn b h with h|h|h
  .exact h1.Fn b h
  .exact .inr (.inl (Nat.le_trans h1.size h))
  .rcases h1.own b h with h|h
   .grind
   .grind
 kept b hb hn:=by
  rw[a.kept b (aO hb h1.size) (λe=>?_),h1.kept b hb hn];rcases h1.own b e with h|h
  .omega
  .exact hn h
 old v k L hv h:=a.old v k L (by omega) (h1.old v k L hv h)
 own b h:=by
  rcases a.own b h with h|h
  .exact .inl (Nat.le_trans h1.size h)
  .exact h1.own b h
theorem Step.weaken{n m:Nat}{c c':Ctx}{H H':U}{w w':World}(h:Step n c H w c' H' w')(b:m<=n):Step m c H w c' H' w':=
 { h with old:=λv k L a=>h.old v k L (by omega) }
theorem F8{w w':World}{a:Addr}(h:w'.heap[a.block]? = w.heap[a.block]?):w'.cell? a=w.cell? a:=by simp[World.cell?,h]
theorem gh.carry{c c':Ctx}{w w':World}(s:∀v k L,c.ι v k=some L->c'.ι v k=some L)(B:∀b,c.F b->c'.F b)
  (t:∀b o,c.F b->w'.cell? ⟨b,o,none⟩=w.cell? ⟨b,o,none⟩) {v:Value} {d:D} (h:gh c w v d):gh c' w' v d:=by
 induction h with
 | any v=>exact .any _
 | val v=>exact .val _
 | agg vs ds hl h1 h n=>exact .agg vs _ hl h1 n
 | tup vs ds hl h n=>exact .tup vs _ hl n
 | sl a len cap sz es g q y p I x r J n=>
  refine .sl a len cap sz _ g q y p I x ?_ n;intro i e j d K z;obtain⟨b,o,A,m,u,h1⟩:=r i e j d K z;exact⟨b,o,A,B b m,by rw[t b _ m];exact u,h1⟩
 | gg=>exact .gg
 | l4 a vs p x r=>
  refine .l4 a vs p x ?_;intro i v l;obtain⟨b,o,A,m,u,h1⟩:=r i v l;exact⟨b,o,A,B b m,by rw[t b _ m];exact u,h1⟩
 | fY v k sz off len cap L h l y p F=>exact .fY v k sz off len cap L (s _ _ _ h) l y p F
 | mw v k sz off L h a=>exact .mw v k sz off L (s _ _ _ h) a
 | ptr v k off L h l=>exact .ptr v k off L (s _ _ _ h) l
 | gu b o cs g m r J n=>
  refine .gu b o _ g (B b m) ?_ n;intro j d z;rw[t b _ m];exact r j d z
 | gD v L h l=>exact .gD v L (s _ _ _ h) l
 | fn f fs cs N O H G h1 M E C=>exact .fn f fs cs _ _ H G E C
 | iT v L h l=>exact .iT v L (s _ _ _ h) l
theorem gh.step{n:Nat}{c c':Ctx}{H H':U}{w w':World}(e:HeapOK c H w)(hs:Step n c H w c' H' w')(i:H.length<=n){v:Value}{d:D}(h:gh c w v d) :
  gh c' w' v d:=by
 refine h.carry (λv k L a=>hs.old v k L ?_ a) hs.Fm (λb o f=>F8 (hs.kept b (e.kO b f) (λg=>e.nF b g f)));rcases bH v H.length with h|h
 .omega
 .rw[e.out v k h]at a;cases a
theorem gh.qb{c c':Ctx}{H H':U}{w w':World}(a:HeapOK c H w)(hs:Step H.length c H w c' H' w'){v:Value}{d:D}(h:gh c w v d):gh c' w' v d:=
 h.step a hs (Nat.le_refl _)
inductive X where
 | t (k:Nat)
 | c (d:D)
 deriving Inhabited
abbrev gP:=Nat->D
def ev(env:gP):X->D
 | .t k=>env k
 | .c d=>d
def cellsOf:D->Option (List D)
 | .agg cs=>some cs
 | .any | .tup _=>none
 | .val v=>if v.oneCell' then some [.val v]else none
 | d=>some [d]
def one:D->Bool
 | .any | .tup _ | .agg _=>false
 | .val v=>v.oneCell'
 | _=>true
mutual
def closed:D->Bool
 | .any | .val _ | .gg | .l4 _=>true
 | .agg cs | .tup cs | .gu cs=>gF cs
 | .sl _ es=>Du es
 | .fY .. | .ptr .. | .gD _ | .iT _=>false
 | .fn _ a b=>gF a&&gF b
def gF:List D->Bool
 | []=>true
 | d::ds=>closed d&&gF ds
def Du:List (List D)->Bool
 | []=>true
 | e::es=>gF e&&Du es
end
def nX:Value->Value->Bool
 | .int k a,.int k' b=>k == k'&&a == b
 | .string a,.string b=>a == b
 | .bool a,.bool b=>a == b
 | .agg a,.agg b=>a.size == b.size&&(a.toList.zip b.toList).all λ(x,y)=>match x,y with
  | .int k a,.int k' b=>k == k'&&a == b
  | _,_=>false
 | _,_=>false
def HY:List D->Option (List Value)
 | []=>some []
 | .val (.int k n)::r=>(HY r).map (.int k n :: ·)
 | _::_=>none
def keyOf:D->Option Value
 | .val (.int k n)=>some (.int k n)
 | .val (.string s)=>some (.string s)
 | .val (.bool b)=>some (.bool b)
 | .agg cs=>(HY cs).map λl=>.agg l.toArray
 | _=>none
def sJ:Value->D
 | .agg cs=>.agg (cs.toList.map .val)
 | v=>.val v
def rr:List (Value×D)->Value->Option D
 | [],_=>none
 | (k,d)::r,j=>if nX j k then some d else rr r j
def mu:List (Value×D)->Value->D->List (Value×D)
 | [],j,x=>[(j,x)]
 | (k,d)::r,j,x=>if nX j k then(j,x)::r else(k,d)::mu r j x
inductive mB where
 | int|bool|str
 deriving Inhabited,DecidableEq
inductive AV where
 | slice|string|map
 deriving Inhabited,DecidableEq
inductive iL where
 | mv (x:X)
 | pick (c a b:X)
 | box (t:TypeId) (x:X)
 | alloc (t:TypeId) (z:List D)
 | build (z:List D) (ps:List (Nat×Nat×X))
 | buildSl (t sz:Nat) (z:List D) (n:Nat) (ps:List (Nat×X))
 | ld1 (x:X)
 | ldN (n:Nat) (x:X)
 | st1 (a x:X)
 | stN (n:Nat) (a x:X)
 | nilck (x:X)
 | arith (op:BinOp) (x y:X)
 | eqS (jM:Bool) (ls:List mB) (neg:Bool) (x y:X)
 | un (op:UnOp) (x:X)
 | conv (k:IntKind) (x:X)
 | b2s (x:X)
 | mkfn (fn:Fn) (first captured:List X)
 | mkmap (kk:KK)
 | mksl (t sz bytes:Nat) (z:List D) (l c:X)
 | slc (sz:Nat) (x:X) (lo hi:Option X)
 | slcS (x:X) (lo hi:Option X)
 | slc3 (sz:Nat) (x:X) (lo:Option X) (hi mx:X)
 | slcArr (sz n:Nat) (x:X) (lo hi:Option X)
 | fieldA (off:Nat) (x:X)
 | field (off n:Nat) (jM:Bool) (x:X)
 | idxA (sz:Nat) (x i:X)
 | idxArr (sz n:Nat) (x i:X)
 | idx (sz n:Nat) (jM:Bool) (x i:X)
 | idxStr (x i:X)
 | lookup (kk:KK) (z:D) (ok:Bool) (m k:X)
 | mapUpd (kk:KK) (m k v:X)
 | ext (x:X) (i:Nat)
 | call (f:FuncId) (args:List X)
 | callN (f:FuncId) (args:List X)
 | callv (f:X) (args:List X)
 | app (t sz bytes:Nat) (x y:X)
 | copy (sz:Nat) (x y:X)
 | len (k:AV) (x:X)
 | minmax (isMax:Bool) (xs:List X)
 | nilS (neg:Bool) (x:X)
 | capE (x:X)
 | appZ (t sz bytes:Nat) (z:List D) (x n:X)
 | clr (sz:Nat) (z:List D) (x:X)
 | rangeS (x:X)
 | nextS (x:X)
 | rangeM (x:X)
 | nextM (x:X)
 | entry (x:X)
 | mapEnt (kk:KK) (z:D) (m k:X)
 | entSt (m s x:X)
 deriving Inhabited
structure ic where
 dst:Option Nat
 op:iL
 guard:Option (Nat×Bool):=none
 deriving Inhabited
structure GT where
 g:Nat->Option (List D)
 rt:Nat->Option (Nat×Array Tmp×Code×Code)
 nw:FuncId->Bool:=λ_=>false
instance:CoeFun GT (λ_=>Nat->Option (List D)):=⟨GT.g⟩
inductive jC(c:Ctx)(w:World):List Value->List D->Prop
 | nil:jC c w [] []
 | cons {v d vs ds} (h:gh c w v d) (t:jC c w vs ds):jC c w (v::vs) (d::ds)
structure gE(G:GT)(c:Ctx)(H:U)(w:World):Prop extends HeapOK c H w where
 gl:∀(g:Nat) (cs:List D),G g=some cs->gF cs=true/\gh c w (.pointer (some ⟨g,0,none⟩)) (.gu cs)
 rt:c.RT=G.rt
abbrev jE:=D->U->Prop
abbrev Al:=Nat×(Ob->U)
def Al.last(H:U):Al:=(H.length,λob=>H ++ [ob])
def Al.lT(H:U)(v:Nat):Al:=(v,λob=>H.set v ob)
def oq(n:Int):Prop := -9223372036854775808<=n/\n<=9223372036854775807
def FQ(op:BinOp)(k:IntKind)(a b:Int)(H:U)(K:jE):Prop:=
 match op with
 | .add=>if k = .i64 then oq (a+b)/\K (.val (.int .i64 (a+b))) H else K (.val (.int k (k.wrap (a+b)))) H
 | .sub=>if k = .i64 then oq (a-b)/\K (.val (.int .i64 (a-b))) H else K (.val (.int k (k.wrap (a-b)))) H
 | .mul=>if k = .i64 then oq (a*b)/\K (.val (.int .i64 (a*b))) H else K (.val (.int k (k.wrap (a*b)))) H
 | .quo=>b≠0/\K (.val (.int k (k.wrap (a.tdiv b)))) H
 | .rem=>b≠0/\K (.val (.int k (a.tmod b))) H
 | .and | .or | .xor | .andNot=>K (.val (.int k (bits op k a b))) H
 | .eql=>K (.val (.bool (a == b))) H
 | .neq=>K (.val (.bool (a != b))) H
 | .lss=>K (.val (.bool (decide (a<b)))) H
 | .leq=>K (.val (.bool (decide (a<=b)))) H
 | .gtr=>K (.val (.bool (decide (a>b)))) H
 | .geq=>K (.val (.bool (decide (a>=b)))) H
 | _=>False
def IT(op:BinOp)(k:IntKind)(a b:Int)(H:U)(K:jE):Prop:=
 match op with
 | .shl=>0<=b/\K (.val (.int k (k.wrap (a*2 ^ (min b.toNat k.bits))))) H
 | .shr=>0<=b/\K (.val (.int k (a.fdiv (2 ^ (min b.toNat k.bits))))) H
 | _=>False
def p7:BinOp->Bool
 | .shl | .shr=>true
 | _=>false
def Pc(op:BinOp)(a b:ByteArray)(H:U)(K:jE):Prop:=
 match op with
 | .eql=>K (.val (.bool (a.data.toList == b.data.toList))) H
 | .neq=>K (.val (.bool (!(a.data.toList == b.data.toList)))) H
 | .add=>((a.size+b.size:Nat):Int)<=9223372036854775807/\K (.val (.string (a++b))) H
 | _=>False
def FX(op:BinOp)(x y:D)(H:U)(K:jE):Prop:=
 match x,y with
 | .val (.int k a),.val (.int k' b)=>if p7 op then IT op k a b H K else k=k'/\FQ op k a b H K
 | .val (.string a),.val (.string b)=>Pc op a b H K
 | _,_=>False
def Ja(op:UnOp)(x:D)(H:U)(K:jE):Prop:=
 match op,x with
 | .not,.val (.bool b)=>K (.val (.bool (!b))) H
 | .neg,.val (.int .i64 n)=>oq (-n)/\K (.val (.int .i64 (-n))) H
 | .xor,.val (.int k n)=>K (.val (.int k (bits .xor k (if k.signed then -1 else k.max) n))) H
 | _,_=>False
def uI:mB->D->D->Option Bool
 | .int,.val (.int k a),.val (.int k' b)=>if k=k' then some (a == b)else none
 | .bool,.val (.bool a),.val (.bool b)=>some (a == b)
 | .str,.val (.string a),.val (.string b)=>some (a.data.toList == b.data.toList)
 | _,_,_=>none
def mL:List mB->List D->List D->Option Bool
 | [],[],[]=>some true
 | l::ls,x::xs,y::ys=>match uI l x y,mL ls xs ys with
  | some a,some b=>some (a&&b)
  | _,_=>none
 | _,_,_=>none
def wT(c:Bool)(ls:List mB)(neg:Bool)(x y:D)(H:U)(K:jE):Prop:=
 match c,x,y with
 | true,.agg a,.agg b=>match mL ls a b with
  | some r=>K (.val (.bool (if neg then !r else r))) H
  | none=>False
 | false,x,y=>match mL ls [x] [y]with
  | some r=>K (.val (.bool (if neg then !r else r))) H
  | none=>False
 | _,_,_=>False
def Iv(c a b:D)(H:U)(K:jE):Prop:=
 match c with
 | .val (.bool x)=>K (if x then a else b) H
 | _=>False
def rowAt(H:U)(v k:Nat):Option (TypeId×List D):=match H[v]? with
 | some (.row t g cs)=>if g=k then some (t,cs)else none
 | _=>none
def HZ(x:D)(H:U)(K:jE):Prop:=
 match x with
 | .ptr v g o=>match rowAt H v g with
  | some (_,cs)=>match cs[o]? with
   | some d=>K d H
   | none=>False
  | none=>False
 | .gu cs=>match cs[0]? with
  | some d=>K d H
  | none=>False
 | _=>False
def H6(n:Nat)(x:D)(H:U)(K:jE):Prop:=
 match x with
 | .ptr v g o=>match rowAt H v g with
  | some (_,cs)=>o+n<=cs.length/\K (.agg ((cs.drop o).take n)) H
  | none=>False
 | .gu cs=>n<=cs.length/\K (.agg (cs.take n)) H
 | _=>False
def I0(a x:D)(H:U)(K:jE):Prop:=
 match a with
 | .ptr v g o=>match rowAt H v g with
  | some (t,cs)=>o<cs.length/\one x=true/\K .any (H.set v (.row t g (cs.set o x)))
  | none=>False
 | _=>False
def I1(n:Nat)(a x:D)(H:U)(K:jE):Prop:=
 match a,cellsOf x with
 | .ptr v g o,some xs=>match rowAt H v g with
  | some (t,cs)=>xs.length=n/\o+n<=cs.length/\K .any (H.set v (.row t g (cs.take o++xs++cs.drop (o+n))))
  | none=>False
 | _,_=>False
def FZ(t:TypeId)(x:D)(al:Al)(K:jE):Prop:=
 match cellsOf x with
 | some cs=>K (.ptr al.1 0 0) (al.2 (.row t 0 cs))
 | none=>False
def lay:List (Nat×Nat×List D)->List D->Option (List D)
 | [],cs=>some cs
 | (o,n,xs)::r,cs=>if xs.length=n/\o+n<=cs.length then lay r (cs.take o++xs++cs.drop (o+n))else none
def partsOf(env:gP):List (Nat×Nat×X)->Option (List (Nat×Nat×List D))
 | []=>some []
 | (o,n,x)::r=>match cellsOf (ev env x),partsOf env r with
  | some cs,some l=>some ((o,n,cs)::l)
  | _,_=>none
def AZ(env:gP)(z:List D)(ps:List (Nat×Nat×X))(H:U)(K:jE):Prop:=
 match partsOf env ps with
 | some l=>match lay l z with
  | some cs=>K (.agg cs) H
  | none=>False
 | none=>False
def F0(env:gP)(t sz:Nat)(z:List D)(n:Nat)(ps:List (Nat×X))(al:Al)(K:jE):Prop:=
 match partsOf env (ps.map λp=>(p.1*sz,sz,p.2))with
 | some l=>match lay l (List.replicate n z).flatten with
  | some cs=>K (.fY al.1 0 sz 0 n) (al.2 (.row t 0 cs))
  | none=>False
 | none=>False
def Gu(off:Nat)(x:D)(H:U)(K:jE):Prop:=
 match x with
 | .ptr v g o=>K (.ptr v g (o+off)) H
 | .gu cs=>K (.gu (cs.drop off)) H
 | _=>False
def Bj(off n:Nat)(a:Bool)(x:D)(H:U)(K:jE):Prop:=
 match x with
 | .agg cs=>if a then off+n<=cs.length/\K (.agg ((cs.drop off).take n)) H else match cs[off]? with
  | some d=>K d H
  | none=>False
 | _=>False
def HR(sz:Nat)(x i:D)(H:U)(K:jE):Prop:=
 match x,i with
 | .sl gU es,.val (.int _ n)=>gU=sz/\(0<=n/\n<es.length)/\K (.gu (es.getD n.toNat [])) H
 | .l4 vs,.val (.int _ n)=>1=sz/\(0<=n/\n<vs.length)/\K (.gu [.val (vs.getD n.toNat undef)]) H
 | .fY v g gU off len,.val (.int _ n)=>gU=sz/\(0<=n/\n<len)/\K (.ptr v g ((off+n.toNat)*sz)) H
 | _,_=>False
def HS(sz n:Nat)(x i:D)(H:U)(K:jE):Prop:=
 match x,i with
 | .ptr v g o,.val (.int _ k)=>(0<=k/\k<n)/\K (.ptr v g (o+k.toNat*sz)) H
 | .gu cs,.val (.int _ k)=>(0<=k/\k<n)/\K (.gu (cs.drop (k.toNat*sz))) H
 | _,_=>False
def HU(sz n:Nat)(a:Bool)(x i:D)(H:U)(K:jE):Prop:=
 match x,i with
 | .agg cs,.val (.int _ k)=>(0<=k/\k<n)/\Bj (k.toNat*sz) sz a (.agg cs) H K
 | _,_=>False
def HV(x i:D)(H:U)(K:jE):Prop:=
 match x,i with
 | .val (.string s),.val (.int _ k)=>(0<=k/\k<s.size)/\K (.val (.int .u8 ((s.data.toList.getD k.toNat 0).toNat))) H
 | _,_=>False
def lM(H:U)(v:Nat):Option (KK×List (Value×D)):=match H[v]? with
 | some (.map kk es)=>some (kk,es)
 | _=>none
def Ia(a:KK)(z:D)(ok:Bool)(m k:D)(H:U)(K:jE):Prop:=
 match m,keyOf k with
 | .gD v,some kv=>match lM H v with
  | some (kk,es)=>kk=a/\kk.has kv=true/\(match rr es kv with
    | some d=>K (if ok then .tup [d,.val (.bool true)]else d) H
    | none=>K (if ok then .tup [z,.val (.bool false)]else z) H)
  | none=>False
 | _,_=>False
def Ie(a:KK)(m k x:D)(H:U)(K:jE):Prop:=
 match m,keyOf k with
 | .gD v,some kv=>match lM H v with
  | some (kk,es)=>kk=a/\kk.has kv=true/\K .any (H.set v (.map kk (mu es kv x)))
  | none=>False
 | _,_=>False
def Gp(x:D)(i:Nat)(H:U)(K:jE):Prop:=
 match x with
 | .tup ds=>match ds[i]? with
  | some d=>K d H
  | none=>False
 | _=>False
def Ij(t sz bytes:Nat)(z:List D)(l c:D)(al:Al)(K:jE):Prop:=
 match l,c with
 | .val (.int _ n),.val (.int _ m)=>(0<=n/\n<=m/\m<=9223372036854775807/\(bytes:Int)*m<=281474976710656)/\K (.fY al.1 0 sz 0 n.toNat) (al.2 (.row t 0 (List.replicate m.toNat z).flatten))
 | _,_=>False
def ig(env:gP):Option X->Int->Option Int
 | none,n=>some n
 | some x,_=>match ev env x with
  | .val (.int _ n)=>some n
  | _=>none
def IW(env:gP)(sz:Nat)(x:D)(lo hi:Option X)(H:U)(K:jE):Prop:=
 match x with
 | .sl a es=>match ig env lo 0,ig env hi es.length with
  | some l,some h=>a=sz/\(0<=l/\l<=h/\h<=es.length)/\K (.sl sz ((es.drop l.toNat).take (h.toNat-l.toNat))) H
  | _,_=>False
 | .fY v g a off len=>match ig env lo 0,ig env hi len with
  | some l,some h=>a=sz/\(0<=l/\l<=h/\h<=len)/\K (.fY v g sz (off+l.toNat) (h.toNat-l.toNat)) H
  | _,_=>False
 | .gg=>match ig env lo 0,ig env hi 0 with
  | some l,some h=>(l=0/\h=0)/\K .gg H
  | _,_=>False
 | _=>False
def Fa:List (List D)->Option (List Value)
 | []=>some []
 | [.val v]::r=>if v.oneCell' then(match Fa r with|some l=>some (v::l)|none=>none)else none
 | _::_=>none
def clip(sz:Nat)(es:List (List D)):D:=match Fa es with
 | some vs=>if sz=1 then .l4 vs else .sl sz es
 | none=>.sl sz es
def IU(env:gP)(sz:Nat)(x:D)(lo:Option X)(hi mx:X)(H:U)(K:jE):Prop:=
 match ig env lo 0,ig env (some hi) 0,ig env (some mx) 0 with
 | some l,some h,some m=>match x with
  | .sl a es=>a=sz/\(0<=l/\l<=h/\h=m/\m<=es.length)/\K (clip sz ((es.drop l.toNat).take (h.toNat-l.toNat))) H
  | .fY v g a off len=>a=sz/\(0<=l/\l<=h/\h<=m/\m<=len)/\K (.fY v g sz (off+l.toNat) (h.toNat-l.toNat)) H
  | .gg=>(l=0/\h=0/\m=0)/\K .gg H
  | _=>False
 | _,_,_=>False
def IV(env:gP)(sz n:Nat)(x:D)(lo hi:Option X)(H:U)(K:jE):Prop:=
 match x,ig env lo 0,ig env hi n with
 | .gu cs,some l,some h=>(sz=1/\n<=cs.length/\n<=16777216/\0<=l/\l<=h/\h<=n)/\K (.sl 1 (((cs.drop l.toNat).take (h.toNat-l.toNat)).map λd=>[d])) H
 | .ptr v g o,some l,some h=>match rowAt H v g with
  | some (_,cs)=>(o % sz=0/\o+n*sz<=cs.length/\n<=16777216/\0<=l/\l<=h/\h<=n)/\K (.fY v g sz (o / sz+l.toNat) (h.toNat-l.toNat)) H
  | none=>False
 | _,_,_=>False
def EX(env:gP)(x:D)(lo hi:Option X)(H:U)(K:jE):Prop:=
 match x with
 | .val (.string s)=>match ig env lo 0,ig env hi s.size with
  | some l,some h=>(0<=l/\l<=h/\h<=s.size)/\K (.val (.string (s.extract l.toNat h.toNat))) H
  | _,_=>False
 | _=>False
def kS(sz:Nat)(H:U):D->Option (List D×Nat)
 | .sl a es=>if a=sz then some (es.flatten,es.length)else none
 | .gg=>some ([],0)
 | .l4 vs=>if sz=1 then some (vs.map .val,vs.length)else none
 | .fY v g a off len=>match rowAt H v g with
  | some (_,cs)=>if a=sz/\(off+len)*sz<=cs.length then some ((cs.drop (off*sz)).take (len*sz),len)else none
  | none=>none
 | _=>none
def FP(t sz bytes:Nat)(x y:D)(H:U)(al:Al)(K:jE):Prop:=
 match kS sz H y with
 | some (ys,n)=>match x with
  | .fY v g a off len=>match rowAt H v g with
   | some (t',cs)=>(a=sz/\t'=t/\(off+len)*sz<=cs.length/\(len+n)*bytes<=140737488355328/\len+n<=9223372036854775807) /\
     K (.fY v (g+1) sz 0 (len+n)) (H.set v (.row t (g+1) ((cs.drop (off*sz)).take (len*sz)++ys)))
   | none=>False
  | .l4 vs=>(n≠0/\sz=1/\(vs.length+n)*bytes<=140737488355328/\vs.length+n<=9223372036854775807)/\K (.fY al.1 0 sz 0 (vs.length+n)) (al.2 (.row t 0 (vs.map .val++ys)))
  | .gg=>if n=0 then K .gg H else(n*bytes<=140737488355328/\n<=9223372036854775807)/\K (.fY al.1 0 sz 0 n) (al.2 (.row t 0 ys))
  | _=>False
 | none=>False
def Gh(sz:Nat)(x y:D)(H:U)(K:jE):Prop:=
 match x,kS sz H y with
 | .fY v g gU off len,some (ys,n)=>match rowAt H v g with
  | some (t,cs)=>(gU=sz/\(off+len)*sz<=cs.length) /\
    K (.val (.int .i64 (min n len:Nat))) (H.set v (.row t g (cs.take (off*sz)++ys.take (min n len*sz)++cs.drop (off*sz+min n len*sz))))
  | none=>False
 | .gg,some _=>K (.val (.int .i64 0)) H
 | _,_=>False
def H7(k:AV)(x:D)(H:U)(K:jE):Prop:=
 match k,x with
 | .slice,.sl _ es=>K (.val (.int .i64 es.length)) H
 | .slice,.gg=>K (.val (.int .i64 0)) H
 | .slice,.l4 vs=>K (.val (.int .i64 vs.length)) H
 | .slice,.fY _ _ _ _ len=>K (.val (.int .i64 len)) H
 | .string,.val (.string s)=>K (.val (.int .i64 s.size)) H
 | .map,.gD v=>match lM H v with
  | some (_,es)=>K (.val (.int .i64 es.length)) H
  | none=>False
 | _,_=>False
def r9(env:gP):List X->Option (List Int)
 | []=>some []
 | x::r=>match ev env x,r9 env r with
  | .val (.int .i64 n),some l=>some (n::l)
  | _,_=>none
def Ii(env:gP)(d:Bool)(xs:List X)(H:U)(K:jE):Prop:=
 match r9 env xs with
 | some [a,b]=>K (.val (.int .i64 (if d then max a b else min a b))) H
 | some [a,b,c]=>K (.val (.int .i64 (if d then max (max a b) c else min (min a b) c))) H
 | _=>False
def Im(x:D)(H:U)(K:jE):Prop:=
 match x with
 | .ptr v g o=>K (.ptr v g o) H
 | .gu cs=>K (.gu cs) H
 | .fn (.func f) a b=>K (.fn (.func f) a b) H
 | .iT v=>K (.iT v) H
 | _=>False
def Ge(k:IntKind)(x:D)(H:U)(K:jE):Prop:=
 match x with
 | .val (.int _ n)=>K (.val (.int k (k.wrap n))) H
 | _=>False
def bytesOf:List D->Option (List Int)
 | []=>some []
 | .val (.int .u8 n)::r=>match bytesOf r with
  | some l=>some (n::l)
  | none=>none
 | _=>none
def FV(x:D)(H:U)(K:jE):Prop:=
 match kS 1 H x with
 | some (ys,_)=>match bytesOf ys with
  | some a=>K (.val (.string (a.foldl (λr n=>r.push (UInt8.ofNat n.toNat)) ByteArray.empty))) H
  | none=>False
 | none=>False
def FO(env:gP)(H:U)(al:Al)(K:jE):iL->Prop
 | .mv x=>K (ev env x) H
 | .pick c a b=>Iv (ev env c) (ev env a) (ev env b) H K
 | .box t x=>FZ t (ev env x) al K
 | .alloc t z=>K (.ptr al.1 0 0) (al.2 (.row t 0 z))
 | .build z ps=>AZ env z ps H K
 | .buildSl t sz z n ps=>F0 env t sz z n ps al K
 | .ld1 x=>HZ (ev env x) H K
 | .ldN n x=>H6 n (ev env x) H K
 | .st1 a x=>I0 (ev env a) (ev env x) H K
 | .stN n a x=>I1 n (ev env a) (ev env x) H K
 | .nilck x=>Im (ev env x) H K
 | .arith op x y=>FX op (ev env x) (ev env y) H K
 | .eqS e ls neg x y=>wT e ls neg (ev env x) (ev env y) H K
 | .un op x=>Ja op (ev env x) H K
 | .conv k x=>Ge k (ev env x) H K
 | .b2s x=>FV (ev env x) H K
 | .mkfn f first cap=>K (.fn f (first.map (ev env)) (cap.map (ev env))) H
 | .mkmap kk=>K (.gD al.1) (al.2 (.map kk []))
 | .mksl t sz bytes z l c=>Ij t sz bytes z (ev env l) (ev env c) al K
 | .slc sz x lo hi=>IW env sz (ev env x) lo hi H K
 | .slcS x lo hi=>EX env (ev env x) lo hi H K
 | .slc3 sz x lo hi mx=>IU env sz (ev env x) lo hi mx H K
 | .slcArr sz n x lo hi=>IV env sz n (ev env x) lo hi H K
 | .fieldA off x=>Gu off (ev env x) H K
 | .field off n e x=>Bj off n e (ev env x) H K
 | .idxA sz x i=>HR sz (ev env x) (ev env i) H K
 | .idxArr sz n x i=>HS sz n (ev env x) (ev env i) H K
 | .idx sz n e x i=>HU sz n e (ev env x) (ev env i) H K
 | .idxStr x i=>HV (ev env x) (ev env i) H K
 | .lookup kk z ok m k=>Ia kk z ok (ev env m) (ev env k) H K
 | .mapUpd kk m k x=>Ie kk (ev env m) (ev env k) (ev env x) H K
 | .ext x i=>Gp (ev env x) i H K
 | .call _ _ | .callN _ _ | .callv _ _=>False
 | .app t sz bytes x y=>FP t sz bytes (ev env x) (ev env y) H al K
 | .copy sz x y=>Gh sz (ev env x) (ev env y) H K
 | .len k x=>H7 k (ev env x) H K
 | .minmax d xs=>Ii env d xs H K
 | .nilS .. | .capE .. | .appZ .. | .clr .. | .rangeS .. | .nextS .. | .rangeM .. | .nextM .. | .entry .. | .mapEnt .. | .entSt .. => False
def put(env:Env)(dst:Option Nat)(d:D):Env:=match dst with
 | some k=>(k,d)::env
 | none=>env
def Ctx.set(c:Ctx)(v k:Nat)(L:Loc):Ctx:={ c with ι:=λu l=>if u=v/\l=k then some L else c.ι u l }
theorem Ctx.sN(c:Ctx)(v k:Nat)(L:Loc):(c.set v k L).ι v k=some L:=by simp[Ctx.set]
theorem Ctx.wz(c:Ctx){v k u l:Nat}(L:Loc)(h:¬(u=v/\l=k)):(c.set v k L).ι u l=c.ι u l:=by simp only[Ctx.set];rw[if_neg h]
structure xL(H:U)(v:Nat)(ob:Ob)(H':U):Prop where
 get:∀u,H'[u]? = if u=v then some ob else H[u]?
 free:H.length<=v\/H[v]? = some .lT
 len:H.length<=H'.length
theorem xL.last(H:U)(ob:Ob):xL H H.length ob (H ++ [ob]) where
 get u:=by
  split
  .rename_i h;subst h;simp
  .rename_i h;rcases bH u H.length with h1|h1
   .rw[ah h1]
   .rw[bk (by simp;omega),bk h1]
 free:=.inl (Nat.le_refl _)
 len:=by simp
theorem xL.lT{H:U}{v:Nat}(h:H[v]? = some .lT)(ob:Ob):xL H v ob (H.set v ob) where
 get u:=by
  have:=(ae.1 h).1;rw[bW];split
  .rename_i e;subst e;simp[this]
  .rename_i e;rw[if_neg (cu e)]
 free:=.inr h
 len:=by simp
def nk(H:U)(al:Al):Prop:=∀ob,xL H al.1 ob (al.2 ob)
theorem nk.last(H:U):nk H (Al.last H):=λob=>xL.last H ob
theorem nk.lT{H:U}{v:Nat}(h:H[v]? = some .lT):nk H (Al.lT H v):=λob=>xL.lT h ob
structure kj(w w':World):Prop where
 os:w'.os=w.os/\w.drawn<=w'.drawn
 tape:w'.tape=w.tape
 output:w'.output=w.output
 size:w.heap.size<=w'.heap.size
 kept:∀b,b<w.heap.size->w'.heap[b]? = w.heap[b]?
theorem kj.refl(w:World):kj w w:=⟨⟨rfl,Nat.le_refl _⟩,rfl,rfl,Nat.le_refl _,λ_ _=>rfl⟩
theorem kj.alloc(w:World)(o:Obj):kj w (w.alloc o):=
 ⟨⟨rfl,Nat.le_refl _⟩,rfl,rfl,by simp,λb h=>by simp only[World.alloc,eJ];rw[if_neg (by omega)]⟩
theorem kj.trans{a b c:World}(h:kj a b)(k:kj b c):kj a c:=
 ⟨⟨k.os.1.trans h.os.1,Nat.le_trans h.os.2 k.os.2⟩,k.tape.trans h.tape,k.output.trans h.output,Nat.le_trans h.size k.size,λi hi=>(k.kept i (aO hi h.size)).trans (h.kept i hi)⟩
theorem kj.drew(w:World):kj w w.drew:=⟨⟨rfl,Nat.le_succ _⟩,rfl,rfl,Nat.le_refl _,λ_ _=>rfl⟩
theorem CR(n:Nat){c:Ctx}{H:U}{w w':World}(hg:kj w w'):Step n c H w c H w':=
 ⟨hg.os,hg.tape,hg.output,hg.size,rfl,λ_ h=>h,λ_ h=>.inl h,λb a _=>hg.kept b a,λ_ _ _ _ h=>h,λ_ h=>.inr h⟩
theorem FH.mono{c c':Ctx}{w w':World}(j:∀v d,gh c w v d->gh c' w' v d){arr:Array MapEntry}{f:Nat}{es:List (Value×D)}(h:FH c w arr f es):FH c' w' arr f es:=
 ⟨h.1,λi e x k g=>let ⟨a,b,d⟩:=h.2.1 i e x k g;⟨a,j _ _ b,d⟩,h.2.2⟩
theorem ia.keep{c c':Ctx}{w w':World}(u:c'.RT=c.RT)(q:∀v d,gh c w v d->gh c' w' v d){L:Option Loc}{o:Ob}
  (f:∀l,L=some l->l.jO=false->o.alive=true->w'.heap[l.b]? = w.heap[l.b]?) (h:ia c w L o):ia c' w' L o:=by
 cases o with
 | dead=>simp[ia]
 | lT=>simpa[ia]using h
 | row t g cs=>
  cases L with
  | none=>simp[ia]at h
  | some l=>
   simp only[ia]at h ⊢;split
   .rename_i a;simpa[a]using h
   .rename_i a;simp only[a]at h;obtain⟨arr,h1,b,n,j⟩:=h;refine⟨arr,by rw[f l rfl (by simpa using a) rfl];exact h1,b,n,λi d A=>?_⟩;obtain⟨v,y,x,C⟩:=j i d A;exact⟨v,y,x,q _ _ C⟩
 | map kk es=>
  cases L with
  | none=>simp[ia]at h
  | some l=>
   simp only[ia]at h ⊢;obtain⟨a,z,arr,e,h1,b⟩:=h;exact⟨a,z,arr,e,by rw[f l rfl a rfl];exact h1,b.mono q⟩
 | ib rf env st=>
  cases L with
  | none=>simp[ia]at h
  | some l=>
   simp only[ia]at h ⊢;obtain⟨a,r,h1,b,n,j⟩:=h;exact⟨a,r,by rw[f l rfl a rfl];exact h1,λk=>q _ _ (b k),by rw[u];exact n,j⟩
 | sO s p=>
  cases L with
  | none=>simp[ia]at h
  | some l=>
   simp only[ia]at h ⊢;exact⟨h.1,h.2.1,by rw[f l rfl h.1 rfl];exact h.2.2⟩
 | jl m since seen=>
  cases L with
  | none=>simp[ia]at h
  | some l=>
   simp only[ia]at h ⊢;obtain⟨h1,b,B,n,j⟩:=h;exact⟨h1,b,B,q _ _ n,by rw[f l rfl h1 rfl];exact j⟩
 | ja=>
  cases L with
  | none=>simp[ia]at h
  | some l=>
   simp only[ia]at h ⊢
   by_cases a:l.jO=true
   .exact .inl a
   .exact .inr (by rw[f l rfl (by simpa using a) rfl];exact h.resolve_left a)
theorem gE.pQ{G:GT}{c:Ctx}{H:U}{w w':World}(h:gE G c H w)(hg:kj w w'):gE G c H w':=by
 have hs:=CR H.length (c:=c) (H:=H) hg;have i:∀v d,gh c w v d->gh c w' v d:=λv d e=>e.qb h.toHeapOK hs
 exact{
  inj:=h.inj
  lt:=λb f=>aO (h.lt b f) hg.size
  nF:=h.nF
  kO:=λb f=>aO (h.kO b f) hg.size
  out:=h.out
  mD:=h.mD
  ob:=λv o j=>(h.ob v o j).keep rfl i λl hl m e=>hg.kept _ (h.lt _ ⟨v,l,⟨o,j,e,hl⟩,m,rfl⟩)
  gl:=λg cs k=>let ⟨a,b⟩:=h.gl g cs k;⟨a,i _ _ b⟩
  rt:=h.rt }
structure zi(H:U)(v:Nat)(ob:Ob)(H':U):Prop where
 get:∀u,H'[u]? = if u=v then some ob else H[u]?
 free:H.length<=v\/H[v]? = some .lT\/∃o,H[v]? = some o/\o.alive=true/\o.gen<ob.gen
 len:H.length<=H'.length
theorem xL.uz{H:U}{v:Nat}{ob:Ob}{H':U}(h:xL H v ob H'):zi H v ob H':=⟨h.get,h.free.imp id .inl,h.len⟩
theorem E7{c:Ctx}{H H':U}{v:Nat}{ob:Ob}{L:Loc}(d:zi H v ob H'){u:Nat}{l:Loc}(h:lY (c.set v ob.gen L) H' u l) :
  (u=v/\l=L)\/(u≠v/\lY c H u l):=by
 obtain⟨o,a,f,b⟩:=h;rw[d.get]at a;split at a
 .rename_i e;cases a;subst e;rw[Ctx.sN]at b;cases b;exact .inl ⟨rfl,rfl⟩
 .rename_i e;rw[Ctx.wz _ _ (λh=>e h.1)]at b;exact .inr ⟨e,o,a,f,b⟩
theorem aa6{G:GT}{c:Ctx}{H H':U}{w:World}{v:Nat}{ob:Ob}(h:gE G c H w)(b:zi H v ob H')(k:Nat)(f:ob.gen<=k):c.ι v k=none:=by
 rcases b.free with a|a|⟨o,d,e,hg⟩
 .exact h.out v k a
 .exact h.mD v _ k a (.inl rfl)
 .exact h.mD v o k d (.inr ⟨e,by omega⟩)
theorem aa7{G:GT}{c:Ctx}{H H':U}{w:World}{v:Nat}{ob:Ob}{L:Loc}(h:gE G c H w)(b:zi H v ob H')(u k:Nat)(l:Loc)(a:c.ι u k=some l):(c.set v ob.gen L).ι u k=some l:=by
 rw[Ctx.wz]
 .exact a
 .rintro⟨rfl,rfl⟩;rw[aa6 h b _ (Nat.le_refl _)]at a;cases a
theorem Ph{G:GT}{c:Ctx}{H H':U}{w w':World}{v:Nat}{ob:Ob}(h:gE G c H w)(d:zi H v ob H')(hg:kj w w')(L:Loc)
  (f:L.jO=false->w.heap.size<=L.b/\L.b<w'.heap.size):Step H.length c H w (c.set v ob.gen L) H' w' where
 os:=hg.os
 tape:=hg.tape
 output:=hg.output
 size:=hg.size
 RT:=rfl
 Fm _ h:=h
 Fn _ h:=.inl h
 kept b hb _:=hg.kept b hb
 old u k l _ gp:=aa7 h d u k l gp
 own b hb:=by
  obtain⟨u,l,hl,a,e⟩:=hb;rcases E7 d hl with⟨_,rfl⟩|⟨_,hl⟩
  .exact .inl (e▸(f a).1)
  .exact .inr ⟨u,l,hl,a,e⟩
theorem TR{G:GT}{c:Ctx}{H H':U}{w w':World}{v:Nat}{ob:Ob}(h:gE G c H w)(f:zi H v ob H')(hg:kj w w')(L:Loc)
  (n:L.jO=false->w.heap.size<=L.b/\L.b<w'.heap.size) (D:ob.alive=true) (E:ia (c.set v ob.gen L) w' (some L) ob):gE G (c.set v ob.gen L) H' w':=by
 have hs:=Ph h f hg L n;have x:∀u d,gh c w u d->gh (c.set v ob.gen L) w' u d:=λu d r=>r.qb h.toHeapOK hs;have p:∀u l,lY c H u l->l.jO=false->l.b<w.heap.size:=λu l hl j=>h.lt _ ⟨u,l,hl,j,rfl⟩
 have K:v<H'.length:=by have:=f.get v;rw[if_pos rfl]at this;exact(ae.1 this).1
 exact{
  inj:=by
   intro u B l C h1 J t s I;rcases E7 f h1 with⟨rfl,rfl⟩|⟨_,b⟩<;>rcases E7 f J with⟨rfl,rfl⟩|⟨_,z⟩
   .rfl
   .have:=(n t).1;have:=p _ _ z s;omega
   .have:=(n s).1;have:=p _ _ b t;omega
   .exact h.inj u B l C b z t s I
  lt:=λb m=>by
   obtain⟨u,l,hl,j,e⟩:=m;rcases E7 f hl with⟨_,rfl⟩|⟨_,hl⟩
   .exact e▸(n j).2
   .exact e▸aO (p u l hl j) hg.size
  nF:=λb m y=>by
   obtain⟨u,l,hl,j,e⟩:=m;rcases E7 f hl with⟨_,rfl⟩|⟨_,hl⟩
   .have:=h.kO b y;have:=(n j).1;omega
   .exact h.nF b ⟨u,l,hl,j,e⟩ y
  kO:=λb m=>aO (h.kO b m) hg.size
  out:=λu k F=>by rw[Ctx.wz _ _ (by rintro⟨rfl,_⟩;omega)];exact h.out u k (Nat.le_trans f.len F)
  mD:=λu o k i q=>by
   rw[f.get]at i;split at i
   .rename_i e;cases i;subst e;rcases q with rfl|⟨_,q⟩
    .cases D
    .rw[Ctx.wz _ _ (by rintro⟨_,rfl⟩;omega)];exact aa6 h f k (by omega)
   .rename_i e;rw[Ctx.wz _ _ (λh=>e h.1)];exact h.mD u o k i q
  ob:=λu o i=>by
   rw[f.get]at i;split at i
   .rename_i e;cases i;subst e;rw[Ctx.sN];exact E
   .rename_i e;rw[Ctx.wz _ _ (λh=>e h.1)];exact ia.keep (c:=c) (c':=c.set v ob.gen L) rfl x (λl hl j r=>hg.kept _ (p u l ⟨o,i,r,hl⟩ j)) (h.ob u o i)
  gl:=λg cs A=>let ⟨a,b⟩:=h.gl g cs A;⟨a,x _ _ b⟩
  rt:=h.rt }
structure Cells(c:Ctx)(w:World)(vs:List Value)(cs:List D):Prop where
 len:vs.length=cs.length
 one:∀v∈vs,v.oneCell'=true
 rep:∀(i:Nat) (v:Value) (d:D),vs[i]? = some v->cs[i]? = some d->gh c w v d
theorem EE{G:GT}{c:Ctx}{H H':U}{v gen:Nat}{w:World}(h:gE G c H w)(a:World)(hg:kj w a)(t:TypeId)(vs:List Value)(cs:List D)(n:Nat)(arr:Array Value)
  (l:zi H v (.row t gen cs) H') (f:Cells c w vs cs) (g:arr.toList.take n=vs) (p:n<=arr.size) :
  ∃L:Loc,L.jO=false/\L.b=a.heap.size/\L.base=0/\L.top=arr.size /\
   gE G (c.set v gen L) H' (a.alloc (.cells arr t))/\Step H.length c H w (c.set v gen L) H' (a.alloc (.cells arr t)):=by
 have k:=hg.trans (kj.alloc a (.cells arr t));refine⟨⟨a.heap.size,0,arr.size,false⟩,rfl,rfl,rfl,rfl,?_⟩;have m:(⟨a.heap.size,0,arr.size,false⟩:Loc).jO=false->w.heap.size<=(⟨a.heap.size,0,arr.size,false⟩:Loc).b/\(⟨a.heap.size,0,arr.size,false⟩:Loc).b<(a.alloc (.cells arr t)).heap.size:=λ_=>⟨hg.size,by simp⟩;have hs:=Ph h l k ⟨a.heap.size,0,arr.size,false⟩ m;refine⟨TR h l k _ m rfl ?_,hs⟩;have o:∀u d,gh c w u d->gh (c.set v gen ⟨a.heap.size,0,arr.size,false⟩) (a.alloc (.cells arr t)) u d:=λu d e=>e.qb h.toHeapOK hs;have b:cs.length=n:=by rw[<-f.len,<-g];simp;omega
 simp only[ia,Ob.gen];refine⟨arr,heap_alloc_new _ _,rfl,by simp;omega,λi d e=>?_⟩;have hi:i<cs.length:=(ae.1 e).1;have j:i<arr.size:=by omega
 refine⟨arr[i],by simp[j],?_,?_⟩
 .exact f.one _ (by rw[<-g];exact List.mem_of_getElem? (i:=i) (by rw[aF];simp[b▸hi,j]))
 .exact o _ _ (f.rep i _ d (by rw[<-g,aF];simp[b▸hi,j]) e)
theorem sM{H:U}{v:Nat}{ob:Ob}(a:v<H.length)(u:Nat):(H.set v ob)[u]? = if u=v then some ob else H[u]? := by
 rw[bW];split
 .rename_i e;subst e;simp[a]
 .rename_i e;rw[if_neg (cu e)]
theorem anQ{c:Ctx}{H:U}{v:Nat}{ob ob':Ob}(b:H[v]? = some ob)(g:ob.alive=true)(hg:ob'.gen=ob.gen){u:Nat}{l:Loc}(h:lY c (H.set v ob') u l):lY c H u l:=by
 obtain⟨o,a,f,d⟩:=h;rw[sM (ae.1 b).1]at a;split at a
 .rename_i e;cases a;subst e;exact⟨ob,b,g,by rw[<-hg];exact d⟩
 .exact⟨o,a,f,d⟩
theorem abw{G:GT}{c:Ctx}{H:U}{w:World}(h:gE G c H w){v:Nat}{ob ob':Ob}(j:H[v]? = some ob)(s:ob.alive=true)(J:ob'.alive=true)(A:ob'.gen=ob.gen){L:Loc}(z:c.ι v ob.gen=some L)(y:L.jO=false)
  {w':World} (I:w'.os=w.os/\w.drawn<=w'.drawn) (T:w'.tape=w.tape) (K:w'.output=w.output) (C:w'.heap.size=w.heap.size)
  (x:∀b,b≠L.b->w'.heap[b]? = w.heap[b]?) (O:(∀u d,gh c w u d->gh c w' u d)->ia c w' (some L) ob') :
  gE G c (H.set v ob') w'/\Step H.length c H w c (H.set v ob') w':=by
 have B:lY c H v L:=⟨ob,j,s,z⟩;have E:mh c H L.b:=⟨v,L,B,y,rfl⟩;have t:∀u l,lY c (H.set v ob') u l->lY c H u l:=λu l hl=>anQ j s A hl;have m:∀b,mh c (H.set v ob') b->mh c H b:=λb ⟨u,l,hl,r⟩=>⟨u,l,t u l hl,r⟩
 have hs:Step H.length c H w c (H.set v ob') w':=
  ⟨I,T,K,by omega,rfl,λ_ h=>h,λ_ h=>.inl h,λb _ R=>x b (λe=>R (e▸E)),λ_ _ _ _ h=>h,λb i=>.inr (m b i)⟩
 have n:∀u d,gh c w u d->gh c w' u d:=λu d q=>q.qb h.toHeapOK hs
 refine⟨{
  inj:=λu F l N h1 S=>h.inj u F l N (t _ _ h1) (t _ _ S)
  lt:=λb i=>by rw[C];exact h.lt b (m b i)
  nF:=λb i=>h.nF b (m b i)
  kO:=λb i=>by rw[C];exact h.kO b i
  out:=λu k Q=>h.out u k (by simpa using Q)
  mD:=λu o k f p=>by
   rw[sM (ae.1 j).1]at f;split at f
   .rename_i e;cases f;subst e;rcases p with rfl|⟨_,p⟩
    .cases J
    .exact h.mD u ob k j (.inr ⟨s,by omega⟩)
   .exact h.mD u o k f p
  ob:=λu o f=>by
   rw[sM (ae.1 j).1]at f;split at f
   .rename_i e;cases f;subst e;rw[A,z];exact O n
   .rename_i P;exact(h.ob u o f).keep rfl n λl hl M q=>x _ λe=>P (h.inj u v l L ⟨o,f,q,hl⟩ B M y e)
  gl:=λg cs D=>let ⟨a,b⟩:=h.gl g cs D;⟨a,n _ _ b⟩
  rt:=h.rt },hs⟩
theorem Fc{G:GT}{c:Ctx}{H:U}{w:World}(h:gE G c H w){v g:Nat}{t:TypeId}{cs:List D}(p:H[v]? = some (.row t g cs)){L:Loc}(z:c.ι v g=some L)(j:L.jO=false)
  {arr:Array Value} (l:w.heap[L.b]? = some (.cells arr t (0,0))) (a:Array Value) (o:a.size=arr.size) (k:L.top=arr.size) (e:List D) (f:L.base+e.length<=L.top)
  (s:∀(i:Nat) (d:D),e[i]? = some d->∃u,a[L.base+i]? = some u/\u.oneCell'=true/\gh c w u d) :
  gE G c (H.set v (.row t g e)) (w.setRow L.b a)/\Step H.length c H w c (H.set v (.row t g e)) (w.setRow L.b a):=by
 refine abw (w':=w.setRow L.b a) (ob':=.row t g e) h p rfl rfl rfl z j ⟨rfl,Nat.le_refl _⟩ rfl rfl (by simp[World.setRow]) (λb y=>by simp only[World.setRow,bg];rw[if_neg (cu y)]) λq=>?_;simp only[ia,j];refine⟨a,setRow_heap w L.b arr _ t _ l,by rw[k,o],f,λi d r=>?_⟩;obtain⟨x,m,n,A⟩:=s i d r;exact⟨x,m,n,q _ _ A⟩
def tB:Value->D
 | .slice none 0 0=>.gg
 | v=>.val v
def MO:Value->Option D
 | .slice none 0 0=>some .gg
 | .agg cs=>if cs.all (·.oneCell')then some (.agg (cs.toList.map tB))else none
 | .tuple _=>none
 | v=>some (.val v)
def cX(G:GT):Operand->Option X
 | .tmp t=>some (.t t)
 | .const v=>(MO v).map .c
 | .global g=>(G g).map λcs=>.c (.gu cs)
 | .func f=>some (.c (.fn (.func f) [] []))
def xU(G:GT):List Operand->Option (List X)
 | []=>some []
 | x::r=>match cX G x,xU G r with
  | some a,some l=>some (a::l)
  | _,_=>none
def zo(G:GT):List (Nat×Operand)->Option (List (Nat×X))
 | []=>some []
 | (i,x)::r=>match cX G x,zo G r with
  | some a,some l=>some ((i,a)::l)
  | _,_=>none
def su(G:GT):Option Operand->Option (Option X)
 | none=>some none
 | some x=>(cX G x).map some
def ky(P:Program)(t:TypeId):Option Nat:=(P.info? t).map (·.size)
def rG(P:Program)(t:TypeId):Option (List D):=match (P.info? t).bind (·.zero)with
 | some z=>if z.cells.all (·.oneCell')then some (z.cells.toList.map tB)else none
 | none=>none
def pb(P:Program)(t:TypeId):Option Bool:=match P.underlying t with
 | some (.struct _)|some (.array _ _)=>some true
 | some _=>some false
 | none=>none
def YG(P:Program)(t:TypeId):Bool:=match P.underlying t with
 | some (.int _)|some .string|some .bool=>true
 | _=>false
def Mw(P:Program)(t:TypeId):Bool:=match P.underlying t with
 | some .bool=>true
 | _=>false
def yD(P:Program)(t:TypeId):Option mB:=match P.underlying t with
 | some (.int _)=>some .int
 | some .string=>some .str
 | some .bool=>some .bool
 | _=>none
def M5(P:Program):Nat->List Field->Option (List mB)
 | _,[]=>some []
 | i,f::r=>match yD P f.type,M5 P (i+1) r with
  | some l,some ls=>if f.offset=i/\f.name≠ "_" then some (l::ls)else none
  | _,_=>none
def M6(P:Program)(t:TypeId):Option (List mB):=match P.underlying t with
 | some (.struct fs)=>if P.stoodInHeld t=false/\P.eqGuardType P.depth t=false then M5 P 0 fs.toList else none
 | some (.array n e)=>if P.eqGuardType P.depth t=false/\P.cellsOf e=1/\(P.info? e).isSome=true then(yD P e).map (List.replicate n)else none
 | _=>none
def Iw(P:Program)(fs:Array Field):List (Nat×X)->Option (List (Nat×Nat×X))
 | []=>some []
 | (i,x)::r=>match fs[i]?,Iw P fs r with
  | some f,some l=>(ky P f.type).map λn=>(f.offset,n,x)::l
  | _,_=>none
def Wx(P:Program)(fs:Array Field):Bool:=fs.all λf=>(ky P f.type).isSome
def s5(P:Program)(f:FuncId):Bool:=match P.funcs[f]? with
 | some fn=>fn.name != "runtime.NumGoroutine" && fn.body.isSome
 | none=>false
def B'(P:Program):Nat->List Field->Option (List IntKind)
 | _,[]=>some []
 | i,f::r=>match P.underlying f.type,B' P (i+1) r with
  | some (.int k),some ks=>if f.offset=i/\f.name≠ "_" then some (k::ks)else none
  | _,_=>none
def uY(P:Program)(t:TypeId):Option KK:=match P.underlying t with
 | some (.struct fs)=>if P.stoodInHeld t=false then(B' P 0 fs.toList).map .ints else none
 | some (.int k)=>some (.int k)
 | some .string=>some .str
 | some .bool=>some .bool
 | _=>none
def Fe(P:Program)(t:TypeId):Option D:=(P.info? t).bind λi=>i.zero.bind MO
def nN(P:Program)(G:GT)(o:Oper):Option iL:=
 match o.op with
 | .move x=>do let a <-cX G x;pure (.mv a)
 | .assign x=>do let a <-cX G x;pure (.mv a)
 | .pick c a b=>do pure (.pick (<-cX G c) (<-cX G a) (<-cX G b))
 | .box e x=>do pure (.box e (<-cX G x))
 | .alloc e=>do pure (.alloc e (<-rG P e))
 | .build t ps=>do
  let z <-rG P t
  let l <-zo G ps.toList
  match P.underlying t with
  | some (.struct fs)=>if Wx P fs then do pure (.build z (<-Iw P fs l))else none
  | some (.array _ e)=>do
   let sz <-ky P e
   pure (.build z (l.map λp=>(p.1*sz,sz,p.2)))
  | _=>none
 | .buildSlice t n ps=>do
  let .slice e <-P.underlying t|none
  let z <-rG P e
  let sz <-ky P e
  let l <-zo G ps.toList
  if z.length=sz/\0<sz/\n*sz<=16777216 then pure (.buildSl e sz z n l)else none
 | .load t a=>do
  let x <-cX G a
  let n <-ky P t
  if <-pb P t then pure (.ldN n x)else pure (.ld1 x)
 | .store t a v=>do
  let x <-cX G a
  let y <-cX G v
  let n <-ky P t
  if <-pb P t then pure (.stN n x y)else if n=1 then pure (.st1 x y)else none
 | .nilCheck x=>do pure (.nilck (<-cX G x))
 | .binOp op t x y _=>do
  let a <-cX G x
  let b <-cX G y
  match op with
  | .eql=>if Mw P t then pure (.eqS false [.bool] false a b)else if YG P t then pure (.arith .eql a b)else do pure (.eqS true (<-M6 P t) false a b)
  | .neq=>if Mw P t then pure (.eqS false [.bool] true a b)else if YG P t then pure (.arith .neq a b)else do pure (.eqS true (<-M6 P t) true a b)
  | op=>pure (.arith op a b)
 | .unOp op _ x=>do pure (.un op (<-cX G x))
 | .convert s d x=>do
  let a <-cX G x
  let _ <-P.underlying s
  match P.underlying d with
  | some (.int k)=>pure (.conv k a)
  | some .string=>do
   let .slice e <-P.underlying s|none
   let .int .u8 <-P.underlying e|none
   pure (.b2s a)
  | _=>none
 | .makeFunc f first cap=>do pure (.mkfn f (<-xU G first.toList) (<-xU G cap.toList))
 | .makeMap t none=>do
  let .map k _ <-P.underlying t|none
  pure (.mkmap (<-uY P k))
 | .lookup t x i ok=>do
  let .map k e <-P.underlying t|none
  let z <-Fe P e
  pure (.lookup (<-uY P k) z ok (<-cX G x) (<-cX G i))
 | .mapUpdate t m k v=>do
  let .map kt _ <-P.underlying t|none
  pure (.mapUpd (<-uY P kt) (<-cX G m) (<-cX G k) (<-cX G v))
 | .insert t m k v=>do
  let .map kt _ <-P.underlying t|none
  pure (.mapUpd (<-uY P kt) (<-cX G m) (<-cX G k) (<-cX G v))
 | .makeSlice t l c=>do
  let .slice e <-P.underlying t|none
  let z <-rG P e
  let i <-P.info? e
  if z.length=i.size/\0<i.size then pure (.mksl e i.size i.bytes z (<-cX G l) (<-cX G c))else none
 | .slice t x lo hi none=>do
  let a <-cX G x
  let l <-su G lo
  let h <-su G hi
  match P.underlying t with
  | some (.slice e)=>do pure (.slc (<-ky P e) a l h)
  | some .string=>pure (.slcS a l h)
  | some (.array n e)=>do pure (.slcArr (<-ky P e) n a l h)
  | _=>none
 | .slice t x lo (some hi) (some mx)=>do
  let a <-cX G x
  let l <-su G lo
  let h <-cX G hi
  let m <-cX G mx
  let .slice e <-P.underlying t|none
  pure (.slc3 (<-ky P e) a l h m)
 | .fieldAddr t x f=>do
  let a <-cX G x
  let .struct fs <-P.underlying t|none
  let g <-fs[f]?
  let n <-ky P g.type
  if 0<n then pure (.fieldA g.offset a)else none
 | .field t x f=>do
  let a <-cX G x
  let .struct fs <-P.underlying t|none
  let g <-fs[f]?
  let n <-ky P g.type
  pure (.field g.offset n (<-pb P g.type) a)
 | .indexAddr t x i=>do
  let a <-cX G x
  let j <-cX G i
  match P.underlying t with
  | some (.slice e)=>do
   let n <-ky P e
   if 0<n then pure (.idxA n a j)else none
  | some (.array n e)=>do pure (.idxArr (<-ky P e) n a j)
  | _=>none
 | .index t x i=>do
  let a <-cX G x
  let j <-cX G i
  match P.underlying t with
  | some (.array n e)=>do pure (.idx (<-ky P e) n (<-pb P e) a j)
  | some .string=>pure (.idxStr a j)
  | _=>none
 | .extract x i=>do pure (.ext (<-cX G x) i)
 | .call c=>do
  let args <-xU G c.args.toList
  match c.callee with
  | .value (.func f)=>if s5 P f then pure (if G.nw f then .callN f args else .call f args)else none
  | .value f=>do pure (.callv (<-cX G f) args)
  | .builtin .append=>match c.argTypes.toList,args with
   | [t,u],[x,y]=>do
    let .slice e <-P.underlying t|none
    let i <-P.info? e
    let z <-rG P e
    let .slice _ <-P.underlying u|none
    if z.length=i.size/\0<i.size then pure (.app e i.size i.bytes x y)else none
   | _,_=>none
  | .builtin .copy=>match c.argTypes.toList,args with
   | [t,u],[x,y]=>do
    let .slice e <-P.underlying t|none
    let .slice _ <-P.underlying u|none
    let n <-ky P e
    if 0<n then pure (.copy n x y)else none
   | _,_=>none
  | .builtin .len=>match c.argTypes.toList,args with
   | [t],[x]=>match P.underlying t with
    | some (.slice _)=>pure (.len .slice x)
    | some .string=>pure (.len .string x)
    | some (.map _ _)=>pure (.len .map x)
    | _=>none
   | _,_=>none
  | .builtin .max=>pure (.minmax true args)
  | .builtin .min=>pure (.minmax false args)
  | _=>none
 | _=>none
end Go.AL
namespace Go.AL
open Go
def kT(c:Ctx)(w:World)(env:gP)(a:Act):Prop:=∀k,gh c w (a.tmps.getD k undef) (env k)
def jm(G:GT)(c:Ctx)(H:U)(w:World)(K:jE)(v:Value)(w':World):Prop:=
 ∃d H' c',K d H'/\gE G c' H' w'/\gh c' w' v d/\Step H.length c H w c' H' w'
section
variable{P:Program}{G:GT}{c:Ctx}{H:U}{w:World}{K:jE}{env:gP}{a:Act}
theorem jm.plain(h:gE G c H w){v:Value}{d:D}(b:K d H)(a:gh c w v d):jm G c H w K v w:=
 ⟨d,H,c,b,h,a,Step.refl _ _ _ _⟩
theorem aaq(v:Value):gh c w v (tB v):=by
 unfold tB;split
 .exact .gg
 .exact .val _
theorem To{v:Value}{d:D}(h:MO v=some d):gh c w v d:=by
 unfold MO at h;split at h
 .cases h;exact .gg
 .rename_i cs;split at h
  .rename_i e;cases h
   have:=gh.agg (c:=c) (w:=w) cs.toList (cs.toList.map tB) (by simp) (λv a=>by
    have:=cF.1 e v (by simpa using a)
    exact this) (λi v d a b=>by
    simp only[au,a,aH,aq]at b;subst b
    exact aaq v)
   simpa using this
  .cases h
 .cases h
 .cases h;exact .val _
theorem iM(h:gE G c H w)(i:kT c w env a){x:Operand}{X:X}(b:cX G x=some X):gh c w (a.eval x) (ev env X):=by
 cases x with
 | tmp t=>cases b;exact i t
 | const v=>
  simp only[cX,aj]at b;obtain⟨d,j,rfl⟩:=b;exact To j
 | global g=>
  simp only[cX,aj]at b;obtain⟨cs,e,rfl⟩:=b;exact(h.gl g cs e).2
 | func f=>cases b;exact .fn (.func f) [] [] [] [] rfl rfl (by simp) (by simp)
theorem A1(h:gE G c H w)(b:kT c w env a):∀(l:List Operand) {xs:List X},xU G l=some xs->jC c w (l.map a.eval) (xs.map (ev env))
 | [],xs,hx=>by cases hx;exact .nil
 | x::r,xs,hx=>by
  simp only[xU]at hx;split at hx
  .rename_i X l hX hl;cases hx;exact .cons (iM h b hX) (A1 h b r hl)
  .cases hx
theorem jC.length{vs:List Value}{ds:List D}(h:jC c w vs ds):vs.length=ds.length:=by
 induction h with
 | nil=>rfl
 | cons _ _ a=>simp[a]
theorem jC.get{vs:List Value}{ds:List D}(h:jC c w vs ds):∀(i:Nat) (v:Value) (d:D),vs[i]? = some v->ds[i]? = some d->gh c w v d:=by
 induction h with
 | nil=>intro i v d a;simp at a
 | cons h _ e=>
  intro i v d a b
  cases i with
  | zero=>simp at a b;subst a;subst b;exact h
  | succ i=>simp at a b;exact e i v d a b
theorem jC.append{vs us:List Value}{ds es:List D}(h:jC c w vs ds)(k:jC c w us es):jC c w (vs++us) (ds++es):=by
 induction h with
 | nil=>exact k
 | cons h _ a=>exact .cons h a
theorem jC.Iq:∀ {vs:List Value} {ds:List D},vs.length=ds.length->(∀(i:Nat) (v:Value) (d:D),vs[i]? = some v->ds[i]? = some d->gh c w v d)->jC c w vs ds
 | [],[],_,_=>.nil
 | v::vs,d::ds,hl,h=>.cons (h 0 v d rfl rfl) (jC.Iq (by simpa using hl) λi v d a b=>h (i+1) v d (by simpa using a) (by simpa using b))
theorem Cells.agg{vs:List Value}{cs:List D}(h:Cells c w vs cs):gh c w (.agg vs.toArray) (.agg cs):=.agg vs cs h.len h.one h.rep
theorem Cells.drop{vs:List Value}{cs:List D}(h:Cells c w vs cs)(n:Nat):Cells c w (vs.drop n) (cs.drop n):=
 ⟨by simp[h.len],λv a=>h.one v (bw a),λi v d a b=>h.rep (n+i) v d (by simpa using a) (by simpa using b)⟩
theorem Cells.take{vs:List Value}{cs:List D}(h:Cells c w vs cs)(n:Nat):Cells c w (vs.take n) (cs.take n):=
 ⟨by simp[h.len],λv a=>h.one v (aW a),λi v d a b=>by
  rw[aF]at a b;split at a
  .rename_i hi;rw[if_pos hi]at b;exact h.rep i v d a b
  .cases a⟩
theorem Cells.append{vs us:List Value}{cs ds:List D}(h:Cells c w vs cs)(k:Cells c w us ds):Cells c w (vs++us) (cs++ds):=
 ⟨by simp[h.len,k.len],λv a=>by
  rcases List.mem_append.1 a with a|a
  .exact h.one v a
  .exact k.one v a,λi v d a b=>by
  rw[List.getElem?_append]at a b;split at a
  .rename_i hi;rw[if_pos (by rw[<-h.len];exact hi)]at b;exact h.rep i v d a b
  .rename_i hi;rw[if_neg (by rw[<-h.len];exact hi)]at b;rw[<-h.len]at b;exact k.rep _ v d a b⟩
theorem Cells.nil:Cells c w [] []:=⟨rfl,by simp,by simp⟩
theorem Cells.get{vs:List Value}{cs:List D}(h:Cells c w vs cs){i:Nat}{d:D}(a:cs[i]? = some d):∃v,vs[i]? = some v/\v.oneCell'=true/\gh c w v d:=by
 have hi:i<vs.length:=by rw[h.len];exact(ae.1 a).1
 exact⟨vs[i],by simp[hi],h.one _ (bT hi),h.rep i _ d (by simp[hi]) a⟩
def uB(c:Ctx)(w:World)(b o:Nat)(cs:List D):Prop:=∃vs,Cells c w vs cs/\∀(j:Nat) (v:Value),vs[j]? = some v->w.cell? ⟨b,o+j,none⟩=some v
theorem uB.drop{b o:Nat}{cs:List D}(h:uB c w b o cs)(n:Nat):uB c w b (o+n) (cs.drop n):=by obtain⟨vs,e,d⟩:=h;exact⟨vs.drop n,e.drop n,λj v a=>by rw[aG]at a;have:=d _ _ a;rwa [a8]⟩
theorem uB.take{b o:Nat}{cs:List D}(h:uB c w b o cs)(n:Nat):uB c w b o (cs.take n):=by
 obtain⟨vs,e,d⟩:=h;refine⟨vs.take n,e.take n,λj v a=>?_⟩;rw[aF]at a;split at a
 .exact d _ _ a
 .cases a
theorem yQ(h:gE G c H w){v g:Nat}{t:TypeId}{cs:List D}(j:H[v]? = some (.row t g cs)){L:Loc}(p:c.ι v g=some L)(f:L.jO=false) :
  ∃arr:Array Value,w.heap[L.b]? = some (.cells arr t (0,0))/\L.top=arr.size/\L.base+cs.length<=L.top/\Cells c w ((arr.toList.drop L.base).take cs.length) cs:=by
 have h0:=h.ob v _ j;simp only[Ob.gen]at h0;rw[p]at h0;simp only[ia,f]at h0;obtain⟨arr,h1,o,n,e⟩:=h0;refine⟨arr,h1,o,n,⟨by simp;omega,λu a=>?_,λi u d a k=>?_⟩⟩
 .obtain⟨i,hi⟩:=aC.1 a;rw[aF]at hi;split at hi
  .rename_i q;rw[aG]at hi;obtain⟨x,b,m,_⟩:=e i cs[i] (by simp[q]);have:arr[L.base+i]? = some u:=by simpa using hi
   rw[b]at this;cases this;exact m
  .cases hi
 .rw[aF]at a;split at a
  .rw[aG]at a;obtain⟨x,b,_,l⟩:=e i d k;have:arr[L.base+i]? = some u:=by simpa using a
   rw[b]at this;cases this;exact l
  .cases a
theorem MC(h:gE G c H w){v g o:Nat}{t:TypeId}{cs:List D}(e:H[v]? = some (.row t g cs)){u:Value}(f:gh c w u (.ptr v g o)) :
  ∃b p,u = .pointer (some ⟨b,p,none⟩)/\uB c w b p (cs.drop o):=by
 cases f with
 | ptr _ _ _ L k d=>
  obtain⟨arr,h1,m,l,i⟩:=yQ h e k d;refine⟨L.b,L.base+o,rfl,?_⟩;refine uB.drop ⟨_,i,λj x a=>?_⟩ o;rw[aF]at a;split at a
  .rw[aG]at a;simp[World.cell?,h1];simpa using a
  .cases a
theorem zp{u:Value}{cs:List D}(h:gh c w u (.gu cs)):∃b p,u = .pointer (some ⟨b,p,none⟩)/\c.F b/\uB c w b p cs:=by
 cases h with
 | gu b o _ g m l h=>
  refine⟨b,o,rfl,m,(List.range cs.length).map g,⟨by simp,λv a=>?_,λi v d a k=>?_⟩,λj v a=>?_⟩
  .simp only[ar,bj]at a;obtain⟨j,f,rfl⟩:=a;exact(l j cs[j] (by simp[f])).2
  .simp only[au,aj,bN (ae.1 k).1]at a;obtain⟨_,e,rfl⟩:=a;cases e;exact h i d k
  .have f:j<cs.length:=by have:=(ae.1 a).1;simpa using this
   simp only[au,bN f,aH,aq]at a;subst a;exact(l j cs[j] (by simp[f])).1
theorem Qu{b o:Nat}{cs:List D}(i:c.F b)(h:uB c w b o cs):gh c w (.pointer (some ⟨b,o,none⟩)) (.gu cs):=by
 obtain⟨vs,f,g⟩:=h;refine .gu b o cs (λj=>vs.getD j undef) i (λj d e=>?_) (λj d e=>?_)
 .obtain⟨u,a,h1,_⟩:=f.get e;simp only[List.getD,a,aZ];exact⟨g j u a,h1⟩
 .obtain⟨u,a,_,h1⟩:=f.get e;simp only[List.getD,a,aZ];exact h1
theorem CA{t:TypeId}{b:Bool}(h:pb P t=some b)(w:World):(isAgg t).run P w = .ok b w:=by
 unfold pb at h;unfold isAgg
 cases a:P.underlying t with
 | none=>simp[a]at h
 | some d=>cases d<;>simp[a]at h<;>subst h<;>simp[run_underlying a]
theorem rz{t:TypeId}{n:Nat}(h:ky P t=some n)(w:World):(sizeOf t).run P w = .ok n w:=by simp only[ky,aj]at h;obtain⟨i,hi,rfl⟩:=h;simp[sizeOf,typeInfo,hi]
theorem run_typeInfo{t:TypeId}{i:TypeInfo}(h:P.info? t=some i)(w:World):(typeInfo t).run P w = .ok i w:=by simp[typeInfo,h]
theorem AJ{t:TypeId}{z:List D}(h:rG P t=some z)(w:World):∃v:Value,(zeroValue t).run P w = .ok v w/\(P.info? t).bind (·.zero)=some v /\
  ∀c w,Cells c w v.cells.toList z:=by
 unfold rG at h
 cases hi:P.info? t with
 | none=>simp[hi]at h
 | some i=>
  simp only[hi,Option.bind_some]at h
  cases a:i.zero with
  | none=>simp[a]at h
  | some v=>
   simp only[a]at h;split at h
   .rename_i f;cases h;refine⟨v,by simp[zeroValue,run_typeInfo hi,a],by simp[a],λc w=>⟨by simp,λu b=>?_,λi u d b e=>?_⟩⟩
    .exact cF.1 f u (by simpa using b)
    .simp only[au,b,aH,aq]at e;subst e;exact aaq u
   .cases h
theorem O2{t:TypeId}(i:pb P t=some false){b o:Nat}{cs:List D}(h:uB c w b o cs){d:D}(g:cs[0]? = some d) :
  ∃u,(Instr.loadAt t (.pointer (some ⟨b,o,none⟩))).run P w = .ok u w/\u.oneCell'=true/\gh c w u d:=by
 obtain⟨vs,a,e⟩:=h;obtain⟨u,f,h1,j⟩:=a.get g;have:=e 0 u f;exact⟨u,by simp[Instr.loadAt,Instr.sureAddr,loadVar,CA i];simp at this;simp[this],h1,j⟩
theorem O3{t:TypeId}{n:Nat}(g:pb P t=some true)(hs:ky P t=some n){b o:Nat}{cs:List D}(f:uB c w b o cs)(h:n<=cs.length) :
  ∃u,(Instr.loadAt t (.pointer (some ⟨b,o,none⟩))).run P w = .ok u w/\gh c w u (.agg (cs.take n)):=by
 obtain⟨vs,a,d⟩:=f.take n;have hl:vs.length=n:=by rw[a.len];simp;omega
 have:=run_loadCells_list (P:=P) w ⟨b,o,none⟩ vs (λj v e=>by rw[Addr.add_lit];exact d j v e);rw[hl]at this;exact⟨.agg vs.toArray,by simp[Instr.loadAt,Instr.sureAddr,loadVar,CA g,rz hs,this],a.agg⟩
theorem uv{v g:Nat}{x:TypeId×List D}(h:rowAt H v g=some x):H[v]? = some (.row x.1 g x.2):=by
 unfold rowAt at h;split at h
 .split at h
  .rename_i e;subst e;cases h;assumption
  .cases h
 .cases h
theorem amq(h:gE G c H w){t:TypeId}(l:pb P t=some false){x:D}{u:Value}(k:gh c w u x)(a:HZ x H K) :
  ∃v,(Instr.loadAt t u).run P w = .ok v w/\jm G c H w K v w:=by
 unfold HZ at a;split at a
 .rename_i v g o;split at a
  .rename_i q cs n;have m:=uv n;split at a
   .rename_i d f;obtain⟨b,p,rfl,i⟩:=MC h m k;obtain⟨u,e,_,j⟩:=O2 l i (d:=d) (by simpa using f);exact⟨u,e,.plain h a j⟩
   .exact a.elim
  .exact a.elim
 .rename_i cs;split at a
  .rename_i d f;obtain⟨b,p,rfl,_,i⟩:=zp k;obtain⟨u,e,_,j⟩:=O2 l i f;exact⟨u,e,.plain h a j⟩
  .exact a.elim
 .exact a.elim
theorem amr(h:gE G c H w){t:TypeId}{n:Nat}(j:pb P t=some true)(hs:ky P t=some n){x:D}{u:Value}(i:gh c w u x)(a:H6 n x H K) :
  ∃v,(Instr.loadAt t u).run P w = .ok v w/\jm G c H w K v w:=by
 unfold H6 at a;split at a
 .rename_i v g o;split at a
  .rename_i m cs l;have k:=uv l;obtain⟨b,p,rfl,e⟩:=MC h k i;obtain⟨u,d,f⟩:=O3 (n:=n) j hs e (by simp;omega);exact⟨u,d,.plain h a.2 f⟩
  .exact a.elim
 .rename_i cs;obtain⟨b,p,rfl,_,e⟩:=zp i;obtain⟨u,d,f⟩:=O3 (n:=n) j hs e a.1;exact⟨u,d,.plain h a.2 f⟩
 .exact a.elim
theorem amz(h:gE G c H w){x y z:D}{u v t:Value}(h1:gh c w u x)(e:gh c w v y)(d:gh c w t z)(a:Iv x y z H K) :
  ∃b,u = .bool b/\jm G c H w K (if b then v else t) w:=by
 unfold Iv at a;split at a
 .rename_i b;cases h1;refine⟨b,rfl,.plain h a ?_⟩;cases b
  .exact d
  .exact e
 .exact a.elim
end
end Go.AL
namespace Go.AL
open Go
section
variable{P:Program}{G:GT}{c:Ctx}{H:U}{w:World}{K:jE}{env:gP}{a:Act}
theorem wrap_i64{n:Int}(h:oq n):IntKind.i64.wrap n=n:=by unfold oq at h;simp only[IntKind.wrap,IntKind.signed,IntKind.bits];simp;omega
theorem jm.val(h:gE G c H w){v:Value}(a:K (.val v) H):jm G c H w K v w:=.plain h a (.val _)
theorem al7(h:gE G c H w){op:BinOp}{k:IntKind}{x y:Int}(a:FQ op k x y H K)(hs:op≠.shl/\op≠.shr)(t:TypeId)(xo b:Operand) :
  ∃v,(do eqGuard op t xo b (.int k x) (.int k y);binOp op t (.int k x) (.int k y)).run P w = .ok v w/\jm G c H w K v w:=by
 have hg:(eqGuard op t xo b (.int k x) (.int k y)).run P w = .ok () w:=by cases op<;>simp[eqGuard]
 simp only[Sem.run_bind,hg,Result.andThen_ok];cases op<;>simp only[FQ]at a
 case add=>
  by_cases e:k = .i64
  .subst e;simp only[if_true]at a;exact⟨_,by simp[binOp,Op.intArith,wrap_i64 a.1]<;>rfl,.val h a.2⟩
  .rw[if_neg e]at a;exact⟨_,by simp[binOp,Op.intArith]<;>rfl,.val h a⟩
 case sub=>
  by_cases e:k = .i64
  .subst e;simp only[if_true]at a;exact⟨_,by simp[binOp,Op.intArith,wrap_i64 a.1]<;>rfl,.val h a.2⟩
  .rw[if_neg e]at a;exact⟨_,by simp[binOp,Op.intArith]<;>rfl,.val h a⟩
 case mul=>
  by_cases e:k = .i64
  .subst e;simp only[if_true]at a;exact⟨_,by simp[binOp,Op.intArith,wrap_i64 a.1]<;>rfl,.val h a.2⟩
  .rw[if_neg e]at a;exact⟨_,by simp[binOp,Op.intArith]<;>rfl,.val h a⟩
 case quo=>exact⟨_,by simp[binOp,Op.intDiv,a.1]<;>rfl,.val h a.2⟩
 case rem=>exact⟨_,by simp[binOp,Op.intDiv,a.1]<;>rfl,.val h a.2⟩
 case and=>exact⟨_,by simp[binOp,Op.intBits]<;>rfl,.val h (by simpa[bits]using a)⟩
 case or=>exact⟨_,by simp[binOp,Op.intBits]<;>rfl,.val h (by simpa[bits]using a)⟩
 case xor=>exact⟨_,by simp[binOp,Op.intBits]<;>rfl,.val h (by simpa[bits]using a)⟩
 case andNot=>exact⟨_,by simp[binOp,Op.intBits]<;>rfl,.val h (by simpa[bits]using a)⟩
 case eql=>exact⟨_,by simp[binOp,Op.intCmp]<;>rfl,.val h a⟩
 case neq=>exact⟨_,by simp[binOp,Op.intCmp]<;>rfl,.val h a⟩
 case lss=>exact⟨_,by simp[binOp,Op.intCmp]<;>rfl,.val h a⟩
 case leq=>exact⟨_,by simp[binOp,Op.intCmp]<;>rfl,.val h a⟩
 case gtr=>exact⟨_,by simp[binOp,Op.intCmp]<;>rfl,.val h a⟩
 case geq=>exact⟨_,by simp[binOp,Op.intCmp]<;>rfl,.val h a⟩
 all_goals exact absurd rfl (by first|exact hs.1|exact hs.2)
theorem S6(h:gE G c H w){op:BinOp}{x y:D}{u v:Value}(h1:gh c w u x)(f:gh c w v y)(a:FX op x y H K)(t:TypeId)(xo d:Operand) :
  ∃r,(do eqGuard op t xo d u v;binOp op t u v).run P w = .ok r w/\jm G c H w K r w:=by
 unfold FX at a;split at a
 .cases h1;cases f;split at a
  .have key:∀op,p7 op=true->op = .shl\/op = .shr:=λop g=>by cases op<;>simp[p7]at g<;>simp
   rename_i hs;rcases key op hs with rfl|rfl
   .simp only[IT]at a;have b:=a.1;exact⟨_,by simp[eqGuard,binOp,Op.shift,e7.2 b]<;>rfl,.val h a.2⟩
   .simp only[IT]at a;have b:=a.1;exact⟨_,by simp[eqGuard,binOp,Op.shift,e7.2 b]<;>rfl,.val h a.2⟩
  .rename_i hs;obtain⟨rfl,a⟩:=a;exact al7 h a ⟨λe=>by subst e;exact hs rfl,λe=>by subst e;exact hs rfl⟩ t xo d
 .cases h1;cases f;rename_i p q;cases op<;>simp only[Pc]at a
  case add=>exact⟨.string (p++q),by simp[eqGuard,binOp,run_string_add_sum w p q (by have:=a.1;omega)],.val h a.2⟩
  case eql=>exact⟨_,by simp[eqGuard,binOp,Op.stringOp,ByteArray.toList_eq]<;>rfl,.val h (by simpa using a)⟩
  case neq=>exact⟨_,by simp[eqGuard,binOp,Op.stringOp,ByteArray.toList_eq]<;>rfl,.val h (by simpa using a)⟩
 .grind
theorem amH(h:gE G c H w){op:UnOp}{x:D}{u:Value}(h1:gh c w u x)(a:Ja op x H K) :
  ∃r,(Op.unary op u).run P w = .ok r w/\jm G c H w K r w:=by
 unfold Ja at a;split at a
 .cases h1;exact⟨_,by simp[Op.unary]<;>rfl,.val h a⟩
 .cases h1;rename_i n;have:(0-n) = -n:=by omega
  exact⟨_,by simp[Op.unary,Op.intArith,wrap_i64 a.1]<;>rfl,.val h a.2⟩
 .cases h1;exact⟨_,by simp[Op.unary,Op.intBits]<;>rfl,.val h (by simpa[bits]using a)⟩
 .grind
theorem Dr{d:D}{v:Value}{cs:List D}(r:gh c w v d)(j:cellsOf d=some cs):Cells c w v.cells.toList cs:=by
 have key:∀ {v:Value} {d:D},gh c w v d->v.oneCell'=true->v.cells = #[v]->Cells c w v.cells.toList [d]:=λ{v d} r h1 p=>by rw[p];exact⟨rfl,by simpa using h1,λi u e A B=>by grind⟩
 cases r with
 | any v=>simp[cellsOf]at j
 | val v=>
  simp only[cellsOf]at j;split at j
  .rename_i h1;cases j;refine key (.val v) h1 ?_;cases v<;>first|rfl|(simp[Value.oneCell']at h1)
  .cases j
 | agg vs ds hl h1 h=>
  simp only[cellsOf,aq]at j;subst j;exact⟨by simpa[Value.cells]using hl,by simpa[Value.cells]using h1,λi v d p s=>h i v d (by simpa[Value.cells]using p) s⟩
 | tup=>simp[cellsOf]at j
 | sl a len cap sz es g h1 l m n q x t=>simp only[cellsOf,aq]at j;subst j;exact key (.sl a len cap sz es g h1 l m n q x t) rfl rfl
 | gg=>simp only[cellsOf,aq]at j;subst j;exact key .gg rfl rfl
 | l4 a vs h1 l m=>simp only[cellsOf,aq]at j;subst j;exact key (.l4 a vs h1 l m) rfl rfl
 | fY v k sz off len cap L h1 l m n q=>simp only[cellsOf,aq]at j;subst j;exact key (.fY v k sz off len cap L h1 l m n q) rfl rfl
 | mw v k sz off L h1 a=>simp only[cellsOf,aq]at j;subst j;exact key (.mw v k sz off L h1 a) rfl rfl
 | ptr v k off L h1 l=>simp only[cellsOf,aq]at j;subst j;exact key (.ptr v k off L h1 l) rfl rfl
 | gu b o cs g h1 l m=>simp only[cellsOf,aq]at j;subst j;exact key (.gu b o cs g h1 l m) rfl rfl
 | gD v L h1 l=>simp only[cellsOf,aq]at j;subst j;exact key (.gD v L h1 l) rfl rfl
 | fn f fs cs y z h1 l m n=>simp only[cellsOf,aq]at j;subst j;exact key (.fn f fs cs y z h1 l m n) rfl rfl
 | iT v L h1 l=>simp only[cellsOf,aq]at j;subst j;exact key (.iT v L h1 l) rfl rfl
theorem amI{d:D}(h:one d=true):cellsOf d=some [d]:=by
 cases d<;>first|rfl|(simp[one]at h;done)|skip
 rename_i v;simp only[one]at h;simp[cellsOf,h]
theorem amX{L:Loc}(a:L.jO=false)(h0:L.base=0)(v g:Nat):gh (c.set v g L) w (.pointer (some ⟨L.b,0,none⟩)) (.ptr v g 0):=by have:=gh.ptr (c:=c.set v g L) (w:=w) v g 0 L (Ctx.sN _ _ _ _) a;simpa[h0]using this
theorem ZY(h:gE G c H w){al:Al}(b:nk H al)(t:TypeId){v:Value}{cs:List D}(e:Cells c w v.cells.toList cs)(d:K (.ptr al.1 0 0) (al.2 (.row t 0 cs))) :
  ∃w',(newVar t v).run P w = .ok ⟨w.heap.size,0,none⟩ w'/\jm G c H w K (.pointer (some ⟨w.heap.size,0,none⟩)) w':=by
 obtain⟨L,h1,j,i,k,g,f⟩:=EE h w (kj.refl w) t v.cells.toList cs v.cells.size v.cells (b _).uz e (by rw[<-db,dB]) (Nat.le_refl _);refine⟨w.alloc (.cells v.cells t),by simp[newVar,newRow],?_⟩;have a:=amX (c:=c) (w:=w.alloc (.cells v.cells t)) h1 i al.1 0;rw[j]at a;exact⟨_,_,_,d,g,a,f⟩
theorem al9(h:gE G c H w){al:Al}(d:nk H al)(t:TypeId){x:D}{u:Value}(h1:gh c w u x)(a:FZ t x al K) :
  ∃r w',(Instr.box t u).run P w = .ok r w'/\jm G c H w K r w':=by
 unfold FZ at a;split at a
 .rename_i cs b;obtain⟨w',e,f⟩:=ZY (P:=P) h d t (Dr h1 b) a;exact⟨_,w',by simp[Instr.box,e],f⟩
 .grind
theorem al4(h:gE G c H w){al:Al}(a:nk H al){t:TypeId}{z:List D}(b:rG P t=some z)(g:K (.ptr al.1 0 0) (al.2 (.row t 0 z))) :
  ∃r w',(Instr.alloc t true (.tuple #[])).run P w = .ok r w'/\jm G c H w K r w':=by
 obtain⟨v,d,_,i⟩:=AJ b w;obtain⟨w',e,f⟩:=ZY (P:=P) h a t (i c w) g;exact⟨_,w',by simp[Instr.alloc,d,e],f⟩
theorem Cells.sP{vs us:List Value}{cs ds:List D}(h:Cells c w vs cs)(k:Cells c w us ds)(o:Nat):Cells c w (vs.take o++us++vs.drop (o+us.length)) (cs.take o++ds++cs.drop (o+ds.length)):=by rw[k.len];exact((h.take o).append k).append (h.drop _)
theorem afb(l:List Value):∀(off:Nat) (cs:Array Value),off+l.length<=cs.size ->
  ((l.zipIdx off).foldl (λ(cs:Array Value) (x:Value×Nat)=>cs.setIfInBounds x.2 x.1) cs).toList=cs.toList.take off++l++cs.toList.drop (off+l.length):=by
 induction l with
 | nil=>intro off cs _;simp
 | cons v r a=>
  intro off cs h;simp only[aJ]at h;simp only[List.zipIdx_cons,b9];rw[a (off+1) _ (by simp;omega)];simp only[Array.toList_setIfInBounds];have:=list_seg_step cs.toList off v r (by simp;omega);simpa[a8,dt 1]using this
theorem ae5(cs:Array Value)(l:Array Value)(off:Nat)(h:off+l.size<=cs.size) :
  (l.zipIdx.foldl (λ(cs:Array Value) (x:Value×Nat)=>match x with|(c,j)=>cs.setIfInBounds (off+j) c) cs).toList=cs.toList.take off++l.toList++cs.toList.drop (off+l.size):=by
 have:=afb l.toList off cs (by simpa using h);rw[<-Array.foldl_toList,Array.toList_zipIdx]
 have e:(l.toList.zipIdx off)=(l.toList.zipIdx 0).map λx=>(x.1,off+x.2):=by
  rw[List.zipIdx_eq_map_add]
  first|done|(simp only[dt])
 rw[e,List.foldl_map]at this;exact this
theorem Nc(a:Nat->Option (Nat×Nat)):∀(vs:List (Nat×Value)) (ps:List (Nat×Nat×List D)) (arr:Array Value) (cs rs:List D),
  Cells c w arr.toList cs->vs.length=ps.length ->
  (∀(i:Nat) (v:Nat×Value) (p:Nat×Nat×List D),vs[i]? = some v->ps[i]? = some p->a v.1=some (p.1,p.2.1)/\Cells c w v.2.cells.toList p.2.2) ->
  lay ps cs=some rs->∃d,Instr.fill a arr vs=some d/\Cells c w d.toList rs
 | [],[],arr,cs,rs,hc,_,_,hl=>by simp[lay]at hl;subst hl;exact⟨arr,rfl,hc⟩
 | (i,v)::vs,(o,n,xs)::ps,arr,cs,rs,hc,hlen,h,hl=>by
  obtain⟨b,g⟩:=h 0 (i,v) (o,n,xs) rfl rfl;simp only[lay]at hl;split at hl
  .rename_i e;have f:v.cells.size=n:=by rw[<-e.1,<-g.len];simp
   have k:o+v.cells.size<=arr.size:=by rw[f];have:=hc.len;simp at this;omega
   simp only[Instr.fill,b];rw[if_neg (by simp;omega)];have j:=ae5 arr v.cells o k;refine Nc a vs ps _ _ rs ?_ (by simpa using hlen) (λi v p l b=>h (i+1) v p (by simpa using l) (by simpa using b)) hl;rw[j];have:=hc.sP g o;rw[e.1]at this;simpa[f]using this
  .cases hl
theorem Mx(h:gE G c H w)(e:kT c w env a):∀(l:List (Nat×Operand)) {ps:List (Nat×X)},zo G l=some ps ->
  ps.length=l.length/\∀(i:Nat) (x:Nat×Operand) (p:Nat×X),l[i]? = some x->ps[i]? = some p->p.1=x.1/\gh c w (a.eval x.2) (ev env p.2)
 | [],ps,hx=>by cases hx;simp
 | (i,x)::r,ps,hx=>by
  simp only[zo]at hx;split at hx
  .rename_i X l hX hl;cases hx;obtain⟨g,f⟩:=Mx h e r hl;refine⟨by simp[g],λj y p b d=>?_⟩
   cases j with
   | zero=>simp at b d;subst b;subst d;exact⟨rfl,iM h e hX⟩
   | succ j=>simp at b d;exact f j y p b d
  .cases hx
theorem aad{fs:Array Field}:∀ {ps:List (Nat×X)} {a:List (Nat×Nat×X)},Iw P fs ps=some a ->
  a.length=ps.length/\∀(i:Nat) (p:Nat×X) (q:Nat×Nat×X),ps[i]? = some p->a[i]? = some q->q.2.2=p.2/\∃f,fs[p.1]? = some f/\q.1=f.offset/\ky P f.type=some q.2.1
 | [],a,h=>by cases h;simp
 | (i,x)::r,a,h=>by
  simp only[Iw]at h;split at h
  .rename_i f l k hl;simp only[aj]at h;obtain⟨n,g,rfl⟩:=h;obtain⟨e,d⟩:=aad hl;refine⟨by simp[e],λj p q c b=>?_⟩
   cases j with
   | zero=>simp at c b;subst c;subst b;exact⟨rfl,f,k,rfl,g⟩
   | succ j=>simp at c b;exact d j p q c b
  .cases h
theorem Tb{l:List (Nat×Nat×X)}{r:List (Nat×Nat×List D)}(h:partsOf env l=some r) :
  r.length=l.length/\∀(i:Nat) (p:Nat×Nat×X) (q:Nat×Nat×List D),l[i]? = some p->r[i]? = some q->q.1=p.1/\q.2.1=p.2.1/\cellsOf (ev env p.2.2)=some q.2.2:=by
 induction l generalizing r with
 | nil=>simp[partsOf]at h;subst h;simp
 | cons p l a=>
  obtain⟨o,n,x⟩:=p;simp only[partsOf]at h;split at h
  .grind
  .cases h
theorem Nn{α:Type}{l:List α}{n i:Nat}(hl:l.length=n)(hi:i<n):∃x,l[i]? = some x:=⟨l[i],by simp[hl▸hi]⟩
theorem ama(h:gE G c H w)(he:kT c w env a){t:TypeId}{z:List D}{ops:Array (Nat×Operand)}{ps:List (Nat×X)}{C:List (Nat×Nat×X)}{fs:Array Field}
  (V:rG P t=some z) (hp:zo G ops.toList=some ps) (Y:P.underlying t=some (.struct fs)) (hf:Wx P fs=true) (Z:Iw P fs ps=some C)
  (e:AZ env z C H K):∃r,(Instr.build t (ops.map λ(i,x)=>(i,a.eval x))).run P w = .ok r w/\jm G c H w K r w:=by
 unfold AZ at e;split at e
 .rename_i l hl;split at e
  .rename_i cs T;obtain⟨v,W,_,hc⟩:=AJ V w;obtain⟨j,S⟩:=Mx h he ops.toList hp;obtain⟨q1,q2⟩:=aad Z;obtain⟨O,N⟩:=Tb hl
   have A:∃b:Array (Nat×Nat),(fs.mapM λf=>do pure (f.offset,<-sizeOf f.type):Sem (Array (Nat×Nat))).run P w = .ok b w/\∀(i:Nat) (f:Field) (n:Nat),fs[i]? = some f->ky P f.type=some n->b[i]? = some (f.offset,n):=by
    have key:∀(l:List Field),(∀f∈l,(ky P f.type).isSome=true)->∃pl:List (Nat×Nat),(l.mapM λf=>do pure (f.offset,<-sizeOf f.type):Sem (List (Nat×Nat))).run P w = .ok pl w/\∀(i:Nat) (f:Field) (n:Nat),l[i]? = some f->ky P f.type=some n->pl[i]? = some (f.offset,n):=by
     intro l
     induction l with
     | nil=>intro _;exact⟨[],by simp,by simp⟩
     | cons f l U=>
      intro E;obtain⟨pl,d,k⟩:=U (λg hg=>E g (by simp[hg]));obtain⟨n,o⟩:=da.1 (E f (by simp));refine⟨(f.offset,n)::pl,?_,λi g m hg hm=>?_⟩
      .simp only[eQ,Sem.run_bind,rz o,Result.andThen_ok,Sem.run_pure,d]
      .grind
    obtain⟨pl,d,k⟩:=key fs.toList (λf u=>cF.1 hf f (by simpa using u));refine⟨pl.toArray,?_,λi f n hi o=>by simpa using k i f n (by simpa using hi) o⟩;rw[e9,Sem.run_map,d];rfl
   obtain⟨b,d,k⟩:=A
   obtain⟨R,M,Q⟩:=Nc (c:=c) (w:=w) (b[·]?) (ops.toList.map λx=>(x.1,a.eval x.2)) l v.cells z cs (hc c w) (by simp[O,q1,j]) (λi x q I Hy=>by
    simp only[au,aj]at I;obtain⟨y,F,rfl⟩:=I;have hi:i<ops.toList.length:=(ae.1 F).1;obtain⟨p,B⟩:=Nn j hi;obtain⟨s,L⟩:=Nn (q1.trans j) hi;obtain⟨e1,e2⟩:=S i y p F B;obtain⟨e3,f,a2,a1,a0⟩:=q2 i p s B L;obtain⟨e4,e5,J⟩:=N i s q L Hy;refine⟨?_,?_⟩
    .grind
    .rw[e3]at J
     exact Dr e2 J) T
   refine⟨.agg R,?_,?_⟩
   .simp only[Instr.build,Sem.run_bind,W,Result.andThen_ok,run_underlying Y,d];have:(Array.map (λx=>(x.fst,a.eval x.snd)) ops).toList=ops.toList.map λx=>(x.1,a.eval x.2):=by simp
    simp only[this,M];rfl
   .have:=Q.agg;exact .plain h e (by simpa using this)
  .exact e.elim
 .grind
theorem amb(h:gE G c H w)(J:kT c w env a){t e:TypeId}{n sz:Nat}{z:List D}{ops:Array (Nat×Operand)}{ps:List (Nat×X)}
  (C:rG P t=some z) (I:zo G ops.toList=some ps) (F:P.underlying t=some (.array n e)) (hs:ky P e=some sz)
  (b:AZ env z (ps.map λp=>(p.1*sz,sz,p.2)) H K):∃r,(Instr.build t (ops.map λ(i,x)=>(i,a.eval x))).run P w = .ok r w/\jm G c H w K r w:=by
 unfold AZ at b;split at b
 .rename_i l hl;split at b
  .rename_i cs B;obtain⟨v,E,_,L⟩:=AJ C w;obtain⟨f,A⟩:=Mx h J ops.toList I;obtain⟨o,m⟩:=Tb hl
   obtain⟨u,k,s⟩:=Nc (c:=c) (w:=w) (λi=>some (i*sz,sz)) (ops.toList.map λx=>(x.1,a.eval x.2)) l v.cells z cs (L c w) (by simp[o,f]) (λi x q j S=>by
    simp only[au,aj]at j;obtain⟨y,g,rfl⟩:=j;have hi:i<ops.toList.length:=(ae.1 g).1;obtain⟨p,d⟩:=Nn f hi;obtain⟨R,Q⟩:=A i y p g d;obtain⟨O,N,M⟩:=m i (p.1*sz,sz,p.2) q (by simp[d]) S
    exact⟨by simp[O,N,R],Dr Q M⟩) B
   refine⟨.agg u,?_,?_⟩
   .simp only[Instr.build,Sem.run_bind,E,Result.andThen_ok,run_underlying F,rz hs];have:(Array.map (λx=>(x.fst,a.eval x.snd)) ops).toList=ops.toList.map λx=>(x.1,a.eval x.2):=by simp
    simp only[this,k];rfl
   .have:=s.agg;exact .plain h b (by simpa using this)
  .exact b.elim
 .exact b.elim
