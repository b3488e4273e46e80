/- Part 1 of DisputeReferee. -/
import Derived.RangeFuncIn
import Derived.TacticsIn
import Derived.OrdersIn
import Derived.Laws.CopyRow
import Derived.Laws.AppendOwn
import Derived.Laws.OwnMore
import Derived.Laws.Concat
import Derived.Laws.Strings
import Derived.Laws.Slices
import Derived.Laws.StructEq
import Derived.Laws.BytesString
set_option linter.all false
namespace Go.AL
open Go
def ae:=@List.getElem?_eq_some_iff
def af:=@List.take_of_length_le
def ag:=@Option.bind_eq_some_iff
def ah:=@List.getElem?_append_left
def ai:=@List.getElem?_append_right
def aj:=@Option.map_eq_some_iff
def ak:=@List.map_congr_left
def ao:=@Option.some.injEq
def aq:=@List.mem_map
def ar:=@List.getElem?_map
def au:=@List.length_append
def av:=@List.length_pos_iff
def aw:=@List.mem_cons
def ax:=@List.append_nil
def ay:=@Option.bind_eq_bind
def az:=@List.length_eq_zero_iff
def aA:=@List.mem_iff_getElem?
def aB:=@Option.pure_def
def aC:=@List.getElem?_take
def aD:=@Option.map_some
def aF:=@List.length_set
def aG:=@List.length_cons
def aH:=@List.getElem?_drop
def aI:=@List.append_assoc
def aJ:=@List.length_take
def aK:=@Nat.lt_of_lt_of_le
def aL:=@Array.getElem?_eq_some_iff
def aM:=@Nat.zero_add
def aN:=@List.mem_of_mem_take
def aO:=@List.mem_filter
def aP:=@Option.getD_some
def aQ:=@List.flatten_cons
def aR:=@List.length_drop
def aS:=@List.eq_nil_iff_forall_not_mem
def aT:=@List.map_id
def aU:=@List.drop_eq_nil_of_le
def aV:=@List.take_append_of_le_length
def aW:=@Nat.add_assoc
def aX:=@Array.getElem?_modify
def aY:=@List.getElem?_set_self
def aZ:=@List.mem_cons_of_mem
def a7:=@List.mem_flatten
def a8:=@List.mem_range
def bf:=@List.pairwise_cons
def bg:=@List.eq_nil_of_length_eq_zero
def bh:=@Nat.add_mul
def bj:=@List.mem_of_mem_drop
def bk:=@Nat.mul_le_mul_right
def bn:=@List.set_append_left
def bp:=@List.drop_of_length_le
def bq:=@Bool.false_eq_true
def br:=@Array.getElem?_toList
def bt:=@List.replicate_succ
def bw:=@Nat.lt_or_ge
def bz:=@List.mem_append_left
def bA:=@List.pairwise_iff_getElem
def bB:=@Int.emod_lt_of_pos
def bC:=@List.mem_flatMap
def bE:=@List.getElem?_range
def bF:=@List.flatMap_append
def bG:=@List.nil_append
def bH:=@Array.toArray_toList
def bI:=@List.pairwise_append
def bJ:=@Int.emod_nonneg
def bK:=@List.getElem_mem
def bL:=@List.drop_eq_getElem_cons
def bM:=@List.getElem?_set
def bN:=@List.ext_getElem?
def bO:=@List.take_append_drop
def bP:=@List.mem_append_right
def bQ:=@List.ext_getElem
def bR:=@List.getElem?_set_ne
def bS:=@Nat.sub_self
def bT:=@List.drop_drop
def bU:=@Int.toNat_natCast
def bV:=@Int.toNat_of_nonneg
def bW:=@List.foldl_cons
def bX:=@Array.getElem?_eq_getElem
def bY:=@Bool.or_eq_true
def bZ:=@Nat.eq_of_beq_eq_true
def b6:=@List.getElem?_eq_none
def b7:=@Nat.succ_mul
def b9:=@Array.size_append
def cd:=@Nat.add_zero
def cj:=@Array.getElem?_append_left
def cu:=@Array.all_eq_true_iff_forall_mem
def cy:=@List.cons_append
def cz:=@List.length_singleton
def cA:=@Classical.choose_spec
def cD:=@Array.getElem?_setIfInBounds_ne
def cE:=@Nat.pow_le_pow_right
def cF:=@Ne.symm
def cG:=@List.range'_succ
def cH:=@List.countP_cons
def cI:=@Nat.zero_mul
def cJ:=@Array.getD_eq_getD_getElem?
def cK:=@List.mem_filterMap
def cL:=@List.countP_append
def cM:=@List.length_nil
def cN:=@Nat.le_of_ble_eq_true
def cO:=@List.size_toArray
def cP:=@List.set_eq_take_append_cons_drop
def cQ:=@List.take_length
def cS:=@Option.isSome_iff_exists
def cT:=@List.drop_append
def cU:=@Array.length_toList
def cV:=@Array.toList_append
def cW:=@List.getElem?_cons_succ
def cY:=@List.nodup_cons
def cZ:=@List.cons.injEq
def c8:=@Option.some.inj
def c9:=@List.nodup_append
def da:=@Nat.add_comm
def db:=@List.getElem?_toArray
def de:=@List.contains_iff_mem
def dg:=@Array.getElem?_mapIdx
def dh:=@List.countP_le_length
def dj:=@List.range_eq_range'
def dm:=@List.take_append
def dp:=@Prod.mk.injEq
def dq:=@List.findIdx?_eq_none_iff
def dt:=@List.mem_or_eq_of_mem_set
def du:=@Bool.decide_and
def dw:=@List.mem_take_iff_getElem
def dy:=@List.Sublist.append_left
def dz:=@Nat.mul_comm
def dA:=@Int.add_sub_cancel
def dB:=@List.map_replicate
def dC:=@List.take_zero
def dD:=@List.take_take
def dF:=@List.filter_congr
def dH:=@List.findIdx?_eq_some_iff_getElem
def dJ:=@Array.getElem?_eq_none
def dK:=@List.sublist_cons_self
def dL:=@List.append_eq_nil_iff
def dM:=@List.map_take
def dO:=@List.isEmpty_iff
def dQ:=@Array.mem_filter
def dR:=@List.not_mem_nil
def dS:=@List.flatten_nil
def dT:=@List.set_getElem_self
def dW:=@List.set_append_right
def dX:=@Iff.rfl
def dY:=@List.length_replicate
def dZ:=@Nat.pow_succ
def ea:=@List.replicate_succ'
def ec:=@List.drop_append_of_le_length
def ef:=@Array.getElem?_push
def ei:=@Nat.mul_le_mul_left
def eo:=@List.flatten_append
def et:=@List.mapM_cons
def eu:=@Int.toNat_zero
def ew:=@Prod.ext
def ey:=@Nat.mul_one
def eA:=@Nat.eq_zero_or_pos
def eC:=@List.filter_append
def eD:=@Option.toList_some
def eE:=@List.find?_eq_none
def eF:=@Bool.true_and
def eG:=@Int.add_assoc
def eH:=@List.exists_cons_of_ne_nil
def eI:=@Function.comp_def
def eJ:=@List.take_add_one
def eM:=@Bool.not_eq_true'
def eN:=@Int.not_lt
def eO:=@Array.mapM_eq_mapM_toList
def eP:=@List.exists_mem_of_ne_nil
def eQ:=@List.mem_of_find?_eq_some
def eR:=@Nat.mod_eq_of_lt
def eS:=@Nat.sub_zero
def eT:=@List.nodup_range
def eU:=@Nat.le_add_right
def eV:=@Nat.le_of_not_lt
def eW:=@Nat.mul_le_mul_right_iff
def eX:=@List.length_erase_of_mem
def eY:=@List.length_filterMap_le
def eZ:=@Array.toList_inj
def e7:=@List.getElem?_cons_zero
def e9:=@List.append_inj
def fe:=@List.length_pos_of_mem
def ff:=@List.length_mergeSort
def fg:=@List.singleton_append
def fh:=@Bool.decide_or
def fj:=@List.drop_zero
def fm:=@List.Pairwise.sublist
def fo:=@List.perm_append_comm
def fq:=@Nat.not_lt
def ft:=@Nat.mul_assoc
def fu:=@Nat.min_zero
def fw:=@Int.le_trans
theorem pb{A P:Prop}(k:P)(a:A:=by first|omega|(dsimp only;omega)):A/\P:=⟨a,k⟩
theorem qy{A B P:Prop}(k:P)(a:A:=by first|omega|(dsimp only;omega))(b:B:=by first|omega|(dsimp only;omega)):A/\B/\P:=⟨a,b,k⟩
theorem gx{A B C P:Prop}(k:P)(a:A:=by first|omega|(dsimp only;omega))(b:B:=by first|omega|(dsimp only;omega))(c:C:=by first|omega|(dsimp only;omega)):A/\B/\C/\P:=⟨a,b,c,k⟩
theorem zb{A B C D P:Prop}(k:P)(a:A:=by first|omega|(dsimp only;omega))(b:B:=by first|omega|(dsimp only;omega))(c:C:=by first|omega|(dsimp only;omega))(d:D:=by first|omega|(dsimp only;omega)):A/\B/\C/\D/\P:=⟨a,b,c,d,k⟩
theorem ic{A B:Prop}(a:A:=by first|omega|(dsimp only;omega))(b:B:=by first|omega|(dsimp only;omega)):A/\B:=⟨a,b⟩
theorem mr{A B C:Prop}(a:A:=by first|omega|(dsimp only;omega))(b:B:=by first|omega|(dsimp only;omega))(c:C:=by first|omega|(dsimp only;omega)):A/\B/\C:=⟨a,b,c⟩
inductive D where
 | any
 | val (v:Value)
 | agg (cs:List D)
 | tup (cs:List D)
 | sl (sz:Nat) (es:List (List D))
 | fJ
 | lD (vs:List Value)
 | fy (v g sz off len:Nat)
 | ptr (v g off:Nat)
 | fV (cs:List D)
 | gg (v:Nat)
 | fn (fn:Fn) (first captured:List D)
 | iH (v:Nat)
 deriving Inhabited
abbrev D.i(n:Int):D:=.val (.int .i64 n)
abbrev D.b(x:Bool):D:=.val (.bool x)
abbrev Env:=List (Nat×D)
def Env.get:Env->Nat->D
 | [],_=>.any
 | (k,d)::r,j=>match Nat.beq k j with
  | true=>d
  | false=>Env.get r j
theorem Env.vC(k:Nat)(d:D)(r:Env)(j:Nat):Env.get ((k,d)::r) j=if k=j then d else Env.get r j:=by
 simp only[Env.get]
 by_cases h:k=j
 .simp_all
 .have:Nat.beq k j=false:=by
   cases a:Nat.beq k j with
   | false=>rfl
   | true=>exact absurd (bZ a) h
  rw[if_neg h,this]
structure Loc where
 b:Nat
 base:Nat
 top:Nat
 jr:Bool:=false
structure Ctx where
 ι:Nat->Nat->Option Loc
 F:Nat->Prop
 RT:Nat->Option (Nat×Array Tmp×Code×Code)
inductive fF(c:Ctx)(w:World):Value->D->Prop
 | any (v:Value):fF c w v .any
 | val (v:Value):fF c w v (.val v)
 | agg (vs:List Value) (ds:List D) (hl:vs.length=ds.length) (h1:∀v∈vs,v.oneCell'=true)
   (h:∀(i:Nat) (v:Value) (d:D),vs[i]? = some v->ds[i]? = some d->fF c w v d):fF c w (.agg vs.toArray) (.agg ds)
 | tup (vs:List Value) (ds:List D) (hl:vs.length=ds.length)
   (h:∀(i:Nat) (v:Value) (d:D),vs[i]? = some v->ds[i]? = some d->fF c w v d):fF c w (.tuple vs.toArray) (.tup ds)
 | sl (a:Option Addr) (len cap sz:Nat) (es:List (List D)) (g:Nat->Nat->Value)
   (hlen:es.length=len) (jG:len<=cap) (iL:cap<=maxLen) (ij:∀e∈es,e.length=sz)
   (kU:a=none->cap=0)
   (hc:∀(i:Nat) (e:List D) (j:Nat) (d:D),es[i]? = some e->e[j]? = some d->∃b o,a=some ⟨b,o,none⟩/\c.F b/\w.cell? ⟨b,o+(i*sz+j),none⟩=some (g i j)/\(g i j).oneCell'=true)
   (hr:∀(i:Nat) (e:List D) (j:Nat) (d:D),es[i]? = some e->e[j]? = some d->fF c w (g i j) d):fF c w (.slice a len cap) (.sl sz es)
 | fJ:fF c w (.slice none 0 0) .fJ
 | lD (a:Option Addr) (vs:List Value) (iL:vs.length<=maxLen) (kU:a=none->vs = [])
   (hc:∀(i:Nat) (v:Value),vs[i]? = some v->∃b o,a=some ⟨b,o,none⟩/\c.F b/\w.cell? ⟨b,o+i,none⟩=some v/\v.oneCell'=true):fF c w (.slice a vs.length vs.length) (.lD vs)
 | fy (v k sz off len cap:Nat) (L:Loc) (fM:c.ι v k=some L) (hv:L.jr=false) (jG:len<=cap) (iL:cap<=maxLen)
   (l9:L.base+(off+cap)*sz<=L.top):fF c w (.slice (some ⟨L.b,L.base+off*sz,none⟩) len cap) (.fy v k sz off len)
 | l3 (v k sz off:Nat) (L:Loc) (fM:c.ι v k=some L) (a:Option Addr):fF c w (.slice a 0 0) (.fy v k sz off 0)
 | ptr (v k off:Nat) (L:Loc) (fM:c.ι v k=some L) (hv:L.jr=false):fF c w (.pointer (some ⟨L.b,L.base+off,none⟩)) (.ptr v k off)
 | fV (b o:Nat) (cs:List D) (g:Nat->Value) (hF:c.F b)
   (hc:∀(j:Nat) (d:D),cs[j]? = some d->w.cell? ⟨b,o+j,none⟩=some (g j)/\(g j).oneCell'=true)
   (hr:∀(j:Nat) (d:D),cs[j]? = some d->fF c w (g j) d):fF c w (.pointer (some ⟨b,o,none⟩)) (.fV cs)
 | gg (v:Nat) (L:Loc) (fM:c.ι v 0=some L) (hv:L.jr=false):fF c w (.map (some L.b)) (.gg v)
 | fn (fn:Fn) (fs cs:List Value) (df dc:List D) (ja:fs.length=df.length) (jH:cs.length=dc.length)
   (h1:∀(i:Nat) (v:Value) (d:D),fs[i]? = some v->df[i]? = some d->fF c w v d)
   (h2:∀(i:Nat) (v:Value) (d:D),cs[i]? = some v->dc[i]? = some d->fF c w v d):fF c w (.func fn fs.toArray cs.toArray) (.fn fn df dc)
 | iH (v:Nat) (L:Loc) (fM:c.ι v 0=some L) (hv:L.jr=false):fF c w (.func (.yield L.b) #[] #[]) (.iH v)
inductive KK where
 | int (k:IntKind)
 | str
 | bool
 | ints (l:List IntKind)
 deriving Inhabited,DecidableEq
def sn:List IntKind->List Value->Bool
 | [],[]=>true
 | k::ks,.int k' _::vs=>k == k'&&sn ks vs
 | _,_=>false
def KK.has:KK->Value->Bool
 | .int k,.int k' _=>k == k'
 | .str,.string _=>true
 | .bool,.bool _=>true
 | .ints l,.agg cs=>sn l cs.toList
 | _,_=>false
inductive sw where
 | ready|busy|zN|ym (id:Nat)
 deriving Inhabited,DecidableEq
inductive Ob where
 | row (t:TypeId) (g:Nat) (cs:List D)
 | map (kk:KK) (es:List (Value×D))
 | gV (rf:Nat) (env:Env) (st:sw)
 | rF (s:ByteArray) (pos:Nat)
 | jb (m:D) (since:Nat) (seen:List Nat)
 | kD
 | dead
 | lu
 deriving Inhabited
def Ob.alive:Ob->Bool
 | .dead | .lu=>false
 | _=>true
def Ob.gen:Ob->Nat
 | .row _ g _=>g
 | _=>0
abbrev U:=List Ob
def lB(c:Ctx)(H:U)(v:Nat)(L:Loc):Prop:=∃o,H[v]? = some o/\o.alive=true/\c.ι v o.gen=some L
def lN(c:Ctx)(H:U)(b:Nat):Prop:=∃v L,lB c H v L/\L.jr=false/\L.b=b
def D2(c:Ctx)(w:World)(b:Array MapEntry)(a:Nat)(es:List (Value×D)):Prop:=
 b.size=es.length/\(∀(i:Nat) (e:MapEntry) (x:Value×D),b[i]? = some e->es[i]? = some x->e.key=x.1/\fF c w e.val x.2/\e.born=i)/\a=es.length
def sw.is:sw->Loop->Prop
 | .ready,r=>r.state = .ready/\r.pending=none
 | .busy,r=>r.state = .busy
 | .zN,r=>r.state = .done/\r.pending=some .ret
 | .ym id,r=>r.state = .done/\r.pending=some (.exit id)
def gK(c:Ctx)(w:World):Option Loc->Ob->Prop
 | _,.dead=>True
 | L,.lu=>L=none
 | none,_=>False
 | some L,.row t _ cs=>if L.jr then cs = []else
   ∃a:Array Value,w.heap[L.b]? = some (.cells a t (0,0))/\L.top=a.size/\L.base+cs.length<=L.top /\
    ∀(i:Nat) (d:D),cs[i]? = some d->∃v,a[L.base+i]? = some v/\v.oneCell'=true/\fF c w v d
 | some L,.map kk es=>L.jr=false/\(∀x∈es,kk.has x.1=true)/\∃a b,w.heap[L.b]? = some (.map a b)/\D2 c w a b es
 | some L,.gV rf env st=>L.jr=false/\∃r:Loop,w.heap[L.b]? = some (.loop r)/\(∀k,fF c w (r.tmps.getD k undef) (env.get k)) /\
   (∃N,c.RT rf=some (N,r.params,r.assign,r.body)/\N<=r.tmps.size)/\st.is r
 | some L,.rF s p=>L.jr=false/\L.base=0/\w.heap[L.b]? = some (.stringIter s p)
 | some L,.jb m since seen=>L.jr=false/\L.base=0/\∃e:Nat,fF c w (.map (some e)) m/\w.heap[L.b]? = some (.mapIter (some e) since seen.toArray since)
 | some L,.kD=>L.jr=true\/w.heap[L.b]? = some (.deferred (some []))
structure HeapOK(c:Ctx)(H:U)(w:World):Prop where
 inj:∀v v' L L',lB c H v L->lB c H v' L'->L.jr=false->L'.jr=false->L.b=L'.b->v=v'
 lt:∀b,lN c H b->b<w.heap.size
 nF:∀b,lN c H b->¬c.F b
 ki:∀b,c.F b->b<w.heap.size
 out:∀v k,H.length<=v->c.ι v k=none
 l7:∀v o k,H[v]? = some o->(o = .lu\/(o.alive=true/\o.gen<k))->c.ι v k=none
 ob:∀(v:Nat) (o:Ob),H[v]? = some o->gK c w (c.ι v o.gen) o
structure Step(n:Nat)(c:Ctx)(H:U)(w:World)(c':Ctx)(H':U)(w':World):Prop where
 os:w'.os=w.os/\w.drawn<=w'.drawn
 tape:w'.tape=w.tape
 output:w'.output=w.output
 size:w.heap.size<=w'.heap.size
 RT:c'.RT=c.RT
 Fm:∀b,c.F b->c'.F b
 Fn:∀b,c'.F b->c.F b\/w.heap.size<=b\/lN c H b
 kept:∀b,b<w.heap.size->¬lN c H b->w'.heap[b]? = w.heap[b]?
 old:∀v k L,v<n->c.ι v k=some L->c'.ι v k=some L
 own:∀b,lN c' H' b->w.heap.size<=b\/lN c H b
theorem Step.refl(n:Nat)(c:Ctx)(H:U)(w:World):Step n c H w c H w:=
 ⟨⟨rfl,Nat.le_refl _⟩,rfl,rfl,Nat.le_refl _,rfl,λ_ h=>h,λ_ h=>.inl h,λ_ _ _=>rfl,λ_ _ _ _ h=>h,λ_ h=>.inr h⟩
theorem Step.trans{n m:Nat}{c d c2:Ctx}{H H1 H2:U}{w w1 w2:World}(h1:Step n c H w d H1 w1)(a:Step m d H1 w1 c2 H2 w2)(f:n<=m) :
  Step n c H w c2 H2 w2 where
 os:=⟨a.os.1.trans h1.os.1,Nat.le_trans h1.os.2 a.os.2⟩
 tape:=a.tape.trans h1.tape
 output:=a.output.trans h1.output
 size:=Nat.le_trans h1.size a.size
 RT:=a.RT.trans h1.RT
 Fm b h:=a.Fm b (h1.Fm b h)
 Fn b h:=by
  rcases a.Fn b h with h|h|h
  .exact h1.Fn b h
  .exact .inr (.inl (Nat.le_trans h1.size h))
  .rcases h1.own b h with h|h
   .grind
   .grind
 kept b hb hn:=by
  rw[a.kept b (aK hb h1.size) (λe=>?_),h1.kept b hb hn];rcases h1.own b e with h|h
  .omega
  .exact hn h
 old v k L hv h:=a.old v k L (by omega) (h1.old v k L hv h)
 own b h:=by
  rcases a.own b h with h|h
  .exact .inl (Nat.le_trans h1.size h)
  .exact h1.own b h
theorem Step.weaken{n m:Nat}{c c':Ctx}{H H':U}{w w':World}(h:Step n c H w c' H' w')(b:m<=n):Step m c H w c' H' w':=
 { h with old:=λv k L a=>h.old v k L (by omega) }
theorem Em{w w':World}{a:Addr}(h:w'.heap[a.block]? = w.heap[a.block]?):w'.cell? a=w.cell? a:=by simp[World.cell?,h]
theorem fF.carry{c c':Ctx}{w w':World}(s:∀v k L,c.ι v k=some L->c'.ι v k=some L)(B:∀b,c.F b->c'.F b)
  (t:∀b o,c.F b->w'.cell? ⟨b,o,none⟩=w.cell? ⟨b,o,none⟩) {v:Value} {d:D} (h:fF c w v d):fF c' w' v d:=by
 induction h with
 | any v=>exact .any _
 | val v=>exact .val _
 | agg vs ds hl h1 h n=>exact .agg vs _ hl h1 n
 | tup vs ds hl h n=>exact .tup vs _ hl n
 | sl a len cap sz es g q y p I x r J n=>
  refine .sl a len cap sz _ g q y p I x ?_ n;intro i e j d K z;obtain⟨b,o,A,m,u,h1⟩:=r i e j d K z;exact⟨b,o,A,B b m,by rw[t b _ m];exact u,h1⟩
 | fJ=>exact .fJ
 | lD a vs p x r=>
  refine .lD a vs p x ?_;intro i v l;obtain⟨b,o,A,m,u,h1⟩:=r i v l;exact⟨b,o,A,B b m,by rw[t b _ m];exact u,h1⟩
 | fy v k sz off len cap L h l y p F=>exact .fy v k sz off len cap L (s _ _ _ h) l y p F
 | l3 v k sz off L h a=>exact .l3 v k sz off L (s _ _ _ h) a
 | ptr v k off L h l=>exact .ptr v k off L (s _ _ _ h) l
 | fV b o cs g m r J n=>
  refine .fV b o _ g (B b m) ?_ n;intro j d z;rw[t b _ m];exact r j d z
 | gg v L h l=>exact .gg v L (s _ _ _ h) l
 | fn f fs cs N O G H h1 M E C=>exact .fn f fs cs _ _ G H E C
 | iH v L h l=>exact .iH v L (s _ _ _ h) l
theorem fF.step{n:Nat}{c c':Ctx}{H H':U}{w w':World}(e:HeapOK c H w)(hs:Step n c H w c' H' w')(i:H.length<=n){v:Value}{d:D}(h:fF c w v d) :
  fF c' w' v d:=by
 refine h.carry (λv k L a=>hs.old v k L ?_ a) hs.Fm (λb o f=>Em (hs.kept b (e.ki b f) (λg=>e.nF b g f)));rcases bw v H.length with h|h
 .omega
 .rw[e.out v k h]at a;cases a
theorem fF.pc{c c':Ctx}{H H':U}{w w':World}(a:HeapOK c H w)(hs:Step H.length c H w c' H' w'){v:Value}{d:D}(h:fF c w v d):fF c' w' v d:=
 h.step a hs (Nat.le_refl _)
inductive X where
 | t (k:Nat)
 | c (d:D)
 deriving Inhabited
abbrev gD:=Nat->D
def ev(env:gD):X->D
 | .t k=>env k
 | .c d=>d
def cellsOf:D->Option (List D)
 | .agg cs=>some cs
 | .any | .tup _=>none
 | .val v=>if v.oneCell' then some [.val v]else none
 | d=>some [d]
def one:D->Bool
 | .any | .tup _ | .agg _=>false
 | .val v=>v.oneCell'
 | _=>true
mutual
def closed:D->Bool
 | .any | .val _ | .fJ | .lD _=>true
 | .agg cs | .tup cs | .fV cs=>gh cs
 | .sl _ es=>B3 es
 | .fy .. | .ptr .. | .gg _ | .iH _=>false
 | .fn _ a b=>gh a&&gh b
def gh:List D->Bool
 | []=>true
 | d::ds=>closed d&&gh ds
def B3:List (List D)->Bool
 | []=>true
 | e::es=>gh e&&B3 es
end
def mV:Value->Value->Bool
 | .int k a,.int k' b=>k == k'&&a == b
 | .string a,.string b=>a == b
 | .bool a,.bool b=>a == b
 | .agg a,.agg b=>a.size == b.size&&(a.toList.zip b.toList).all λ(x,y)=>match x,y with
  | .int k a,.int k' b=>k == k'&&a == b
  | _,_=>false
 | _,_=>false
def FU:List D->Option (List Value)
 | []=>some []
 | .val (.int k n)::r=>(FU r).map (.int k n :: ·)
 | _::_=>none
def keyOf:D->Option Value
 | .val (.int k n)=>some (.int k n)
 | .val (.string s)=>some (.string s)
 | .val (.bool b)=>some (.bool b)
 | .agg cs=>(FU cs).map λl=>.agg l.toArray
 | _=>none
def rz:Value->D
 | .agg cs=>.agg (cs.toList.map .val)
 | v=>.val v
def pY:List (Value×D)->Value->Option D
 | [],_=>none
 | (k,d)::r,j=>if mV j k then some d else pY r j
def lZ:List (Value×D)->Value->D->List (Value×D)
 | [],j,x=>[(j,x)]
 | (k,d)::r,j,x=>if mV j k then(j,x)::r else(k,d)::lZ r j x
inductive mg where
 | int|bool|str
 deriving Inhabited,DecidableEq
inductive zy where
 | slice|string|map
 deriving Inhabited,DecidableEq
inductive iu where
 | mv (x:X)
 | pick (c a b:X)
 | box (t:TypeId) (x:X)
 | alloc (t:TypeId) (z:List D)
 | build (z:List D) (ps:List (Nat×Nat×X))
 | buildSl (t sz:Nat) (z:List D) (n:Nat) (ps:List (Nat×X))
 | ld1 (x:X)
 | ldN (n:Nat) (x:X)
 | st1 (a x:X)
 | stN (n:Nat) (a x:X)
 | nilck (x:X)
 | arith (op:BinOp) (x y:X)
 | eqS (jo:Bool) (ls:List mg) (neg:Bool) (x y:X)
 | un (op:UnOp) (x:X)
 | conv (k:IntKind) (x:X)
 | b2s (x:X)
 | mkfn (fn:Fn) (first captured:List X)
 | mkmap (kk:KK)
 | mksl (t sz bytes:Nat) (z:List D) (l c:X)
 | slc (sz:Nat) (x:X) (lo hi:Option X)
 | slcS (x:X) (lo hi:Option X)
 | slc3 (sz:Nat) (x:X) (lo:Option X) (hi mx:X)
 | slcArr (sz n:Nat) (x:X) (lo hi:Option X)
 | fieldA (off:Nat) (x:X)
 | field (off n:Nat) (jo:Bool) (x:X)
 | idxA (sz:Nat) (x i:X)
 | idxArr (sz n:Nat) (x i:X)
 | idx (sz n:Nat) (jo:Bool) (x i:X)
 | idxStr (x i:X)
 | lookup (kk:KK) (z:D) (ok:Bool) (m k:X)
 | mapUpd (kk:KK) (m k v:X)
 | ext (x:X) (i:Nat)
 | call (f:FuncId) (args:List X)
 | callN (f:FuncId) (args:List X)
 | callv (f:X) (args:List X)
 | app (t sz bytes:Nat) (x y:X)
 | copy (sz:Nat) (x y:X)
 | len (k:zy) (x:X)
 | minmax (isMax:Bool) (xs:List X)
 | nilS (neg:Bool) (x:X)
 | capE (x:X)
 | appZ (t sz bytes:Nat) (z:List D) (x n:X)
 | clr (sz:Nat) (z:List D) (x:X)
 | rangeS (x:X)
 | nextS (x:X)
 | rangeM (x:X)
 | nextM (x:X)
 | entry (x:X)
 | mapEnt (kk:KK) (z:D) (m k:X)
 | entSt (m s x:X)
 deriving Inhabited
structure gI where
 dst:Option Nat
 op:iu
 guard:Option (Nat×Bool):=none
 deriving Inhabited
structure GT where
 g:Nat->Option (List D)
 rt:Nat->Option (Nat×Array Tmp×Code×Code)
 nw:FuncId->Bool:=λ_=>false
instance:CoeFun GT (λ_=>Nat->Option (List D)):=⟨GT.g⟩
inductive je(c:Ctx)(w:World):List Value->List D->Prop
 | nil:je c w [] []
 | cons {v d vs ds} (h:fF c w v d) (t:je c w vs ds):je c w (v::vs) (d::ds)
structure gf(G:GT)(c:Ctx)(H:U)(w:World):Prop extends HeapOK c H w where
 gl:∀(g:Nat) (cs:List D),G g=some cs->gh cs=true/\fF c w (.pointer (some ⟨g,0,none⟩)) (.fV cs)
 rt:c.RT=G.rt
abbrev ji:=D->U->Prop
abbrev Al:=Nat×(Ob->U)
def Al.last(H:U):Al:=(H.length,λob=>H ++ [ob])
def Al.lu(H:U)(v:Nat):Al:=(v,λob=>H.set v ob)
def nq(n:Int):Prop := -9223372036854775808<=n/\n<=9223372036854775807
def D9(op:BinOp)(k:IntKind)(a b:Int)(H:U)(K:ji):Prop:=
 match op with
 | .add=>if k = .i64 then nq (a+b)/\K (.val (.int .i64 (a+b))) H else K (.val (.int k (k.wrap (a+b)))) H
 | .sub=>if k = .i64 then nq (a-b)/\K (.val (.int .i64 (a-b))) H else K (.val (.int k (k.wrap (a-b)))) H
 | .mul=>if k = .i64 then nq (a*b)/\K (.val (.int .i64 (a*b))) H else K (.val (.int k (k.wrap (a*b)))) H
 | .quo=>b≠0/\K (.val (.int k (k.wrap (a.tdiv b)))) H
 | .rem=>b≠0/\K (.val (.int k (a.tmod b))) H
 | .and | .or | .xor | .andNot=>K (.val (.int k (bits op k a b))) H
 | .eql=>K (.val (.bool (a == b))) H
 | .neq=>K (.val (.bool (a != b))) H
 | .lss=>K (.val (.bool (decide (a<b)))) H
 | .leq=>K (.val (.bool (decide (a<=b)))) H
 | .gtr=>K (.val (.bool (decide (a>b)))) H
 | .geq=>K (.val (.bool (decide (a>=b)))) H
 | _=>False
def GL(op:BinOp)(k:IntKind)(a b:Int)(H:U)(K:ji):Prop:=
 match op with
 | .shl=>0<=b/\K (.val (.int k (k.wrap (a*2 ^ (min b.toNat k.bits))))) H
 | .shr=>0<=b/\K (.val (.int k (a.fdiv (2 ^ (min b.toNat k.bits))))) H
 | _=>False
def o9:BinOp->Bool
 | .shl | .shr=>true
 | _=>false
def MY(op:BinOp)(a b:ByteArray)(H:U)(K:ji):Prop:=
 match op with
 | .eql=>K (.val (.bool (a.data.toList == b.data.toList))) H
 | .neq=>K (.val (.bool (!(a.data.toList == b.data.toList)))) H
 | .add=>((a.size+b.size:Nat):Int)<=9223372036854775807/\K (.val (.string (a++b))) H
 | _=>False
def Eb(op:BinOp)(x y:D)(H:U)(K:ji):Prop:=
 match x,y with
 | .val (.int k a),.val (.int k' b)=>if o9 op then GL op k a b H K else k=k'/\D9 op k a b H K
 | .val (.string a),.val (.string b)=>MY op a b H K
 | _,_=>False
def G6(op:UnOp)(x:D)(H:U)(K:ji):Prop:=
 match op,x with
 | .not,.val (.bool b)=>K (.val (.bool (!b))) H
 | .neg,.val (.int .i64 n)=>nq (-n)/\K (.val (.int .i64 (-n))) H
 | .xor,.val (.int k n)=>K (.val (.int k (bits .xor k (if k.signed then -1 else k.max) n))) H
 | _,_=>False
def tv:mg->D->D->Option Bool
 | .int,.val (.int k a),.val (.int k' b)=>if k=k' then some (a == b)else none
 | .bool,.val (.bool a),.val (.bool b)=>some (a == b)
 | .str,.val (.string a),.val (.string b)=>some (a.data.toList == b.data.toList)
 | _,_,_=>none
def mb:List mg->List D->List D->Option Bool
 | [],[],[]=>some true
 | l::ls,x::xs,y::ys=>match tv l x y,mb ls xs ys with
  | some a,some b=>some (a&&b)
  | _,_=>none
 | _,_,_=>none
def vz(c:Bool)(ls:List mg)(neg:Bool)(x y:D)(H:U)(K:ji):Prop:=
 match c,x,y with
 | true,.agg a,.agg b=>match mb ls a b with
  | some r=>K (.val (.bool (if neg then !r else r))) H
  | none=>False
 | false,x,y=>match mb ls [x] [y]with
  | some r=>K (.val (.bool (if neg then !r else r))) H
  | none=>False
 | _,_,_=>False
def Gj(c a b:D)(H:U)(K:ji):Prop:=
 match c with
 | .val (.bool x)=>K (if x then a else b) H
 | _=>False
def rowAt(H:U)(v k:Nat):Option (TypeId×List D):=match H[v]? with
 | some (.row t g cs)=>if g=k then some (t,cs)else none
 | _=>none
def FV(x:D)(H:U)(K:ji):Prop:=
 match x with
 | .ptr v g o=>match rowAt H v g with
  | some (_,cs)=>match cs[o]? with
   | some d=>K d H
   | none=>False
  | none=>False
 | .fV cs=>match cs[0]? with
  | some d=>K d H
  | none=>False
 | _=>False
def FX(n:Nat)(x:D)(H:U)(K:ji):Prop:=
 match x with
 | .ptr v g o=>match rowAt H v g with
  | some (_,cs)=>o+n<=cs.length/\K (.agg ((cs.drop o).take n)) H
  | none=>False
 | .fV cs=>n<=cs.length/\K (.agg (cs.take n)) H
 | _=>False
def GV(a x:D)(H:U)(K:ji):Prop:=
 match a with
 | .ptr v g o=>match rowAt H v g with
  | some (t,cs)=>o<cs.length/\one x=true/\K .any (H.set v (.row t g (cs.set o x)))
  | none=>False
 | _=>False
def GX(n:Nat)(a x:D)(H:U)(K:ji):Prop:=
 match a,cellsOf x with
 | .ptr v g o,some xs=>match rowAt H v g with
  | some (t,cs)=>xs.length=n/\o+n<=cs.length/\K .any (H.set v (.row t g (cs.take o++xs++cs.drop (o+n))))
  | none=>False
 | _,_=>False
def Ed(t:TypeId)(x:D)(al:Al)(K:ji):Prop:=
 match cellsOf x with
 | some cs=>K (.ptr al.1 0 0) (al.2 (.row t 0 cs))
 | none=>False
def lay:List (Nat×Nat×List D)->List D->Option (List D)
 | [],cs=>some cs
 | (o,n,xs)::r,cs=>if xs.length=n/\o+n<=cs.length then lay r (cs.take o++xs++cs.drop (o+n))else none
def partsOf(env:gD):List (Nat×Nat×X)->Option (List (Nat×Nat×List D))
 | []=>some []
 | (o,n,x)::r=>match cellsOf (ev env x),partsOf env r with
  | some cs,some l=>some ((o,n,cs)::l)
  | _,_=>none
def zF(env:gD)(z:List D)(ps:List (Nat×Nat×X))(H:U)(K:ji):Prop:=
 match partsOf env ps with
 | some l=>match lay l z with
  | some cs=>K (.agg cs) H
  | none=>False
 | none=>False
def Ee(env:gD)(t sz:Nat)(z:List D)(n:Nat)(ps:List (Nat×X))(al:Al)(K:ji):Prop:=
 match partsOf env (ps.map λp=>(p.1*sz,sz,p.2))with
 | some l=>match lay l (List.replicate n z).flatten with
  | some cs=>K (.fy al.1 0 sz 0 n) (al.2 (.row t 0 cs))
  | none=>False
 | none=>False
def EJ(off:Nat)(x:D)(H:U)(K:ji):Prop:=
 match x with
 | .ptr v g o=>K (.ptr v g (o+off)) H
 | .fV cs=>K (.fV (cs.drop off)) H
 | _=>False
def zY(off n:Nat)(a:Bool)(x:D)(H:U)(K:ji):Prop:=
 match x with
 | .agg cs=>if a then off+n<=cs.length/\K (.agg ((cs.drop off).take n)) H else match cs[off]? with
  | some d=>K d H
  | none=>False
 | _=>False
def FM(sz:Nat)(x i:D)(H:U)(K:ji):Prop:=
 match x,i with
 | .sl gE es,.val (.int _ n)=>gE=sz/\(0<=n/\n<es.length)/\K (.fV (es.getD n.toNat [])) H
 | .lD vs,.val (.int _ n)=>1=sz/\(0<=n/\n<vs.length)/\K (.fV [.val (vs.getD n.toNat undef)]) H
 | .fy v g gE off len,.val (.int _ n)=>gE=sz/\(0<=n/\n<len)/\K (.ptr v g ((off+n.toNat)*sz)) H
 | _,_=>False
def FN(sz n:Nat)(x i:D)(H:U)(K:ji):Prop:=
 match x,i with
 | .ptr v g o,.val (.int _ k)=>(0<=k/\k<n)/\K (.ptr v g (o+k.toNat*sz)) H
 | .fV cs,.val (.int _ k)=>(0<=k/\k<n)/\K (.fV (cs.drop (k.toNat*sz))) H
 | _,_=>False
def FP(sz n:Nat)(a:Bool)(x i:D)(H:U)(K:ji):Prop:=
 match x,i with
 | .agg cs,.val (.int _ k)=>(0<=k/\k<n)/\zY (k.toNat*sz) sz a (.agg cs) H K
 | _,_=>False
def FQ(x i:D)(H:U)(K:ji):Prop:=
 match x,i with
 | .val (.string s),.val (.int _ k)=>(0<=k/\k<s.size)/\K (.val (.int .u8 ((s.data.toList.getD k.toNat 0).toNat))) H
 | _,_=>False
def kY(H:U)(v:Nat):Option (KK×List (Value×D)):=match H[v]? with
 | some (.map kk es)=>some (kk,es)
 | _=>none
def F1(a:KK)(z:D)(ok:Bool)(m k:D)(H:U)(K:ji):Prop:=
 match m,keyOf k with
 | .gg v,some kv=>match kY H v with
  | some (kk,es)=>kk=a/\kk.has kv=true/\(match pY es kv with
    | some d=>K (if ok then .tup [d,.val (.bool true)]else d) H
    | none=>K (if ok then .tup [z,.val (.bool false)]else z) H)
  | none=>False
 | _,_=>False
def F5(a:KK)(m k x:D)(H:U)(K:ji):Prop:=
 match m,keyOf k with
 | .gg v,some kv=>match kY H v with
  | some (kk,es)=>kk=a/\kk.has kv=true/\K .any (H.set v (.map kk (lZ es kv x)))
  | none=>False
 | _,_=>False
def EG(x:D)(i:Nat)(H:U)(K:ji):Prop:=
 match x with
 | .tup ds=>match ds[i]? with
  | some d=>K d H
  | none=>False
 | _=>False
def F'(t sz bytes:Nat)(z:List D)(l c:D)(al:Al)(K:ji):Prop:=
 match l,c with
 | .val (.int _ n),.val (.int _ m)=>(0<=n/\n<=m/\m<=9223372036854775807/\(bytes:Int)*m<=281474976710656)/\K (.fy al.1 0 sz 0 n.toNat) (al.2 (.row t 0 (List.replicate m.toNat z).flatten))
 | _,_=>False
def gN(env:gD):Option X->Int->Option Int
 | none,n=>some n
 | some x,_=>match ev env x with
  | .val (.int _ n)=>some n
  | _=>none
def GQ(env:gD)(sz:Nat)(x:D)(lo hi:Option X)(H:U)(K:ji):Prop:=
 match x with
 | .sl a es=>match gN env lo 0,gN env hi es.length with
  | some l,some h=>a=sz/\(0<=l/\l<=h/\h<=es.length)/\K (.sl sz ((es.drop l.toNat).take (h.toNat-l.toNat))) H
  | _,_=>False
 | .fy v g a off len=>match gN env lo 0,gN env hi len with
  | some l,some h=>a=sz/\(0<=l/\l<=h/\h<=len)/\K (.fy v g sz (off+l.toNat) (h.toNat-l.toNat)) H
  | _,_=>False
 | .fJ=>match gN env lo 0,gN env hi 0 with
  | some l,some h=>(l=0/\h=0)/\K .fJ H
  | _,_=>False
 | _=>False
def Dz:List (List D)->Option (List Value)
 | []=>some []
 | [.val v]::r=>if v.oneCell' then(match Dz r with|some l=>some (v::l)|none=>none)else none
 | _::_=>none
def clip(sz:Nat)(es:List (List D)):D:=match Dz es with
 | some vs=>if sz=1 then .lD vs else .sl sz es
 | none=>.sl sz es
def GN(env:gD)(sz:Nat)(x:D)(lo:Option X)(hi mx:X)(H:U)(K:ji):Prop:=
 match gN env lo 0,gN env (some hi) 0,gN env (some mx) 0 with
 | some l,some h,some m=>match x with
  | .sl a es=>a=sz/\(0<=l/\l<=h/\h=m/\m<=es.length)/\K (clip sz ((es.drop l.toNat).take (h.toNat-l.toNat))) H
  | .fy v g a off len=>a=sz/\(0<=l/\l<=h/\h<=m/\m<=len)/\K (.fy v g sz (off+l.toNat) (h.toNat-l.toNat)) H
  | .fJ=>(l=0/\h=0/\m=0)/\K .fJ H
  | _=>False
 | _,_,_=>False
def GO(env:gD)(sz n:Nat)(x:D)(lo hi:Option X)(H:U)(K:ji):Prop:=
 match x,gN env lo 0,gN env hi n with
 | .fV cs,some l,some h=>(sz=1/\n<=cs.length/\n<=16777216/\0<=l/\l<=h/\h<=n)/\K (.sl 1 (((cs.drop l.toNat).take (h.toNat-l.toNat)).map λd=>[d])) H
 | .ptr v g o,some l,some h=>match rowAt H v g with
  | some (_,cs)=>(o % sz=0/\o+n*sz<=cs.length/\n<=16777216/\0<=l/\l<=h/\h<=n)/\K (.fy v g sz (o / sz+l.toNat) (h.toNat-l.toNat)) H
  | none=>False
 | _,_,_=>False
def Dq(env:gD)(x:D)(lo hi:Option X)(H:U)(K:ji):Prop:=
 match x with
 | .val (.string s)=>match gN env lo 0,gN env hi s.size with
  | some l,some h=>(0<=l/\l<=h/\h<=s.size)/\K (.val (.string (s.extract l.toNat h.toNat))) H
  | _,_=>False
 | _=>False
def ko(sz:Nat)(H:U):D->Option (List D×Nat)
 | .sl a es=>if a=sz then some (es.flatten,es.length)else none
 | .fJ=>some ([],0)
 | .lD vs=>if sz=1 then some (vs.map .val,vs.length)else none
 | .fy v g a off len=>match rowAt H v g with
  | some (_,cs)=>if a=sz/\(off+len)*sz<=cs.length then some ((cs.drop (off*sz)).take (len*sz),len)else none
  | none=>none
 | _=>none
def D8(t sz bytes:Nat)(x y:D)(H:U)(al:Al)(K:ji):Prop:=
 match ko sz H y with
 | some (ys,n)=>match x with
  | .fy v g a off len=>match rowAt H v g with
   | some (t',cs)=>(a=sz/\t'=t/\(off+len)*sz<=cs.length/\(len+n)*bytes<=140737488355328/\len+n<=9223372036854775807) /\
     K (.fy v (g+1) sz 0 (len+n)) (H.set v (.row t (g+1) ((cs.drop (off*sz)).take (len*sz)++ys)))
   | none=>False
  | .lD vs=>(n≠0/\sz=1/\(vs.length+n)*bytes<=140737488355328/\vs.length+n<=9223372036854775807)/\K (.fy al.1 0 sz 0 (vs.length+n)) (al.2 (.row t 0 (vs.map .val++ys)))
  | .fJ=>if n=0 then K .fJ H else(n*bytes<=140737488355328/\n<=9223372036854775807)/\K (.fy al.1 0 sz 0 n) (al.2 (.row t 0 ys))
  | _=>False
 | none=>False
def Ez(sz:Nat)(x y:D)(H:U)(K:ji):Prop:=
 match x,ko sz H y with
 | .fy v g gE off len,some (ys,n)=>match rowAt H v g with
  | some (t,cs)=>(gE=sz/\(off+len)*sz<=cs.length) /\
    K (.val (.int .i64 (min n len:Nat))) (H.set v (.row t g (cs.take (off*sz)++ys.take (min n len*sz)++cs.drop (off*sz+min n len*sz))))
  | none=>False
 | .fJ,some _=>K (.val (.int .i64 0)) H
 | _,_=>False
def FY(k:zy)(x:D)(H:U)(K:ji):Prop:=
 match k,x with
 | .slice,.sl _ es=>K (.val (.int .i64 es.length)) H
 | .slice,.fJ=>K (.val (.int .i64 0)) H
 | .slice,.lD vs=>K (.val (.int .i64 vs.length)) H
 | .slice,.fy _ _ _ _ len=>K (.val (.int .i64 len)) H
 | .string,.val (.string s)=>K (.val (.int .i64 s.size)) H
 | .map,.gg v=>match kY H v with
  | some (_,es)=>K (.val (.int .i64 es.length)) H
  | none=>False
 | _,_=>False
def qt(env:gD):List X->Option (List Int)
 | []=>some []
 | x::r=>match ev env x,qt env r with
  | .val (.int .i64 n),some l=>some (n::l)
  | _,_=>none
def F9(env:gD)(d:Bool)(xs:List X)(H:U)(K:ji):Prop:=
 match qt env xs with
 | some [a,b]=>K (.val (.int .i64 (if d then max a b else min a b))) H
 | some [a,b,c]=>K (.val (.int .i64 (if d then max (max a b) c else min (min a b) c))) H
 | _=>False
def Gb(x:D)(H:U)(K:ji):Prop:=
 match x with
 | .ptr v g o=>K (.ptr v g o) H
 | .fV cs=>K (.fV cs) H
 | .fn (.func f) a b=>K (.fn (.func f) a b) H
 | .iH v=>K (.iH v) H
 | _=>False
def Et(k:IntKind)(x:D)(H:U)(K:ji):Prop:=
 match x with
 | .val (.int _ n)=>K (.val (.int k (k.wrap n))) H
 | _=>False
def bytesOf:List D->Option (List Int)
 | []=>some []
 | .val (.int .u8 n)::r=>match bytesOf r with
  | some l=>some (n::l)
  | none=>none
 | _=>none
def Ea(x:D)(H:U)(K:ji):Prop:=
 match ko 1 H x with
 | some (ys,_)=>match bytesOf ys with
  | some a=>K (.val (.string (a.foldl (λr n=>r.push (UInt8.ofNat n.toNat)) ByteArray.empty))) H
  | none=>False
 | none=>False
def D7(env:gD)(H:U)(al:Al)(K:ji):iu->Prop
 | .mv x=>K (ev env x) H
 | .pick c a b=>Gj (ev env c) (ev env a) (ev env b) H K
 | .box t x=>Ed t (ev env x) al K
 | .alloc t z=>K (.ptr al.1 0 0) (al.2 (.row t 0 z))
 | .build z ps=>zF env z ps H K
 | .buildSl t sz z n ps=>Ee env t sz z n ps al K
 | .ld1 x=>FV (ev env x) H K
 | .ldN n x=>FX n (ev env x) H K
 | .st1 a x=>GV (ev env a) (ev env x) H K
 | .stN n a x=>GX n (ev env a) (ev env x) H K
 | .nilck x=>Gb (ev env x) H K
 | .arith op x y=>Eb op (ev env x) (ev env y) H K
 | .eqS e ls neg x y=>vz e ls neg (ev env x) (ev env y) H K
 | .un op x=>G6 op (ev env x) H K
 | .conv k x=>Et k (ev env x) H K
 | .b2s x=>Ea (ev env x) H K
 | .mkfn f first cap=>K (.fn f (first.map (ev env)) (cap.map (ev env))) H
 | .mkmap kk=>K (.gg al.1) (al.2 (.map kk []))
 | .mksl t sz bytes z l c=>F' t sz bytes z (ev env l) (ev env c) al K
 | .slc sz x lo hi=>GQ env sz (ev env x) lo hi H K
 | .slcS x lo hi=>Dq env (ev env x) lo hi H K
 | .slc3 sz x lo hi mx=>GN env sz (ev env x) lo hi mx H K
 | .slcArr sz n x lo hi=>GO env sz n (ev env x) lo hi H K
 | .fieldA off x=>EJ off (ev env x) H K
 | .field off n e x=>zY off n e (ev env x) H K
 | .idxA sz x i=>FM sz (ev env x) (ev env i) H K
 | .idxArr sz n x i=>FN sz n (ev env x) (ev env i) H K
 | .idx sz n e x i=>FP sz n e (ev env x) (ev env i) H K
 | .idxStr x i=>FQ (ev env x) (ev env i) H K
 | .lookup kk z ok m k=>F1 kk z ok (ev env m) (ev env k) H K
 | .mapUpd kk m k x=>F5 kk (ev env m) (ev env k) (ev env x) H K
 | .ext x i=>EG (ev env x) i H K
 | .call _ _ | .callN _ _ | .callv _ _=>False
 | .app t sz bytes x y=>D8 t sz bytes (ev env x) (ev env y) H al K
 | .copy sz x y=>Ez sz (ev env x) (ev env y) H K
 | .len k x=>FY k (ev env x) H K
 | .minmax d xs=>F9 env d xs H K
 | .nilS .. | .capE .. | .appZ .. | .clr .. | .rangeS .. | .nextS .. | .rangeM .. | .nextM .. | .entry .. | .mapEnt .. | .entSt .. => False
def put(env:Env)(dst:Option Nat)(d:D):Env:=match dst with
 | some k=>(k,d)::env
 | none=>env
def Ctx.set(c:Ctx)(v k:Nat)(L:Loc):Ctx:={ c with ι:=λu l=>if u=v/\l=k then some L else c.ι u l }
theorem Ctx.rE(c:Ctx)(v k:Nat)(L:Loc):(c.set v k L).ι v k=some L:=by simp[Ctx.set]
theorem Ctx.u6(c:Ctx){v k u l:Nat}(L:Loc)(h:¬(u=v/\l=k)):(c.set v k L).ι u l=c.ι u l:=by simp only[Ctx.set];rw[if_neg h]
structure wA(H:U)(v:Nat)(ob:Ob)(H':U):Prop where
 get:∀u,H'[u]? = if u=v then some ob else H[u]?
 free:H.length<=v\/H[v]? = some .lu
 len:H.length<=H'.length
theorem wA.last(H:U)(ob:Ob):wA H H.length ob (H ++ [ob]) where
 get u:=by
  split
  .rename_i h;subst h;simp
  .rename_i h;rcases bw u H.length with h1|h1
   .rw[ah h1]
   .rw[b6 (by simp;omega),b6 h1]
 free:=.inl (Nat.le_refl _)
 len:=by simp
theorem wA.lu{H:U}{v:Nat}(h:H[v]? = some .lu)(ob:Ob):wA H v ob (H.set v ob) where
 get u:=by
  have:=(ae.1 h).1;rw[bM];split
  .rename_i e;subst e;simp[this]
  .rename_i e;rw[if_neg (cF e)]
 free:=.inr h
 len:=by simp
def mC(H:U)(al:Al):Prop:=∀ob,wA H al.1 ob (al.2 ob)
theorem mC.last(H:U):mC H (Al.last H):=λob=>wA.last H ob
theorem mC.lu{H:U}{v:Nat}(h:H[v]? = some .lu):mC H (Al.lu H v):=λob=>wA.lu h ob
structure jJ(w w':World):Prop where
 os:w'.os=w.os/\w.drawn<=w'.drawn
 tape:w'.tape=w.tape
 output:w'.output=w.output
 size:w.heap.size<=w'.heap.size
 kept:∀b,b<w.heap.size->w'.heap[b]? = w.heap[b]?
theorem jJ.refl(w:World):jJ w w:=⟨⟨rfl,Nat.le_refl _⟩,rfl,rfl,Nat.le_refl _,λ_ _=>rfl⟩
theorem jJ.alloc(w:World)(o:Obj):jJ w (w.alloc o):=
 ⟨⟨rfl,Nat.le_refl _⟩,rfl,rfl,by simp,λb h=>by simp only[World.alloc,ef];rw[if_neg (by omega)]⟩
theorem jJ.trans{a b c:World}(h:jJ a b)(k:jJ b c):jJ a c:=
 ⟨⟨k.os.1.trans h.os.1,Nat.le_trans h.os.2 k.os.2⟩,k.tape.trans h.tape,k.output.trans h.output,Nat.le_trans h.size k.size,λi hi=>(k.kept i (aK hi h.size)).trans (h.kept i hi)⟩
theorem jJ.drew(w:World):jJ w w.drew:=⟨⟨rfl,Nat.le_succ _⟩,rfl,rfl,Nat.le_refl _,λ_ _=>rfl⟩
theorem Bv(n:Nat){c:Ctx}{H:U}{w w':World}(hg:jJ w w'):Step n c H w c H w':=
 ⟨hg.os,hg.tape,hg.output,hg.size,rfl,λ_ h=>h,λ_ h=>.inl h,λb a _=>hg.kept b a,λ_ _ _ _ h=>h,λ_ h=>.inr h⟩
theorem D2.mono{c c':Ctx}{w w':World}(k:∀v d,fF c w v d->fF c' w' v d){g:Array MapEntry}{f:Nat}{es:List (Value×D)}(h:D2 c w g f es):D2 c' w' g f es:=
 ⟨h.1,λi e x l j=>let ⟨a,b,d⟩:=h.2.1 i e x l j;⟨a,k _ _ b,d⟩,h.2.2⟩
theorem gK.keep{c c':Ctx}{w w':World}(x:c'.RT=c.RT)(u:∀v d,fF c w v d->fF c' w' v d){L:Option Loc}{o:Ob}
  (j:∀l,L=some l->l.jr=false->o.alive=true->w'.heap[l.b]? = w.heap[l.b]?) (h:gK c w L o):gK c' w' L o:=by
 cases o with
 | dead=>simp[gK]
 | lu=>simpa[gK]using h
 | row t g cs=>
  cases L with
  | none=>simp[gK]at h
  | some l=>
   simp only[gK]at h ⊢;split
   .rename_i a;simpa[a]using h
   .rename_i a;simp only[a]at h;obtain⟨f,h1,b,q,n⟩:=h;refine⟨f,by rw[j l rfl (by simpa using a) rfl];exact h1,b,q,λi d B=>?_⟩;obtain⟨v,z,y,D⟩:=n i d B;exact⟨v,z,y,u _ _ D⟩
 | map kk es=>
  cases L with
  | none=>simp[gK]at h
  | some l=>
   simp only[gK]at h ⊢;obtain⟨a,A,f,e,h1,b⟩:=h;exact⟨a,A,f,e,by rw[j l rfl a rfl];exact h1,b.mono u⟩
 | gV rf env st=>
  cases L with
  | none=>simp[gK]at h
  | some l=>
   simp only[gK]at h ⊢;obtain⟨a,r,h1,b,q,n⟩:=h;exact⟨a,r,by rw[j l rfl a rfl];exact h1,λk=>u _ _ (b k),by rw[x];exact q,n⟩
 | rF s p=>
  cases L with
  | none=>simp[gK]at h
  | some l=>
   simp only[gK]at h ⊢;exact⟨h.1,h.2.1,by rw[j l rfl h.1 rfl];exact h.2.2⟩
 | jb m since seen=>
  cases L with
  | none=>simp[gK]at h
  | some l=>
   simp only[gK]at h ⊢;obtain⟨h1,b,C,q,n⟩:=h;exact⟨h1,b,C,u _ _ q,by rw[j l rfl h1 rfl];exact n⟩
 | kD=>
  cases L with
  | none=>simp[gK]at h
  | some l=>
   simp only[gK]at h ⊢
   by_cases a:l.jr=true
   .exact .inl a
   .exact .inr (by rw[j l rfl (by simpa using a) rfl];exact h.resolve_left a)
theorem gf.oY{G:GT}{c:Ctx}{H:U}{w w':World}(h:gf G c H w)(hg:jJ w w'):gf G c H w':=by
 have hs:=Bv H.length (c:=c) (H:=H) hg;have i:∀v d,fF c w v d->fF c w' v d:=λv d e=>e.pc h.toHeapOK hs
 exact{
  inj:=h.inj
  lt:=λb f=>aK (h.lt b f) hg.size
  nF:=h.nF
  ki:=λb f=>aK (h.ki b f) hg.size
  out:=h.out
  l7:=h.l7
  ob:=λv o j=>(h.ob v o j).keep rfl i λl hl m e=>hg.kept _ (h.lt _ ⟨v,l,⟨o,j,e,hl⟩,m,rfl⟩)
  gl:=λg cs k=>let ⟨a,b⟩:=h.gl g cs k;⟨a,i _ _ b⟩
  rt:=h.rt }
structure xZ(H:U)(v:Nat)(ob:Ob)(H':U):Prop where
 get:∀u,H'[u]? = if u=v then some ob else H[u]?
 free:H.length<=v\/H[v]? = some .lu\/∃o,H[v]? = some o/\o.alive=true/\o.gen<ob.gen
 len:H.length<=H'.length
theorem wA.th{H:U}{v:Nat}{ob:Ob}{H':U}(h:wA H v ob H'):xZ H v ob H':=⟨h.get,h.free.imp id .inl,h.len⟩
theorem Dw{c:Ctx}{H H':U}{v:Nat}{ob:Ob}{L:Loc}(d:xZ H v ob H'){u:Nat}{l:Loc}(h:lB (c.set v ob.gen L) H' u l) :
  (u=v/\l=L)\/(u≠v/\lB c H u l):=by
 obtain⟨o,a,f,b⟩:=h;rw[d.get]at a;split at a
 .rename_i e;cases a;subst e;rw[Ctx.rE]at b;cases b;exact .inl ⟨rfl,rfl⟩
 .rename_i e;rw[Ctx.u6 _ _ (λh=>e h.1)]at b;exact .inr ⟨e,o,a,f,b⟩
theorem YF{G:GT}{c:Ctx}{H H':U}{w:World}{v:Nat}{ob:Ob}(h:gf G c H w)(b:xZ H v ob H')(k:Nat)(f:ob.gen<=k):c.ι v k=none:=by
 rcases b.free with a|a|⟨o,d,e,hg⟩
 .exact h.out v k a
 .exact h.l7 v _ k a (.inl rfl)
 .exact h.l7 v o k d (.inr ⟨e,by omega⟩)
theorem YG{G:GT}{c:Ctx}{H H':U}{w:World}{v:Nat}{ob:Ob}{L:Loc}(h:gf G c H w)(b:xZ H v ob H')(u k:Nat)(l:Loc)(a:c.ι u k=some l):(c.set v ob.gen L).ι u k=some l:=by
 rw[Ctx.u6]
 .exact a
 .rintro⟨rfl,rfl⟩;rw[YF h b _ (Nat.le_refl _)]at a;cases a
theorem M3{G:GT}{c:Ctx}{H H':U}{w w':World}{v:Nat}{ob:Ob}(h:gf G c H w)(d:xZ H v ob H')(hg:jJ w w')(L:Loc)
  (f:L.jr=false->w.heap.size<=L.b/\L.b<w'.heap.size):Step H.length c H w (c.set v ob.gen L) H' w' where
 os:=hg.os
 tape:=hg.tape
 output:=hg.output
 size:=hg.size
 RT:=rfl
 Fm _ h:=h
 Fn _ h:=.inl h
 kept b hb _:=hg.kept b hb
 old u k l _ fM:=YG h d u k l fM
 own b hb:=by
  obtain⟨u,l,hl,a,e⟩:=hb;rcases Dw d hl with⟨_,rfl⟩|⟨_,hl⟩
  .exact .inl (e▸(f a).1)
  .exact .inr ⟨u,l,hl,a,e⟩
theorem Rz{G:GT}{c:Ctx}{H H':U}{w w':World}{v:Nat}{ob:Ob}(h:gf G c H w)(f:xZ H v ob H')(hg:jJ w w')(L:Loc)
  (n:L.jr=false->w.heap.size<=L.b/\L.b<w'.heap.size) (I:ob.alive=true) (J:gK (c.set v ob.gen L) w' (some L) ob):gf G (c.set v ob.gen L) H' w':=by
 have hs:=M3 h f hg L n;have x:∀u d,fF c w u d->fF (c.set v ob.gen L) w' u d:=λu d r=>r.pc h.toHeapOK hs;have p:∀u l,lB c H u l->l.jr=false->l.b<w.heap.size:=λu l hl j=>h.lt _ ⟨u,l,hl,j,rfl⟩
 have K:v<H'.length:=by have:=f.get v;rw[if_pos rfl]at this;exact(ae.1 this).1
 exact{
  inj:=by
   intro u B l C h1 F t s E;rcases Dw f h1 with⟨rfl,rfl⟩|⟨_,b⟩<;>rcases Dw f F with⟨rfl,rfl⟩|⟨_,z⟩
   .rfl
   .have:=(n t).1;have:=p _ _ z s;omega
   .have:=(n s).1;have:=p _ _ b t;omega
   .exact h.inj u B l C b z t s E
  lt:=λb m=>by
   obtain⟨u,l,hl,j,e⟩:=m;rcases Dw f hl with⟨_,rfl⟩|⟨_,hl⟩
   .exact e▸(n j).2
   .exact e▸aK (p u l hl j) hg.size
  nF:=λb m y=>by
   obtain⟨u,l,hl,j,e⟩:=m;rcases Dw f hl with⟨_,rfl⟩|⟨_,hl⟩
   .have:=h.ki b y;have:=(n j).1;omega
   .exact h.nF b ⟨u,l,hl,j,e⟩ y
  ki:=λb m=>aK (h.ki b m) hg.size
  out:=λu k D=>by rw[Ctx.u6 _ _ (by rintro⟨rfl,_⟩;omega)];exact h.out u k (Nat.le_trans f.len D)
  l7:=λu o k i q=>by
   rw[f.get]at i;split at i
   .rename_i e;cases i;subst e;rcases q with rfl|⟨_,q⟩
    .cases I
    .rw[Ctx.u6 _ _ (by rintro⟨_,rfl⟩;omega)];exact YF h f k (by omega)
   .rename_i e;rw[Ctx.u6 _ _ (λh=>e h.1)];exact h.l7 u o k i q
  ob:=λu o i=>by
   rw[f.get]at i;split at i
   .rename_i e;cases i;subst e;rw[Ctx.rE];exact J
   .rename_i e;rw[Ctx.u6 _ _ (λh=>e h.1)];exact gK.keep (c:=c) (c':=c.set v ob.gen L) rfl x (λl hl j r=>hg.kept _ (p u l ⟨o,i,r,hl⟩ j)) (h.ob u o i)
  gl:=λg cs A=>let ⟨a,b⟩:=h.gl g cs A;⟨a,x _ _ b⟩
  rt:=h.rt }
structure Cells(c:Ctx)(w:World)(vs:List Value)(cs:List D):Prop where
 len:vs.length=cs.length
 one:∀v∈vs,v.oneCell'=true
 rep:∀(i:Nat) (v:Value) (d:D),vs[i]? = some v->cs[i]? = some d->fF c w v d
theorem C8{G:GT}{c:Ctx}{H H':U}{v gen:Nat}{w:World}(h:gf G c H w)(b:World)(hg:jJ w b)(t:TypeId)(vs:List Value)(cs:List D)(n:Nat)(a:Array Value)
  (m:xZ H v (.row t gen cs) H') (g:Cells c w vs cs) (j:a.toList.take n=vs) (q:n<=a.size) :
  ∃L:Loc,L.jr=false/\L.b=b.heap.size/\L.base=0/\L.top=a.size /\
   gf G (c.set v gen L) H' (b.alloc (.cells a t))/\Step H.length c H w (c.set v gen L) H' (b.alloc (.cells a t)):=by
 have l:=hg.trans (jJ.alloc b (.cells a t));refine⟨⟨b.heap.size,0,a.size,false⟩,rfl,rfl,rfl,rfl,?_⟩;have o:(⟨b.heap.size,0,a.size,false⟩:Loc).jr=false->w.heap.size<=(⟨b.heap.size,0,a.size,false⟩:Loc).b/\(⟨b.heap.size,0,a.size,false⟩:Loc).b<(b.alloc (.cells a t)).heap.size:=λ_=>⟨hg.size,by simp⟩;have hs:=M3 h m l ⟨b.heap.size,0,a.size,false⟩ o;refine⟨Rz h m l _ o rfl ?_,hs⟩;have p:∀u d,fF c w u d->fF (c.set v gen ⟨b.heap.size,0,a.size,false⟩) (b.alloc (.cells a t)) u d:=λu d f=>f.pc h.toHeapOK hs;have e:cs.length=n:=by rw[<-g.len,<-j];simp;omega
 simp only[gK,Ob.gen];refine⟨a,heap_alloc_new _ _,rfl,by simp;omega,λi d f=>?_⟩;have hi:i<cs.length:=(ae.1 f).1;have k:i<a.size:=by omega
 refine⟨a[i],by simp[k],?_,?_⟩
 .exact g.one _ (by rw[<-j];exact List.mem_of_getElem? (i:=i) (by rw[aC];simp[e▸hi,k]))
 .exact p _ _ (g.rep i _ d (by rw[<-j,aC];simp[e▸hi,k]) f)
theorem rD{H:U}{v:Nat}{ob:Ob}(a:v<H.length)(u:Nat):(H.set v ob)[u]? = if u=v then some ob else H[u]? := by
 rw[bM];split
 .rename_i e;subst e;simp[a]
 .rename_i e;rw[if_neg (cF e)]
theorem akP{c:Ctx}{H:U}{v:Nat}{ob ob':Ob}(b:H[v]? = some ob)(f:ob.alive=true)(hg:ob'.gen=ob.gen){u:Nat}{l:Loc}(h:lB c (H.set v ob') u l):lB c H u l:=by
 obtain⟨o,a,g,d⟩:=h;rw[rD (ae.1 b).1]at a;split at a
 .rename_i e;cases a;subst e;exact⟨ob,b,f,by rw[<-hg];exact d⟩
 .exact⟨o,a,g,d⟩
theorem YY{G:GT}{c:Ctx}{H:U}{w:World}(h:gf G c H w){v:Nat}{ob ob':Ob}(j:H[v]? = some ob)(s:ob.alive=true)(I:ob'.alive=true)(A:ob'.gen=ob.gen){L:Loc}(z:c.ι v ob.gen=some L)(y:L.jr=false)
  {w':World} (J:w'.os=w.os/\w.drawn<=w'.drawn) (T:w'.tape=w.tape) (K:w'.output=w.output) (C:w'.heap.size=w.heap.size)
  (x:∀b,b≠L.b->w'.heap[b]? = w.heap[b]?) (S:(∀u d,fF c w u d->fF c w' u d)->gK c w' (some L) ob') :
  gf G c (H.set v ob') w'/\Step H.length c H w c (H.set v ob') w':=by
 have B:lB c H v L:=⟨ob,j,s,z⟩;have E:lN c H L.b:=⟨v,L,B,y,rfl⟩;have t:∀u l,lB c (H.set v ob') u l->lB c H u l:=λu l hl=>akP j s A hl;have m:∀b,lN c (H.set v ob') b->lN c H b:=λb ⟨u,l,hl,r⟩=>⟨u,l,t u l hl,r⟩
 have hs:Step H.length c H w c (H.set v ob') w':=
  ⟨J,T,K,by omega,rfl,λ_ h=>h,λ_ h=>.inl h,λb _ P=>x b (λe=>P (e▸E)),λ_ _ _ _ h=>h,λb i=>.inr (m b i)⟩
 have n:∀u d,fF c w u d->fF c w' u d:=λu d q=>q.pc h.toHeapOK hs
 refine⟨{
  inj:=λu F l N h1 Q=>h.inj u F l N (t _ _ h1) (t _ _ Q)
  lt:=λb i=>by rw[C];exact h.lt b (m b i)
  nF:=λb i=>h.nF b (m b i)
  ki:=λb i=>by rw[C];exact h.ki b i
  out:=λu k O=>h.out u k (by simpa using O)
  l7:=λu o k f p=>by
   rw[rD (ae.1 j).1]at f;split at f
   .rename_i e;cases f;subst e;rcases p with rfl|⟨_,p⟩
    .cases I
    .exact h.l7 u ob k j (.inr ⟨s,by omega⟩)
   .exact h.l7 u o k f p
  ob:=λu o f=>by
   rw[rD (ae.1 j).1]at f;split at f
   .rename_i e;cases f;subst e;rw[A,z];exact S n
   .rename_i R;exact(h.ob u o f).keep rfl n λl hl M q=>x _ λe=>R (h.inj u v l L ⟨o,f,q,hl⟩ B M y e)
  gl:=λg cs D=>let ⟨a,b⟩:=h.gl g cs D;⟨a,n _ _ b⟩
  rt:=h.rt },hs⟩
theorem DB{G:GT}{c:Ctx}{H:U}{w:World}(h:gf G c H w){v g:Nat}{t:TypeId}{cs:List D}(q:H[v]? = some (.row t g cs)){L:Loc}(A:c.ι v g=some L)(k:L.jr=false)
  {a:Array Value} (m:w.heap[L.b]? = some (.cells a t (0,0))) (e:Array Value) (p:e.size=a.size) (n:L.top=a.size) (f:List D) (j:L.base+f.length<=L.top)
  (y:∀(i:Nat) (d:D),f[i]? = some d->∃u,e[L.base+i]? = some u/\u.oneCell'=true/\fF c w u d) :
  gf G c (H.set v (.row t g f)) (w.setRow L.b e)/\Step H.length c H w c (H.set v (.row t g f)) (w.setRow L.b e):=by
 refine YY (w':=w.setRow L.b e) (ob':=.row t g f) h q rfl rfl rfl A k ⟨rfl,Nat.le_refl _⟩ rfl rfl (by simp[World.setRow]) (λb z=>by simp only[World.setRow,aX];rw[if_neg (cF z)]) λr=>?_;simp only[gK,k];refine⟨e,setRow_heap w L.b a _ t _ m,by rw[n,p],j,λi d s=>?_⟩;obtain⟨x,l,o,B⟩:=y i d s;exact⟨x,l,o,r _ _ B⟩
def sD:Value->D
 | .slice none 0 0=>.fJ
 | v=>.val v
def Kv:Value->Option D
 | .slice none 0 0=>some .fJ
 | .agg cs=>if cs.all (·.oneCell')then some (.agg (cs.toList.map sD))else none
 | .tuple _=>none
 | v=>some (.val v)
def cX(G:GT):Operand->Option X
 | .tmp t=>some (.t t)
 | .const v=>(Kv v).map .c
 | .global g=>(G g).map λcs=>.c (.fV cs)
 | .func f=>some (.c (.fn (.func f) [] []))
def wI(G:GT):List Operand->Option (List X)
 | []=>some []
 | x::r=>match cX G x,wI G r with
  | some a,some l=>some (a::l)
  | _,_=>none
def ya(G:GT):List (Nat×Operand)->Option (List (Nat×X))
 | []=>some []
 | (i,x)::r=>match cX G x,ya G r with
  | some a,some l=>some ((i,a)::l)
  | _,_=>none
def rj(G:GT):Option Operand->Option (Option X)
 | none=>some none
 | some x=>(cX G x).map some
def jU(P:Program)(t:TypeId):Option Nat:=(P.info? t).map (·.size)
def qb(P:Program)(t:TypeId):Option (List D):=match (P.info? t).bind (·.zero)with
 | some z=>if z.cells.all (·.oneCell')then some (z.cells.toList.map sD)else none
 | none=>none
def oj(P:Program)(t:TypeId):Option Bool:=match P.underlying t with
 | some (.struct _)|some (.array _ _)=>some true
 | some _=>some false
 | none=>none
def V4(P:Program)(t:TypeId):Bool:=match P.underlying t with
 | some (.int _)|some .string|some .bool=>true
 | _=>false
def Ke(P:Program)(t:TypeId):Bool:=match P.underlying t with
 | some .bool=>true
 | _=>false
def xm(P:Program)(t:TypeId):Option mg:=match P.underlying t with
 | some (.int _)=>some .int
 | some .string=>some .str
 | some .bool=>some .bool
 | _=>none
def KP(P:Program):Nat->List Field->Option (List mg)
 | _,[]=>some []
 | i,f::r=>match xm P f.type,KP P (i+1) r with
  | some l,some ls=>if f.offset=i/\f.name≠ "_" then some (l::ls)else none
  | _,_=>none
def KQ(P:Program)(t:TypeId):Option (List mg):=match P.underlying t with
 | some (.struct fs)=>if P.stoodInHeld t=false/\P.eqGuardType P.depth t=false then KP P 0 fs.toList else none
 | some (.array n e)=>if P.eqGuardType P.depth t=false/\P.cellsOf e=1/\(P.info? e).isSome=true then(xm P e).map (List.replicate n)else none
 | _=>none
def Gk(P:Program)(fs:Array Field):List (Nat×X)->Option (List (Nat×Nat×X))
 | []=>some []
 | (i,x)::r=>match fs[i]?,Gk P fs r with
  | some f,some l=>(jU P f.type).map λn=>(f.offset,n,x)::l
  | _,_=>none
def Uf(P:Program)(fs:Array Field):Bool:=fs.all λf=>(jU P f.type).isSome
def rT(P:Program)(f:FuncId):Bool:=match P.funcs[f]? with
 | some fn=>fn.name != "runtime.NumGoroutine" && fn.body.isSome
 | none=>false
def AW(P:Program):Nat->List Field->Option (List IntKind)
 | _,[]=>some []
 | i,f::r=>match P.underlying f.type,AW P (i+1) r with
  | some (.int k),some ks=>if f.offset=i/\f.name≠ "_" then some (k::ks)else none
  | _,_=>none
def tK(P:Program)(t:TypeId):Option KK:=match P.underlying t with
 | some (.struct fs)=>if P.stoodInHeld t=false then(AW P 0 fs.toList).map .ints else none
 | some (.int k)=>some (.int k)
 | some .string=>some .str
 | some .bool=>some .bool
 | _=>none
def DC(P:Program)(t:TypeId):Option D:=(P.info? t).bind λi=>i.zero.bind Kv
def mQ(P:Program)(G:GT)(o:Oper):Option iu:=
 match o.op with
 | .move x=>do let a <-cX G x;pure (.mv a)
 | .assign x=>do let a <-cX G x;pure (.mv a)
 | .pick c a b=>do pure (.pick (<-cX G c) (<-cX G a) (<-cX G b))
 | .box e x=>do pure (.box e (<-cX G x))
 | .alloc e=>do pure (.alloc e (<-qb P e))
 | .build t ps=>do
  let z <-qb P t
  let l <-ya G ps.toList
  match P.underlying t with
  | some (.struct fs)=>if Uf P fs then do pure (.build z (<-Gk P fs l))else none
  | some (.array _ e)=>do
   let sz <-jU P e
   pure (.build z (l.map λp=>(p.1*sz,sz,p.2)))
  | _=>none
 | .buildSlice t n ps=>do
  let .slice e <-P.underlying t|none
  let z <-qb P e
  let sz <-jU P e
  let l <-ya G ps.toList
  if z.length=sz/\0<sz/\n*sz<=16777216 then pure (.buildSl e sz z n l)else none
 | .load t a=>do
  let x <-cX G a
  let n <-jU P t
  if <-oj P t then pure (.ldN n x)else pure (.ld1 x)
 | .store t a v=>do
  let x <-cX G a
  let y <-cX G v
  let n <-jU P t
  if <-oj P t then pure (.stN n x y)else if n=1 then pure (.st1 x y)else none
 | .nilCheck x=>do pure (.nilck (<-cX G x))
 | .binOp op t x y _=>do
  let a <-cX G x
  let b <-cX G y
  match op with
  | .eql=>if Ke P t then pure (.eqS false [.bool] false a b)else if V4 P t then pure (.arith .eql a b)else do pure (.eqS true (<-KQ P t) false a b)
  | .neq=>if Ke P t then pure (.eqS false [.bool] true a b)else if V4 P t then pure (.arith .neq a b)else do pure (.eqS true (<-KQ P t) true a b)
  | op=>pure (.arith op a b)
 | .unOp op _ x=>do pure (.un op (<-cX G x))
 | .convert s d x=>do
  let a <-cX G x
  let _ <-P.underlying s
  match P.underlying d with
  | some (.int k)=>pure (.conv k a)
  | some .string=>do
   let .slice e <-P.underlying s|none
   let .int .u8 <-P.underlying e|none
   pure (.b2s a)
  | _=>none
 | .makeFunc f first cap=>do pure (.mkfn f (<-wI G first.toList) (<-wI G cap.toList))
 | .makeMap t none=>do
  let .map k _ <-P.underlying t|none
  pure (.mkmap (<-tK P k))
 | .lookup t x i ok=>do
  let .map k e <-P.underlying t|none
  let z <-DC P e
  pure (.lookup (<-tK P k) z ok (<-cX G x) (<-cX G i))
 | .mapUpdate t m k v=>do
  let .map kt _ <-P.underlying t|none
  pure (.mapUpd (<-tK P kt) (<-cX G m) (<-cX G k) (<-cX G v))
 | .insert t m k v=>do
  let .map kt _ <-P.underlying t|none
  pure (.mapUpd (<-tK P kt) (<-cX G m) (<-cX G k) (<-cX G v))
 | .makeSlice t l c=>do
  let .slice e <-P.underlying t|none
  let z <-qb P e
  let i <-P.info? e
  if z.length=i.size/\0<i.size then pure (.mksl e i.size i.bytes z (<-cX G l) (<-cX G c))else none
 | .slice t x lo hi none=>do
  let a <-cX G x
  let l <-rj G lo
  let h <-rj G hi
  match P.underlying t with
  | some (.slice e)=>do pure (.slc (<-jU P e) a l h)
  | some .string=>pure (.slcS a l h)
  | some (.array n e)=>do pure (.slcArr (<-jU P e) n a l h)
  | _=>none
 | .slice t x lo (some hi) (some mx)=>do
  let a <-cX G x
  let l <-rj G lo
  let h <-cX G hi
  let m <-cX G mx
  let .slice e <-P.underlying t|none
  pure (.slc3 (<-jU P e) a l h m)
 | .fieldAddr t x f=>do
  let a <-cX G x
  let .struct fs <-P.underlying t|none
  let g <-fs[f]?
  let n <-jU P g.type
  if 0<n then pure (.fieldA g.offset a)else none
 | .field t x f=>do
  let a <-cX G x
  let .struct fs <-P.underlying t|none
  let g <-fs[f]?
  let n <-jU P g.type
  pure (.field g.offset n (<-oj P g.type) a)
 | .indexAddr t x i=>do
  let a <-cX G x
  let j <-cX G i
  match P.underlying t with
  | some (.slice e)=>do
   let n <-jU P e
   if 0<n then pure (.idxA n a j)else none
  | some (.array n e)=>do pure (.idxArr (<-jU P e) n a j)
  | _=>none
 | .index t x i=>do
  let a <-cX G x
  let j <-cX G i
  match P.underlying t with
  | some (.array n e)=>do pure (.idx (<-jU P e) n (<-oj P e) a j)
  | some .string=>pure (.idxStr a j)
  | _=>none
 | .extract x i=>do pure (.ext (<-cX G x) i)
 | .call c=>do
  let args <-wI G c.args.toList
  match c.callee with
  | .value (.func f)=>if rT P f then pure (if G.nw f then .callN f args else .call f args)else none
  | .value f=>do pure (.callv (<-cX G f) args)
  | .builtin .append=>match c.argTypes.toList,args with
   | [t,u],[x,y]=>do
    let .slice e <-P.underlying t|none
    let i <-P.info? e
    let z <-qb P e
    let .slice _ <-P.underlying u|none
    if z.length=i.size/\0<i.size then pure (.app e i.size i.bytes x y)else none
   | _,_=>none
  | .builtin .copy=>match c.argTypes.toList,args with
   | [t,u],[x,y]=>do
    let .slice e <-P.underlying t|none
    let .slice _ <-P.underlying u|none
    let n <-jU P e
    if 0<n then pure (.copy n x y)else none
   | _,_=>none
  | .builtin .len=>match c.argTypes.toList,args with
   | [t],[x]=>match P.underlying t with
    | some (.slice _)=>pure (.len .slice x)
    | some .string=>pure (.len .string x)
    | some (.map _ _)=>pure (.len .map x)
    | _=>none
   | _,_=>none
  | .builtin .max=>pure (.minmax true args)
  | .builtin .min=>pure (.minmax false args)
  | _=>none
 | _=>none
end Go.AL
namespace Go.AL
open Go
def kq(c:Ctx)(w:World)(env:gD)(a:Act):Prop:=∀k,fF c w (a.tmps.getD k undef) (env k)
def iJ(G:GT)(c:Ctx)(H:U)(w:World)(K:ji)(v:Value)(w':World):Prop:=
 ∃d H' c',K d H'/\gf G c' H' w'/\fF c' w' v d/\Step H.length c H w c' H' w'
section
variable{P:Program}{G:GT}{c:Ctx}{H:U}{w:World}{K:ji}{env:gD}{a:Act}
theorem iJ.plain(h:gf G c H w){v:Value}{d:D}(b:K d H)(a:fF c w v d):iJ G c H w K v w:=
 ⟨d,H,c,b,h,a,Step.refl _ _ _ _⟩
theorem XS(v:Value):fF c w v (sD v):=by
 unfold sD;split
 .exact .fJ
 .exact .val _
theorem Q0{v:Value}{d:D}(h:Kv v=some d):fF c w v d:=by
 unfold Kv at h;split at h
 .cases h;exact .fJ
 .rename_i cs;split at h
  .rename_i e;cases h
   have:=fF.agg (c:=c) (w:=w) cs.toList (cs.toList.map sD) (by simp) (λv a=>by
    have:=cu.1 e v (by simpa using a)
    exact this) (λi v d a b=>by
    simp only[ar,a,aD,ao]at b;subst b
    exact XS v)
   simpa using this
  .cases h
 .cases h
 .cases h;exact .val _
theorem iv(h:gf G c H w)(i:kq c w env a){x:Operand}{X:X}(b:cX G x=some X):fF c w (a.eval x) (ev env X):=by
 cases x with
 | tmp t=>cases b;exact i t
 | const v=>
  simp only[cX,aj]at b;obtain⟨d,j,rfl⟩:=b;exact Q0 j
 | global g=>
  simp only[cX,aj]at b;obtain⟨cs,e,rfl⟩:=b;exact(h.gl g cs e).2
 | func f=>cases b;exact .fn (.func f) [] [] [] [] rfl rfl (by simp) (by simp)
theorem zH(h:gf G c H w)(b:kq c w env a):∀(l:List Operand) {xs:List X},wI G l=some xs->je c w (l.map a.eval) (xs.map (ev env))
 | [],xs,hx=>by cases hx;exact .nil
 | x::r,xs,hx=>by
  simp only[wI]at hx;split at hx
  .rename_i X l hX hl;cases hx;exact .cons (iv h b hX) (zH h b r hl)
  .cases hx
theorem je.length{vs:List Value}{ds:List D}(h:je c w vs ds):vs.length=ds.length:=by
 induction h with
 | nil=>rfl
 | cons _ _ a=>simp[a]
theorem je.get{vs:List Value}{ds:List D}(h:je c w vs ds):∀(i:Nat) (v:Value) (d:D),vs[i]? = some v->ds[i]? = some d->fF c w v d:=by
 induction h with
 | nil=>intro i v d a;simp at a
 | cons h _ e=>
  intro i v d a b
  cases i with
  | zero=>simp at a b;subst a;subst b;exact h
  | succ i=>simp at a b;exact e i v d a b
theorem je.append{vs us:List Value}{ds es:List D}(h:je c w vs ds)(k:je c w us es):je c w (vs++us) (ds++es):=by
 induction h with
 | nil=>exact k
 | cons h _ a=>exact .cons h a
theorem je.Ge:∀ {vs:List Value} {ds:List D},vs.length=ds.length->(∀(i:Nat) (v:Value) (d:D),vs[i]? = some v->ds[i]? = some d->fF c w v d)->je c w vs ds
 | [],[],_,_=>.nil
 | v::vs,d::ds,hl,h=>.cons (h 0 v d rfl rfl) (je.Ge (by simpa using hl) λi v d a b=>h (i+1) v d (by simpa using a) (by simpa using b))
theorem Cells.agg{vs:List Value}{cs:List D}(h:Cells c w vs cs):fF c w (.agg vs.toArray) (.agg cs):=.agg vs cs h.len h.one h.rep
theorem Cells.drop{vs:List Value}{cs:List D}(h:Cells c w vs cs)(n:Nat):Cells c w (vs.drop n) (cs.drop n):=
 ⟨by simp[h.len],λv a=>h.one v (bj a),λi v d a b=>h.rep (n+i) v d (by simpa using a) (by simpa using b)⟩
theorem Cells.take{vs:List Value}{cs:List D}(h:Cells c w vs cs)(n:Nat):Cells c w (vs.take n) (cs.take n):=
 ⟨by simp[h.len],λv a=>h.one v (aN a),λi v d a b=>by
  rw[aC]at a b;split at a
  .rename_i hi;rw[if_pos hi]at b;exact h.rep i v d a b
  .cases a⟩
theorem Cells.append{vs us:List Value}{cs ds:List D}(h:Cells c w vs cs)(k:Cells c w us ds):Cells c w (vs++us) (cs++ds):=
 ⟨by simp[h.len,k.len],λv a=>by
  rcases List.mem_append.1 a with a|a
  .exact h.one v a
  .exact k.one v a,λi v d a b=>by
  rw[List.getElem?_append]at a b;split at a
  .rename_i hi;rw[if_pos (by rw[<-h.len];exact hi)]at b;exact h.rep i v d a b
  .rename_i hi;rw[if_neg (by rw[<-h.len];exact hi)]at b;rw[<-h.len]at b;exact k.rep _ v d a b⟩
theorem Cells.nil:Cells c w [] []:=⟨rfl,by simp,by simp⟩
theorem Cells.get{vs:List Value}{cs:List D}(h:Cells c w vs cs){i:Nat}{d:D}(a:cs[i]? = some d):∃v,vs[i]? = some v/\v.oneCell'=true/\fF c w v d:=by
 have hi:i<vs.length:=by rw[h.len];exact(ae.1 a).1
 exact⟨vs[i],by simp[hi],h.one _ (bK hi),h.rep i _ d (by simp[hi]) a⟩
def tj(c:Ctx)(w:World)(b o:Nat)(cs:List D):Prop:=∃vs,Cells c w vs cs/\∀(j:Nat) (v:Value),vs[j]? = some v->w.cell? ⟨b,o+j,none⟩=some v
theorem tj.drop{b o:Nat}{cs:List D}(h:tj c w b o cs)(n:Nat):tj c w b (o+n) (cs.drop n):=by obtain⟨vs,e,d⟩:=h;exact⟨vs.drop n,e.drop n,λj v a=>by rw[aH]at a;have:=d _ _ a;rwa [aW]⟩
theorem tj.take{b o:Nat}{cs:List D}(h:tj c w b o cs)(n:Nat):tj c w b o (cs.take n):=by
 obtain⟨vs,e,d⟩:=h;refine⟨vs.take n,e.take n,λj v a=>?_⟩;rw[aC]at a;split at a
 .exact d _ _ a
 .cases a
theorem xD(h:gf G c H w){v g:Nat}{t:TypeId}{cs:List D}(j:H[v]? = some (.row t g cs)){L:Loc}(r:c.ι v g=some L)(p:L.jr=false) :
  ∃a:Array Value,w.heap[L.b]? = some (.cells a t (0,0))/\L.top=a.size/\L.base+cs.length<=L.top/\Cells c w ((a.toList.drop L.base).take cs.length) cs:=by
 have h0:=h.ob v _ j;simp only[Ob.gen]at h0;rw[r]at h0;simp only[gK,p]at h0;obtain⟨a,h1,o,n,f⟩:=h0;refine⟨a,h1,o,n,⟨by simp;omega,λu b=>?_,λi u d b k=>?_⟩⟩
 .obtain⟨i,hi⟩:=aA.1 b;rw[aC]at hi;split at hi
  .rename_i q;rw[aH]at hi;obtain⟨x,e,m,_⟩:=f i cs[i] (by simp[q]);have:a[L.base+i]? = some u:=by simpa using hi
   rw[e]at this;cases this;exact m
  .cases hi
 .rw[aC]at b;split at b
  .rw[aH]at b;obtain⟨x,e,_,l⟩:=f i d k;have:a[L.base+i]? = some u:=by simpa using b
   rw[e]at this;cases this;exact l
  .cases b
theorem Kk(h:gf G c H w){v g o:Nat}{t:TypeId}{cs:List D}(d:H[v]? = some (.row t g cs)){u:Value}(e:fF c w u (.ptr v g o)) :
  ∃b p,u = .pointer (some ⟨b,p,none⟩)/\tj c w b p (cs.drop o):=by
 cases e with
 | ptr _ _ _ L k i=>
  obtain⟨l,h1,n,m,f⟩:=xD h d k i;refine⟨L.b,L.base+o,rfl,?_⟩;refine tj.drop ⟨_,f,λj x a=>?_⟩ o;rw[aC]at a;split at a
  .rw[aH]at a;simp[World.cell?,h1];simpa using a
  .cases a
theorem yd{u:Value}{cs:List D}(h:fF c w u (.fV cs)):∃b p,u = .pointer (some ⟨b,p,none⟩)/\c.F b/\tj c w b p cs:=by
 cases h with
 | fV b o _ g m l h=>
  refine⟨b,o,rfl,m,(List.range cs.length).map g,⟨by simp,λv a=>?_,λi v d a k=>?_⟩,λj v a=>?_⟩
  .simp only[aq,a8]at a;obtain⟨j,f,rfl⟩:=a;exact(l j cs[j] (by simp[f])).2
  .simp only[ar,aj,bE (ae.1 k).1]at a;obtain⟨_,e,rfl⟩:=a;cases e;exact h i d k
  .have f:j<cs.length:=by have:=(ae.1 a).1;simpa using this
   simp only[ar,bE f,aD,ao]at a;subst a;exact(l j cs[j] (by simp[f])).1
theorem Oh{b o:Nat}{cs:List D}(i:c.F b)(h:tj c w b o cs):fF c w (.pointer (some ⟨b,o,none⟩)) (.fV cs):=by
 obtain⟨vs,f,g⟩:=h;refine .fV b o cs (λj=>vs.getD j undef) i (λj d e=>?_) (λj d e=>?_)
 .obtain⟨u,a,h1,_⟩:=f.get e;simp only[List.getD,a,aP];exact⟨g j u a,h1⟩
 .obtain⟨u,a,_,h1⟩:=f.get e;simp only[List.getD,a,aP];exact h1
theorem Bo{t:TypeId}{b:Bool}(h:oj P t=some b)(w:World):(isAgg t).run P w = .ok b w:=by
 unfold oj at h;unfold isAgg
 cases a:P.underlying t with
 | none=>simp[a]at h
 | some d=>cases d<;>simp[a]at h<;>subst h<;>simp[run_underlying a]
theorem pZ{t:TypeId}{n:Nat}(h:jU P t=some n)(w:World):(sizeOf t).run P w = .ok n w:=by simp only[jU,aj]at h;obtain⟨i,hi,rfl⟩:=h;simp[sizeOf,typeInfo,hi]
theorem run_typeInfo{t:TypeId}{i:TypeInfo}(h:P.info? t=some i)(w:World):(typeInfo t).run P w = .ok i w:=by simp[typeInfo,h]
theorem zk{t:TypeId}{z:List D}(h:qb P t=some z)(w:World):∃v:Value,(zeroValue t).run P w = .ok v w/\(P.info? t).bind (·.zero)=some v /\
  ∀c w,Cells c w v.cells.toList z:=by
 unfold qb at h
 cases hi:P.info? t with
 | none=>simp[hi]at h
 | some i=>
  simp only[hi,Option.bind_some]at h
  cases a:i.zero with
  | none=>simp[a]at h
  | some v=>
   simp only[a]at h;split at h
   .rename_i f;cases h;refine⟨v,by simp[zeroValue,run_typeInfo hi,a],by simp[a],λc w=>⟨by simp,λu b=>?_,λi u d b e=>?_⟩⟩
    .exact cu.1 f u (by simpa using b)
    .simp only[ar,b,aD,ao]at e;subst e;exact XS u
   .cases h
theorem MK{t:TypeId}(i:oj P t=some false){b o:Nat}{cs:List D}(h:tj c w b o cs){d:D}(g:cs[0]? = some d) :
  ∃u,(Instr.loadAt t (.pointer (some ⟨b,o,none⟩))).run P w = .ok u w/\u.oneCell'=true/\fF c w u d:=by
 obtain⟨vs,a,e⟩:=h;obtain⟨u,f,h1,j⟩:=a.get g;have:=e 0 u f;exact⟨u,by simp[Instr.loadAt,Instr.sureAddr,loadVar,Bo i];simp at this;simp[this],h1,j⟩
theorem ML{t:TypeId}{n:Nat}(g:oj P t=some true)(hs:jU P t=some n){b o:Nat}{cs:List D}(f:tj c w b o cs)(h:n<=cs.length) :
  ∃u,(Instr.loadAt t (.pointer (some ⟨b,o,none⟩))).run P w = .ok u w/\fF c w u (.agg (cs.take n)):=by
 obtain⟨vs,a,d⟩:=f.take n;have hl:vs.length=n:=by rw[a.len];simp;omega
 have:=run_loadCells_list (P:=P) w ⟨b,o,none⟩ vs (λj v e=>by rw[Addr.add_lit];exact d j v e);rw[hl]at this;exact⟨.agg vs.toArray,by simp[Instr.loadAt,Instr.sureAddr,loadVar,Bo g,pZ hs,this],a.agg⟩
theorem te{v g:Nat}{x:TypeId×List D}(h:rowAt H v g=some x):H[v]? = some (.row x.1 g x.2):=by
 unfold rowAt at h;split at h
 .split at h
  .rename_i e;subst e;cases h;assumption
  .cases h
 .cases h
theorem ajw(h:gf G c H w){t:TypeId}(l:oj P t=some false){x:D}{u:Value}(k:fF c w u x)(a:FV x H K) :
  ∃v,(Instr.loadAt t u).run P w = .ok v w/\iJ G c H w K v w:=by
 unfold FV at a;split at a
 .rename_i v g o;split at a
  .rename_i q cs n;have m:=te n;split at a
   .rename_i d f;obtain⟨b,p,rfl,i⟩:=Kk h m k;obtain⟨u,e,_,j⟩:=MK l i (d:=d) (by simpa using f);exact⟨u,e,.plain h a j⟩
   .exact a.elim
  .exact a.elim
 .rename_i cs;split at a
  .rename_i d f;obtain⟨b,p,rfl,_,i⟩:=yd k;obtain⟨u,e,_,j⟩:=MK l i f;exact⟨u,e,.plain h a j⟩
  .exact a.elim
 .exact a.elim
theorem ajx(h:gf G c H w){t:TypeId}{n:Nat}(j:oj P t=some true)(hs:jU P t=some n){x:D}{u:Value}(i:fF c w u x)(a:FX n x H K) :
  ∃v,(Instr.loadAt t u).run P w = .ok v w/\iJ G c H w K v w:=by
 unfold FX at a;split at a
 .rename_i v g o;split at a
  .rename_i m cs l;have k:=te l;obtain⟨b,p,rfl,e⟩:=Kk h k i;obtain⟨u,d,f⟩:=ML (n:=n) j hs e (by simp;omega);exact⟨u,d,.plain h a.2 f⟩
  .exact a.elim
 .rename_i cs;obtain⟨b,p,rfl,_,e⟩:=yd i;obtain⟨u,d,f⟩:=ML (n:=n) j hs e a.1;exact⟨u,d,.plain h a.2 f⟩
 .exact a.elim
theorem ajF(h:gf G c H w){x y z:D}{u v t:Value}(h1:fF c w u x)(e:fF c w v y)(d:fF c w t z)(a:Gj x y z H K) :
  ∃b,u = .bool b/\iJ G c H w K (if b then v else t) w:=by
 unfold Gj at a;split at a
 .rename_i b;cases h1;refine⟨b,rfl,.plain h a ?_⟩;cases b
  .exact d
  .exact e
 .exact a.elim
end
end Go.AL
namespace Go.AL
open Go
section
variable{P:Program}{G:GT}{c:Ctx}{H:U}{w:World}{K:ji}{env:gD}{a:Act}
theorem wrap_i64{n:Int}(h:nq n):IntKind.i64.wrap n=n:=by unfold nq at h;simp only[IntKind.wrap,IntKind.signed,IntKind.bits];simp;omega
theorem iJ.val(h:gf G c H w){v:Value}(a:K (.val v) H):iJ G c H w K v w:=.plain h a (.val _)
theorem ajd(h:gf G c H w){op:BinOp}{k:IntKind}{x y:Int}(a:D9 op k x y H K)(hs:op≠.shl/\op≠.shr)(t:TypeId)(xo b:Operand) :
  ∃v,(do eqGuard op t xo b (.int k x) (.int k y);binOp op t (.int k x) (.int k y)).run P w = .ok v w/\iJ G c H w K v w:=by
 have hg:(eqGuard op t xo b (.int k x) (.int k y)).run P w = .ok () w:=by cases op<;>simp[eqGuard]
 simp only[Sem.run_bind,hg,Result.andThen_ok];cases op<;>simp only[D9]at a
 case add=>
  by_cases e:k = .i64
  .subst e;simp only[if_true]at a;exact⟨_,by simp[binOp,Op.intArith,wrap_i64 a.1]<;>rfl,.val h a.2⟩
  .rw[if_neg e]at a;exact⟨_,by simp[binOp,Op.intArith]<;>rfl,.val h a⟩
 case sub=>
  by_cases e:k = .i64
  .subst e;simp only[if_true]at a;exact⟨_,by simp[binOp,Op.intArith,wrap_i64 a.1]<;>rfl,.val h a.2⟩
  .rw[if_neg e]at a;exact⟨_,by simp[binOp,Op.intArith]<;>rfl,.val h a⟩
 case mul=>
  by_cases e:k = .i64
  .subst e;simp only[if_true]at a;exact⟨_,by simp[binOp,Op.intArith,wrap_i64 a.1]<;>rfl,.val h a.2⟩
  .rw[if_neg e]at a;exact⟨_,by simp[binOp,Op.intArith]<;>rfl,.val h a⟩
 case quo=>exact⟨_,by simp[binOp,Op.intDiv,a.1]<;>rfl,.val h a.2⟩
 case rem=>exact⟨_,by simp[binOp,Op.intDiv,a.1]<;>rfl,.val h a.2⟩
 case and=>exact⟨_,by simp[binOp,Op.intBits]<;>rfl,.val h (by simpa[bits]using a)⟩
 case or=>exact⟨_,by simp[binOp,Op.intBits]<;>rfl,.val h (by simpa[bits]using a)⟩
 case xor=>exact⟨_,by simp[binOp,Op.intBits]<;>rfl,.val h (by simpa[bits]using a)⟩
 case andNot=>exact⟨_,by simp[binOp,Op.intBits]<;>rfl,.val h (by simpa[bits]using a)⟩
 case eql=>exact⟨_,by simp[binOp,Op.intCmp]<;>rfl,.val h a⟩
 case neq=>exact⟨_,by simp[binOp,Op.intCmp]<;>rfl,.val h a⟩
 case lss=>exact⟨_,by simp[binOp,Op.intCmp]<;>rfl,.val h a⟩
 case leq=>exact⟨_,by simp[binOp,Op.intCmp]<;>rfl,.val h a⟩
 case gtr=>exact⟨_,by simp[binOp,Op.intCmp]<;>rfl,.val h a⟩
 case geq=>exact⟨_,by simp[binOp,Op.intCmp]<;>rfl,.val h a⟩
 all_goals exact absurd rfl (by first|exact hs.1|exact hs.2)
theorem QI(h:gf G c H w){op:BinOp}{x y:D}{u v:Value}(h1:fF c w u x)(f:fF c w v y)(a:Eb op x y H K)(t:TypeId)(xo d:Operand) :
  ∃r,(do eqGuard op t xo d u v;binOp op t u v).run P w = .ok r w/\iJ G c H w K r w:=by
 unfold Eb at a;split at a
 .cases h1;cases f;split at a
  .have key:∀op,o9 op=true->op = .shl\/op = .shr:=λop g=>by cases op<;>simp[o9]at g<;>simp
   rename_i hs;rcases key op hs with rfl|rfl
   .simp only[GL]at a;have b:=a.1;exact⟨_,by simp[eqGuard,binOp,Op.shift,eN.2 b]<;>rfl,.val h a.2⟩
   .simp only[GL]at a;have b:=a.1;exact⟨_,by simp[eqGuard,binOp,Op.shift,eN.2 b]<;>rfl,.val h a.2⟩
  .rename_i hs;obtain⟨rfl,a⟩:=a;exact ajd h a ⟨λe=>by subst e;exact hs rfl,λe=>by subst e;exact hs rfl⟩ t xo d
 .cases h1;cases f;rename_i p q;cases op<;>simp only[MY]at a
  case add=>exact⟨.string (p++q),by simp[eqGuard,binOp,run_string_add_sum w p q (by have:=a.1;omega)],.val h a.2⟩
  case eql=>exact⟨_,by simp[eqGuard,binOp,Op.stringOp,ByteArray.toList_eq]<;>rfl,.val h (by simpa using a)⟩
  case neq=>exact⟨_,by simp[eqGuard,binOp,Op.stringOp,ByteArray.toList_eq]<;>rfl,.val h (by simpa using a)⟩
 .grind
theorem ajN(h:gf G c H w){op:UnOp}{x:D}{u:Value}(h1:fF c w u x)(a:G6 op x H K) :
  ∃r,(Op.unary op u).run P w = .ok r w/\iJ G c H w K r w:=by
 unfold G6 at a;split at a
 .cases h1;exact⟨_,by simp[Op.unary]<;>rfl,.val h a⟩
 .cases h1;rename_i n;have:(0-n) = -n:=by omega
  exact⟨_,by simp[Op.unary,Op.intArith,wrap_i64 a.1]<;>rfl,.val h a.2⟩
 .cases h1;exact⟨_,by simp[Op.unary,Op.intBits]<;>rfl,.val h (by simpa[bits]using a)⟩
 .grind
theorem BZ{d:D}{v:Value}{cs:List D}(r:fF c w v d)(j:cellsOf d=some cs):Cells c w v.cells.toList cs:=by
 have key:∀ {v:Value} {d:D},fF c w v d->v.oneCell'=true->v.cells = #[v]->Cells c w v.cells.toList [d]:=λ{v d} r h1 p=>by rw[p];exact⟨rfl,by simpa using h1,λi u e A B=>by grind⟩
 cases r with
 | any v=>simp[cellsOf]at j
 | val v=>
  simp only[cellsOf]at j;split at j
  .rename_i h1;cases j;refine key (.val v) h1 ?_;cases v<;>first|rfl|(simp[Value.oneCell']at h1)
  .cases j
 | agg vs ds hl h1 h=>
  simp only[cellsOf,ao]at j;subst j;exact⟨by simpa[Value.cells]using hl,by simpa[Value.cells]using h1,λi v d p s=>h i v d (by simpa[Value.cells]using p) s⟩
 | tup=>simp[cellsOf]at j
 | sl a len cap sz es g h1 l m n q x t=>simp only[cellsOf,ao]at j;subst j;exact key (.sl a len cap sz es g h1 l m n q x t) rfl rfl
 | fJ=>simp only[cellsOf,ao]at j;subst j;exact key .fJ rfl rfl
 | lD a vs h1 l m=>simp only[cellsOf,ao]at j;subst j;exact key (.lD a vs h1 l m) rfl rfl
 | fy v k sz off len cap L h1 l m n q=>simp only[cellsOf,ao]at j;subst j;exact key (.fy v k sz off len cap L h1 l m n q) rfl rfl
 | l3 v k sz off L h1 a=>simp only[cellsOf,ao]at j;subst j;exact key (.l3 v k sz off L h1 a) rfl rfl
 | ptr v k off L h1 l=>simp only[cellsOf,ao]at j;subst j;exact key (.ptr v k off L h1 l) rfl rfl
 | fV b o cs g h1 l m=>simp only[cellsOf,ao]at j;subst j;exact key (.fV b o cs g h1 l m) rfl rfl
 | gg v L h1 l=>simp only[cellsOf,ao]at j;subst j;exact key (.gg v L h1 l) rfl rfl
 | fn f fs cs y z h1 l m n=>simp only[cellsOf,ao]at j;subst j;exact key (.fn f fs cs y z h1 l m n) rfl rfl
 | iH v L h1 l=>simp only[cellsOf,ao]at j;subst j;exact key (.iH v L h1 l) rfl rfl
theorem ajO{d:D}(h:one d=true):cellsOf d=some [d]:=by
 cases d<;>first|rfl|(simp[one]at h;done)|skip
 rename_i v;simp only[one]at h;simp[cellsOf,h]
theorem aj0{L:Loc}(a:L.jr=false)(h0:L.base=0)(v g:Nat):fF (c.set v g L) w (.pointer (some ⟨L.b,0,none⟩)) (.ptr v g 0):=by have:=fF.ptr (c:=c.set v g L) (w:=w) v g 0 L (Ctx.rE _ _ _ _) a;simpa[h0]using this
theorem Xh(h:gf G c H w){al:Al}(j:mC H al)(t:TypeId){v:Value}{cs:List D}(d:Cells c w v.cells.toList cs)(b:K (.ptr al.1 0 0) (al.2 (.row t 0 cs))) :
  ∃w',(newVar t v).run P w = .ok ⟨w.heap.size,0,none⟩ w'/\iJ G c H w K (.pointer (some ⟨w.heap.size,0,none⟩)) w':=by
 obtain⟨L,h1,i,g,k,f,e⟩:=C8 h w (jJ.refl w) t v.cells.toList cs v.cells.size v.cells (j _).th d (by rw[<-cU,cQ]) (Nat.le_refl _);refine⟨w.alloc (.cells v.cells t),by simp[newVar,newRow],?_⟩;have a:=aj0 (c:=c) (w:=w.alloc (.cells v.cells t)) h1 g al.1 0;rw[i]at a;exact⟨_,_,_,b,f,a,e⟩
theorem ajf(h:gf G c H w){al:Al}(f:mC H al)(t:TypeId){x:D}{u:Value}(h1:fF c w u x)(a:Ed t x al K) :
  ∃r w',(Instr.box t u).run P w = .ok r w'/\iJ G c H w K r w':=by
 unfold Ed at a;split at a
 .rename_i cs b;obtain⟨w',d,e⟩:=Xh (P:=P) h f t (BZ h1 b) a;exact⟨_,w',by simp[Instr.box,d],e⟩
 .grind
theorem aja(h:gf G c H w){al:Al}(i:mC H al){t:TypeId}{z:List D}(a:qb P t=some z)(f:K (.ptr al.1 0 0) (al.2 (.row t 0 z))) :
  ∃r w',(Instr.alloc t true (.tuple #[])).run P w = .ok r w'/\iJ G c H w K r w':=by
 obtain⟨v,b,_,g⟩:=zk a w;obtain⟨w',d,e⟩:=Xh (P:=P) h i t (g c w) f;exact⟨_,w',by simp[Instr.alloc,b,d],e⟩
theorem Cells.rG{vs us:List Value}{cs ds:List D}(h:Cells c w vs cs)(k:Cells c w us ds)(o:Nat):Cells c w (vs.take o++us++vs.drop (o+us.length)) (cs.take o++ds++cs.drop (o+ds.length)):=by rw[k.len];exact((h.take o).append k).append (h.drop _)
theorem acF(l:List Value):∀(off:Nat) (cs:Array Value),off+l.length<=cs.size ->
  ((l.zipIdx off).foldl (λ(cs:Array Value) (x:Value×Nat)=>cs.setIfInBounds x.2 x.1) cs).toList=cs.toList.take off++l++cs.toList.drop (off+l.length):=by
 induction l with
 | nil=>intro off cs _;simp
 | cons v r a=>
  intro off cs h;simp only[aG]at h;simp only[List.zipIdx_cons,bW];rw[a (off+1) _ (by simp;omega)];simp only[Array.toList_setIfInBounds];have:=list_seg_step cs.toList off v r (by simp;omega);simpa[aW,da 1]using this
theorem acz(cs:Array Value)(l:Array Value)(off:Nat)(h:off+l.size<=cs.size) :
  (l.zipIdx.foldl (λ(cs:Array Value) (x:Value×Nat)=>match x with|(c,j)=>cs.setIfInBounds (off+j) c) cs).toList=cs.toList.take off++l.toList++cs.toList.drop (off+l.size):=by
 have:=acF l.toList off cs (by simpa using h);rw[<-Array.foldl_toList,Array.toList_zipIdx]
 have e:(l.toList.zipIdx off)=(l.toList.zipIdx 0).map λx=>(x.1,off+x.2):=by
  rw[List.zipIdx_eq_map_add]
  first|done|(simp only[da])
 rw[e,List.foldl_map]at this;exact this
theorem KY(a:Nat->Option (Nat×Nat)):∀(vs:List (Nat×Value)) (ps:List (Nat×Nat×List D)) (b:Array Value) (cs rs:List D),
  Cells c w b.toList cs->vs.length=ps.length ->
  (∀(i:Nat) (v:Nat×Value) (p:Nat×Nat×List D),vs[i]? = some v->ps[i]? = some p->a v.1=some (p.1,p.2.1)/\Cells c w v.2.cells.toList p.2.2) ->
  lay ps cs=some rs->∃e,Instr.fill a b vs=some e/\Cells c w e.toList rs
 | [],[],b,cs,rs,hc,_,_,hl=>by simp[lay]at hl;subst hl;exact⟨b,rfl,hc⟩
 | (i,v)::vs,(o,n,xs)::ps,b,cs,rs,hc,hlen,h,hl=>by
  obtain⟨d,j⟩:=h 0 (i,v) (o,n,xs) rfl rfl;simp only[lay]at hl;split at hl
  .rename_i g;have f:v.cells.size=n:=by rw[<-g.1,<-j.len];simp
   have l:o+v.cells.size<=b.size:=by rw[f];have:=hc.len;simp at this;omega
   simp only[Instr.fill,d];rw[if_neg (by simp;omega)];have k:=acz b v.cells o l;refine KY a vs ps _ _ rs ?_ (by simpa using hlen) (λi v p m d=>h (i+1) v p (by simpa using m) (by simpa using d)) hl;rw[k];have:=hc.rG j o;rw[g.1]at this;simpa[f]using this
  .cases hl
theorem Kf(h:gf G c H w)(e:kq c w env a):∀(l:List (Nat×Operand)) {ps:List (Nat×X)},ya G l=some ps ->
  ps.length=l.length/\∀(i:Nat) (x:Nat×Operand) (p:Nat×X),l[i]? = some x->ps[i]? = some p->p.1=x.1/\fF c w (a.eval x.2) (ev env p.2)
 | [],ps,hx=>by cases hx;simp
 | (i,x)::r,ps,hx=>by
  simp only[ya]at hx;split at hx
  .rename_i X l hX hl;cases hx;obtain⟨g,f⟩:=Kf h e r hl;refine⟨by simp[g],λj y p b d=>?_⟩
   cases j with
   | zero=>simp at b d;subst b;subst d;exact⟨rfl,iv h e hX⟩
   | succ j=>simp at b d;exact f j y p b d
  .cases hx
theorem Xv{fs:Array Field}:∀ {ps:List (Nat×X)} {a:List (Nat×Nat×X)},Gk P fs ps=some a ->
  a.length=ps.length/\∀(i:Nat) (p:Nat×X) (q:Nat×Nat×X),ps[i]? = some p->a[i]? = some q->q.2.2=p.2/\∃f,fs[p.1]? = some f/\q.1=f.offset/\jU P f.type=some q.2.1
 | [],a,h=>by cases h;simp
 | (i,x)::r,a,h=>by
  simp only[Gk]at h;split at h
  .rename_i f l k hl;simp only[aj]at h;obtain⟨n,g,rfl⟩:=h;obtain⟨e,d⟩:=Xv hl;refine⟨by simp[e],λj p q c b=>?_⟩
   cases j with
   | zero=>simp at c b;subst c;subst b;exact⟨rfl,f,k,rfl,g⟩
   | succ j=>simp at c b;exact d j p q c b
  .cases h
theorem QN{l:List (Nat×Nat×X)}{r:List (Nat×Nat×List D)}(h:partsOf env l=some r) :
  r.length=l.length/\∀(i:Nat) (p:Nat×Nat×X) (q:Nat×Nat×List D),l[i]? = some p->r[i]? = some q->q.1=p.1/\q.2.1=p.2.1/\cellsOf (ev env p.2.2)=some q.2.2:=by
 induction l generalizing r with
 | nil=>simp[partsOf]at h;subst h;simp
 | cons p l a=>
  obtain⟨o,n,x⟩:=p;simp only[partsOf]at h;split at h
  .grind
  .cases h
theorem K9{α:Type}{l:List α}{n i:Nat}(hl:l.length=n)(hi:i<n):∃x,l[i]? = some x:=⟨l[i],by simp[hl▸hi]⟩
theorem ajg(h:gf G c H w)(he:kq c w env a){t:TypeId}{z:List D}{ops:Array (Nat×Operand)}{ps:List (Nat×X)}{C:List (Nat×Nat×X)}{fs:Array Field}
  (V:qb P t=some z) (hp:ya G ops.toList=some ps) (Y:P.underlying t=some (.struct fs)) (hf:Uf P fs=true) (Z:Gk P fs ps=some C)
  (d:zF env z C H K):∃r,(Instr.build t (ops.map λ(i,x)=>(i,a.eval x))).run P w = .ok r w/\iJ G c H w K r w:=by
 unfold zF at d;split at d
 .rename_i l hl;split at d
  .rename_i cs U;obtain⟨v,W,_,hc⟩:=zk V w;obtain⟨j,Q⟩:=Kf h he ops.toList hp;obtain⟨q1,q2⟩:=Xv Z;obtain⟨O,N⟩:=QN hl
   have A:∃b:Array (Nat×Nat),(fs.mapM λf=>do pure (f.offset,<-sizeOf f.type):Sem (Array (Nat×Nat))).run P w = .ok b w/\∀(i:Nat) (f:Field) (n:Nat),fs[i]? = some f->jU P f.type=some n->b[i]? = some (f.offset,n):=by
    have key:∀(l:List Field),(∀f∈l,(jU P f.type).isSome=true)->∃pl:List (Nat×Nat),(l.mapM λf=>do pure (f.offset,<-sizeOf f.type):Sem (List (Nat×Nat))).run P w = .ok pl w/\∀(i:Nat) (f:Field) (n:Nat),l[i]? = some f->jU P f.type=some n->pl[i]? = some (f.offset,n):=by
     intro l
     induction l with
     | nil=>intro _;exact⟨[],by simp,by simp⟩
     | cons f l T=>
      intro E;obtain⟨pl,e,k⟩:=T (λg hg=>E g (by simp[hg]));obtain⟨n,o⟩:=cS.1 (E f (by simp));refine⟨(f.offset,n)::pl,?_,λi g m hg hm=>?_⟩
      .simp only[et,Sem.run_bind,pZ o,Result.andThen_ok,Sem.run_pure,e]
      .grind
    obtain⟨pl,e,k⟩:=key fs.toList (λf u=>cu.1 hf f (by simpa using u));refine⟨pl.toArray,?_,λi f n hi o=>by simpa using k i f n (by simpa using hi) o⟩;rw[eO,Sem.run_map,e];rfl
   obtain⟨b,e,k⟩:=A
   obtain⟨R,M,S⟩:=KY (c:=c) (w:=w) (b[·]?) (ops.toList.map λx=>(x.1,a.eval x.2)) l v.cells z cs (hc c w) (by simp[O,q1,j]) (λi x q I Fw=>by
    simp only[ar,aj]at I;obtain⟨y,F,rfl⟩:=I;have hi:i<ops.toList.length:=(ae.1 F).1;obtain⟨p,B⟩:=K9 j hi;obtain⟨s,L⟩:=K9 (q1.trans j) hi;obtain⟨e1,e2⟩:=Q i y p F B;obtain⟨e3,f,uD,a1,a0⟩:=q2 i p s B L;obtain⟨e4,e5,J⟩:=N i s q L Fw;refine⟨?_,?_⟩
    .grind
    .rw[e3]at J
     exact BZ e2 J) U
   refine⟨.agg R,?_,?_⟩
   .simp only[Instr.build,Sem.run_bind,W,Result.andThen_ok,run_underlying Y,e];have:(Array.map (λx=>(x.fst,a.eval x.snd)) ops).toList=ops.toList.map λx=>(x.1,a.eval x.2):=by simp
    simp only[this,M];rfl
   .have:=S.agg;exact .plain h d (by simpa using this)
  .exact d.elim
 .grind
theorem ajh(h:gf G c H w)(J:kq c w env a){t e:TypeId}{n sz:Nat}{z:List D}{ops:Array (Nat×Operand)}{ps:List (Nat×X)}
  (C:qb P t=some z) (I:ya G ops.toList=some ps) (F:P.underlying t=some (.array n e)) (hs:jU P e=some sz)
  (b:zF env z (ps.map λp=>(p.1*sz,sz,p.2)) H K):∃r,(Instr.build t (ops.map λ(i,x)=>(i,a.eval x))).run P w = .ok r w/\iJ G c H w K r w:=by
 unfold zF at b;split at b
 .rename_i l hl;split at b
  .rename_i cs B;obtain⟨v,E,_,L⟩:=zk C w;obtain⟨f,s⟩:=Kf h J ops.toList I;obtain⟨o,m⟩:=QN hl
   obtain⟨u,k,A⟩:=KY (c:=c) (w:=w) (λi=>some (i*sz,sz)) (ops.toList.map λx=>(x.1,a.eval x.2)) l v.cells z cs (L c w) (by simp[o,f]) (λi x q j S=>by
    simp only[ar,aj]at j;obtain⟨y,g,rfl⟩:=j;have hi:i<ops.toList.length:=(ae.1 g).1;obtain⟨p,d⟩:=K9 f hi;obtain⟨R,Q⟩:=s i y p g d;obtain⟨O,N,M⟩:=m i (p.1*sz,sz,p.2) q (by simp[d]) S
    exact⟨by simp[O,N,R],BZ Q M⟩) B
   refine⟨.agg u,?_,?_⟩
   .simp only[Instr.build,Sem.run_bind,E,Result.andThen_ok,run_underlying F,pZ hs];have:(Array.map (λx=>(x.fst,a.eval x.snd)) ops).toList=ops.toList.map λx=>(x.1,a.eval x.2):=by simp
    simp only[this,k];rfl
   .have:=A.agg;exact .plain h b (by simpa using this)
  .exact b.elim
 .exact b.elim
