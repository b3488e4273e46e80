/- Part 1 of DisputeMatchesReference. -/
import Derived.KernelRfl
import Derived.RangeFuncIn
import Derived.TacticsIn
import Derived.OrdersIn
import Derived.Laws.CopyRow
import Derived.Laws.AppendOwn
import Derived.Laws.OwnMore
import Derived.Laws.Concat
import Derived.Laws.Strings
import Derived.Laws.Slices
import Derived.Laws.StructEq
import Derived.Laws.BytesString
set_option linter.all false
open Option renaming some→aE,none→bb,some→dr
open Bool renaming false→bs,true→b4
open Nat renaming le_refl→cj,le_trans→cp,beq→dx
open List renaming replicate→di,getD→eh,length→List.l
open Int renaming toNat→Int.n
open UInt8 renaming toNat→UInt8.n
namespace Go.AL
open Go
def ae:=@List.getElem?_eq_some_iff
def af:=@List.take_of_length_le
def ag:=@Option.bind_eq_some_iff
def ah:=@List.getElem?_append_left
def ai:=@Bool.and_eq_true
def aj:=@List.mem_append
def ak:=@List.getElem?_append_right
def ao:=@List.length_pos_iff
def aq:=@Option.map_eq_some_iff
def ar:=@List.length_append
def au:=@List.mem_map
def av:=@dr.injEq
def aw:=@List.map_congr_left
def ax:=@List.getElem?_map
def ay:=@List.mem_cons
def az:=@List.length_set
def aC:=@List.length_eq_zero_iff
def aD:=@List.append_nil
def aF:=@Option.bind_eq_bind
def aG:=@List.length_take
def aH:=@List.mem_iff_getElem?
def aI:=@Option.pure_def
def aJ:=@List.getElem?_take
def aK:=@Option.map_some
def aL:=@List.length_cons
def aM:=@List.getElem?_drop
def aN:=@List.append_assoc
def aO:=@List.mem_filter
def aP:=@List.getElem?_set_ne
def aQ:=@List.getElem?_set_self
def aR:=@Nat.lt_of_lt_of_le
def aS:=@List.mem_of_mem_take
def aT:=@List.set_append_left
def aU:=@Array.getElem?_eq_some_iff
def aV:=@Nat.zero_add
def aW:=@List.pairwise_cons
def aX:=@List.length_drop
def aY:=@List.eq_nil_of_length_eq_zero
def aZ:=@List.take_append_of_le_length
def a7:=@Option.getD_some
def a8:=@List.flatten_cons
def bf:=@List.map_id
def bg:=@Nat.add_assoc
def bh:=@List.mem_cons_of_mem
def bj:=@List.ext_getElem
def bk:=@Array.getElem?_modify
def bn:=@List.length_singleton
def bp:=@List.mem_flatten
def bq:=@List.eq_nil_iff_forall_not_mem
def br:=@List.mem_range
def bt:=@Nat.add_mul
def bw:=@List.replicate_succ
def bz:=@List.pairwise_iff_getElem
def bC:=@List.mem_of_mem_drop
def bE:=@Nat.mul_le_mul_right
def bF:=@List.drop_of_length_le
def bG:=@Bool.false_eq_true
def bH:=@Array.getElem?_toList
def bI:=@List.nil_append
def bJ:=@Nat.lt_or_ge
def bK:=@List.mem_append_left
def bL:=@List.drop_eq_getElem_cons
def bM:=@Int.emod_lt_of_pos
def bN:=@List.mem_flatMap
def bO:=@List.flatMap_append
def bP:=@List.mem_append_right
def bQ:=@Array.toArray_toList
def bR:=@List.pairwise_append
def bS:=@Int.emod_nonneg
def bT:=@dr.inj
def bU:=@List.getElem_mem
def bV:=@List.drop_eq_nil_of_le
def bW:=@List.getElem?_range
def bX:=@List.getElem?_set
def bY:=@List.ext_getElem?
def bZ:=@List.take_append_drop
def b6:=@List.map_map
def b7:=@Nat.sub_self
def b9:=@Bool.or_eq_true
def cu:=@Bool.decide_and
def cy:=@List.cons_append
def cz:=@List.drop_drop
def cA:=@Int.toNat_of_nonneg
def cD:=@List.foldl_cons
def cE:=@Array.getElem?_eq_getElem
def cF:=@Nat.eq_of_beq_eq_true
def cG:=@List.getElem?_eq_none
def cH:=@Ne.symm
def cI:=@Classical.choose_spec
def cJ:=@Nat.add_zero
def cK:=@Array.size_append
def cL:=@Prod.ext
def cM:=@List.set_eq_take_append_cons_drop
def cN:=@Nat.succ_mul
def cO:=@Array.getElem?_append_left
def cP:=@Array.all_eq_true_iff_forall_mem
def cQ:=@List.take_length
def cS:=@List.range'_succ
def cT:=@List.filter_append
def cU:=@Array.getElem?_setIfInBounds_ne
def cV:=@List.range_eq_range'
def cW:=@List.nodup_cons
def cY:=@Nat.pow_le_pow_right
def cZ:=@List.nodup_append
def c8:=@List.countP_cons
def c9:=@Nat.zero_mul
def da:=@Array.getD_eq_getD_getElem?
def db:=@List.mem_filterMap
def de:=@List.countP_append
def dh:=@List.length_nil
def dj:=@List.cons.injEq
def dm:=@Nat.le_of_ble_eq_true
def dp:=@List.size_toArray
def dq:=@List.contains_eq_mem
def dt:=@Option.isSome_iff_exists
def du:=@Array.length_toList
def dw:=@Array.toList_append
def dy:=@List.getElem?_cons_succ
def dz:=@Bool.true_and
def dA:=@List.take_add_one
def dB:=@Nat.add_comm
def dC:=@List.getElem?_toArray
def dD:=@List.contains_iff_mem
def dF:=@List.set_append_right
def dH:=@Array.getElem?_mapIdx
def dJ:=@List.countP_le_length
def dK:=@List.length_replicate
def dM:=@Prod.mk.injEq
def dO:=@List.mem_zipIdx_iff_le_and_getElem?_sub
def dQ:=@Iff.rfl
def dR:=@List.filter_eq_self
def dS:=@List.findIdx?_eq_none_iff
def dT:=@List.mem_or_eq_of_mem_set
def dW:=@List.mem_take_iff_getElem
def dX:=@List.exists_mem_of_ne_nil
def dY:=@Nat.eq_zero_or_pos
def dZ:=@List.Sublist.append_left
def ea:=@Nat.mul_comm
def ec:=@Int.add_sub_cancel
def ef:=@Option.toList_some
def ei:=@List.find?_eq_none
def ej:=@List.take_take
def eo:=@List.pairwise_map
def et:=@Bool.not_eq_true'
def eu:=@Int.le_refl
def ew:=@Nat.zero_le
def ey:=@List.findIdx?_eq_some_iff_getElem
def eA:=@Array.getElem?_eq_none
def eC:=@List.sublist_cons_self
def eD:=@List.append_eq_nil_iff
def eE:=@List.isEmpty_iff
def eF:=@Array.mem_filter
def eG:=@List.not_mem_nil
def eH:=@List.flatten_nil
def eI:=@List.length_filter_eq_length_iff
def eJ:=@List.set_getElem_self
def eM:=@List.length_mergeSort
def eN:=@Nat.pow_succ
def eO:=@List.replicate_succ'
def eP:=@List.drop_append_of_le_length
def eQ:=@Array.getElem?_push
def eR:=@List.replicate_zero
def eT:=@Nat.mul_le_mul_left
def eU:=@List.flatten_append
def eV:=@List.mapM_cons
def eW:=@List.take_zero
def eX:=@Int.toNat_zero
def eY:=@List.drop_zero
def eZ:=@Nat.mul_one
def e7:=@Nat.add_sub_cancel
def e9:=@List.map_replicate
def fe:=@Int.add_assoc
def ff:=@List.exists_cons_of_ne_nil
def fg:=@Function.comp_def
def fh:=@Array.mapM_eq_mapM_toList
def fj:=@Nat.mod_eq_of_lt
def fm:=@Nat.sub_zero
def fo:=@List.nodup_range
def fq:=@Nat.le_add_right
def fr:=@List.drop_append
def ft:=@Nat.le_of_not_lt
def fu:=@Nat.mul_le_mul_right_iff
def fw:=@List.length_erase_of_mem
def fy:=@List.length_filterMap_le
def fD:=@Array.toList_inj
def fE:=@List.getElem?_replicate
def fF:=@List.pairwise_mergeSort
def fG:=@List.getElem?_cons_zero
def fH:=@List.append_inj
def fJ:=@List.length_pos_of_mem
def fL:=@List.length_eq_one_iff
def fM:=@List.singleton_append
def fO:=@Bool.decide_or
def fQ:=@List.Pairwise.sublist
def fR:=@List.perm_append_comm
def fV:=@Int.not_lt
def fX:=@Nat.not_lt
def fY:=@Nat.mul_assoc
def fZ:=@Nat.min_zero
def gd:=@Int.le_trans
def U{P:Prop}(h:P:=by omega):P:=h
def gf{P:Prop}(h:P:=by simp):P:=h
def gw{P:Prop}(h:P:=by kernel_rfl):P:=h
def jr{P:Prop}(h:P:=by decide):P:=h
def jX{P:Prop}(h:P:=by assumption):P:=h
def gO{P:Prop}(h:P:=by simp;omega):P:=h
def gI{P:Prop}(h:P:=by dsimp only;omega):P:=h
def ny{P:Prop}(h:P:=by simp;rfl):P:=h
def sw{P:Prop}(h:P:=by first|rfl|simp):P:=h
def jZ{P:Prop}(h:P:=by grind):P:=h
def oh{P:Prop}(h:P:=by simp_all):P:=h
def zdn{P:Prop}(h:P:=by dsimp only):P:=h
def qt{A P:Prop}(k:P)(a:A:=by first|omega|(dsimp only;omega)):A/\P:=⟨a,k⟩
def sk{A B P:Prop}(k:P)(a:A:=by first|omega|(dsimp only;omega))(b:B:=by first|omega|(dsimp only;omega)):A/\B/\P:=⟨a,b,k⟩
def ic{A B C P:Prop}(k:P)(a:A:=by first|omega|(dsimp only;omega))(b:B:=by first|omega|(dsimp only;omega))(c:C:=by first|omega|(dsimp only;omega)):A/\B/\C/\P:=⟨a,b,c,k⟩
def BE{A B C D P:Prop}(k:P)(a:A:=by first|omega|(dsimp only;omega))(b:B:=by first|omega|(dsimp only;omega))(c:C:=by first|omega|(dsimp only;omega))(d:D:=by first|omega|(dsimp only;omega)):A/\B/\C/\D/\P:=⟨a,b,c,d,k⟩
def gU{A B:Prop}(a:A:=by first|omega|(dsimp only;omega))(b:B:=by first|omega|(dsimp only;omega)):A/\B:=⟨a,b⟩
def mw{A B C:Prop}(a:A:=by first|omega|(dsimp only;omega))(b:B:=by first|omega|(dsimp only;omega))(c:C:=by first|omega|(dsimp only;omega)):A/\B/\C:=⟨a,b,c⟩
inductive D where
 | any
 | val (v:Value)
 | agg (cs:List D)
 | tup (cs:List D)
 | sl (sz:Nat) (es:List (List D))
 | gp
 | mM (vs:List Value)
 | gh (v g sz off len:Nat)
 | ptr (v g off:Nat)
 | gH (cs:List D)
 | gM (v:Nat)
 | fn (fn:Fn) (first captured:List D)
 | jt (v:Nat)
 deriving Inhabited
abbrev D.i(n:Int):D:=.val (.int .i64 n)
abbrev D.b(x:Bool):D:=.val (.bool x)
abbrev Env:=List (Nat×D)
def Env.get:Env->Nat->D
 | [],_=>.any
 | (k,d)::r,j=>match dx k j with
  | true=>d
  | false=>Env.get r j
def Env.yg(k:Nat)(d:D)(r:Env)(j:Nat):Env.get ((k,d)::r) j=if k=j then d else Env.get r j:=by
 simp only[Env.get]
 by_cases h:k=j
 .simp_all
 .have:dx k j=false:=by
   cases a:dx k j with
   | false=>rfl
   | true=>exact absurd (cF a) h
  rw[if_neg h,this]
structure Loc where
 b:Nat
 base:Nat
 top:Nat
 ko:Bool:=bs
structure Ctx where
 ι:Nat->Nat->Option Loc
 F:Nat->Prop
 RT:Nat->Option (Nat×Array Tmp×Code×Code)
inductive gq(c:Ctx)(w:World):Value->D->Prop
 | any (v:Value):gq c w v .any
 | val (v:Value):gq c w v (.val v)
 | agg (vs:List Value) (ds:List D) (hl:vs.l=ds.l) (h1:∀v∈vs,v.oneCell'=b4)
   (h:∀(i:Nat) (v:Value) (d:D),vs[i]? = aE v->ds[i]? = aE d->gq c w v d):gq c w (.agg vs.toArray) (.agg ds)
 | tup (vs:List Value) (ds:List D) (hl:vs.l=ds.l)
   (h:∀(i:Nat) (v:Value) (d:D),vs[i]? = aE v->ds[i]? = aE d->gq c w v d):gq c w (.tuple vs.toArray) (.tup ds)
 | sl (a:Option Addr) (len cap sz:Nat) (es:List (List D)) (g:Nat->Nat->Value)
   (hlen:es.l=len) (kI:len<=cap) (jv:cap<=maxLen) (iX:∀e∈es,e.l=sz)
   (mo:a=bb->cap=0)
   (hc:∀(i:Nat) (e:List D) (j:Nat) (d:D),es[i]? = aE e->e[j]? = aE d->∃b o,a=aE ⟨b,o,bb⟩/\c.F b/\w.cell? ⟨b,o+(i*sz+j),bb⟩=aE (g i j)/\(g i j).oneCell'=b4)
   (hr:∀(i:Nat) (e:List D) (j:Nat) (d:D),es[i]? = aE e->e[j]? = aE d->gq c w (g i j) d):gq c w (.slice a len cap) (.sl sz es)
 | gp:gq c w (.slice bb 0 0) .gp
 | mM (a:Option Addr) (vs:List Value) (jv:vs.l<=maxLen) (mo:a=bb->vs = [])
   (hc:∀(i:Nat) (v:Value),vs[i]? = aE v->∃b o,a=aE ⟨b,o,bb⟩/\c.F b/\w.cell? ⟨b,o+i,bb⟩=aE v/\v.oneCell'=b4):gq c w (.slice a vs.l vs.l) (.mM vs)
 | gh (v k sz off len cap:Nat) (L:Loc) (gC:c.ι v k=aE L) (hv:L.ko=bs) (kI:len<=cap) (jv:cap<=maxLen)
   (nG:L.base+(off+cap)*sz<=L.top):gq c w (.slice (aE ⟨L.b,L.base+off*sz,bb⟩) len cap) (.gh v k sz off len)
 | nq (v k sz off:Nat) (L:Loc) (gC:c.ι v k=aE L) (a:Option Addr):gq c w (.slice a 0 0) (.gh v k sz off 0)
 | ptr (v k off:Nat) (L:Loc) (gC:c.ι v k=aE L) (hv:L.ko=bs):gq c w (.pointer (aE ⟨L.b,L.base+off,bb⟩)) (.ptr v k off)
 | gH (b o:Nat) (cs:List D) (g:Nat->Value) (hF:c.F b)
   (hc:∀(j:Nat) (d:D),cs[j]? = aE d->w.cell? ⟨b,o+j,bb⟩=aE (g j)/\(g j).oneCell'=b4)
   (hr:∀(j:Nat) (d:D),cs[j]? = aE d->gq c w (g j) d):gq c w (.pointer (aE ⟨b,o,bb⟩)) (.gH cs)
 | gM (v:Nat) (L:Loc) (gC:c.ι v 0=aE L) (hv:L.ko=bs):gq c w (.map (aE L.b)) (.gM v)
 | fn (fn:Fn) (fs cs:List Value) (df dc:List D) (jL:fs.l=df.l) (iZ:cs.l=dc.l)
   (h1:∀(i:Nat) (v:Value) (d:D),fs[i]? = aE v->df[i]? = aE d->gq c w v d)
   (h2:∀(i:Nat) (v:Value) (d:D),cs[i]? = aE v->dc[i]? = aE d->gq c w v d):gq c w (.func fn fs.toArray cs.toArray) (.fn fn df dc)
 | jt (v:Nat) (L:Loc) (gC:c.ι v 0=aE L) (hv:L.ko=bs):gq c w (.func (.yield L.b) #[] #[]) (.jt v)
inductive KK where
 | int (k:IntKind)
 | str
 | bool
 | ints (l:List IntKind)
 deriving Inhabited,DecidableEq
def uJ:List IntKind->List Value->Bool
 | [],[]=>b4
 | k::ks,.int k' _::vs=>k == k'&&uJ ks vs
 | _,_=>bs
def KK.has:KK->Value->Bool
 | .int k,.int k' _=>k == k'
 | .str,.string _=>b4
 | .bool,.bool _=>b4
 | .ints l,.agg cs=>uJ l cs.toList
 | _,_=>bs
inductive sB where
 | ready|busy|Ck|AJ (id:Nat)
 deriving Inhabited,DecidableEq
inductive Ob where
 | row (t:TypeId) (g:Nat) (cs:List D)
 | map (kk:KK) (es:List (Value×D))
 | iE (rf:Nat) (env:Env) (st:sB)
 | ua (s:ByteArray) (pos:Nat)
 | jG (m:D) (since:Nat) (seen:List Nat)
 | ka
 | dead
 | mF
 deriving Inhabited
def Ob.alive:Ob->Bool
 | .dead | .mF=>bs
 | _=>b4
def Ob.gen:Ob->Nat
 | .row _ g _=>g
 | _=>0
abbrev gg:=List Ob
def mJ(c:Ctx)(H:gg)(v:Nat)(L:Loc):Prop:=∃o,H[v]? = aE o/\o.alive=b4/\c.ι v o.gen=aE L
def mZ(c:Ctx)(H:gg)(b:Nat):Prop:=∃v L,mJ c H v L/\L.ko=bs/\L.b=b
def G4(c:Ctx)(w:World)(arr:Array MapEntry)(a:Nat)(es:List (Value×D)):Prop:=
 arr.size=es.l/\(∀(i:Nat) (e:MapEntry) (x:Value×D),arr[i]? = aE e->es[i]? = aE x->e.key=x.1/\gq c w e.val x.2/\e.born=i)/\a=es.l
def sB.is:sB->Loop->Prop
 | .ready,r=>r.state = .ready/\r.pending=bb
 | .busy,r=>r.state = .busy
 | .Ck,r=>r.state = .done/\r.pending=aE .ret
 | .AJ id,r=>r.state = .done/\r.pending=aE (.exit id)
def iy(c:Ctx)(w:World):Option Loc->Ob->Prop
 | _,.dead=>True
 | L,.mF=>L=bb
 | none,_=>False
 | some L,.row t _ cs=>if L.ko then cs = []else
   ∃arr:Array Value,w.heap[L.b]? = aE (.cells arr t (0,0))/\L.top=arr.size/\L.base+cs.l<=L.top /\
    ∀(i:Nat) (d:D),cs[i]? = aE d->∃v,arr[L.base+i]? = aE v/\v.oneCell'=b4/\gq c w v d
 | some L,.map kk es=>L.ko=bs/\(∀x∈es,kk.has x.1=b4)/\∃arr a,w.heap[L.b]? = aE (.map arr a)/\G4 c w arr a es
 | some L,.iE rf env st=>L.ko=bs/\∃r:Loop,w.heap[L.b]? = aE (.loop r)/\(∀k,gq c w (r.tmps.getD k undef) (env.get k)) /\
   (∃N,c.RT rf=aE (N,r.params,r.assign,r.body)/\N<=r.tmps.size)/\st.is r
 | some L,.ua s p=>L.ko=bs/\L.base=0/\w.heap[L.b]? = aE (.stringIter s p)
 | some L,.jG m since seen=>L.ko=bs/\L.base=0/\∃b:Nat,gq c w (.map (aE b)) m/\w.heap[L.b]? = aE (.mapIter (aE b) since seen.toArray since)
 | some L,.ka=>L.ko=b4\/w.heap[L.b]? = aE (.deferred (aE []))
structure HeapOK(c:Ctx)(H:gg)(w:World):Prop where
 inj:∀v v' L L',mJ c H v L->mJ c H v' L'->L.ko=bs->L'.ko=bs->L.b=L'.b->v=v'
 lt:∀b,mZ c H b->b<w.heap.size
 nF:∀b,mZ c H b->¬c.F b
 lF:∀b,c.F b->b<w.heap.size
 out:∀v k,H.l<=v->c.ι v k=bb
 nC:∀v o k,H[v]? = aE o->(o = .mF\/(o.alive=b4/\o.gen<k))->c.ι v k=bb
 ob:∀(v:Nat) (o:Ob),H[v]? = aE o->iy c w (c.ι v o.gen) o
structure Step(n:Nat)(c:Ctx)(H:gg)(w:World)(c':Ctx)(H':gg)(w':World):Prop where
 os:w'.os=w.os/\w.drawn<=w'.drawn
 tape:w'.tape=w.tape
 output:w'.output=w.output
 size:w.heap.size<=w'.heap.size
 RT:c'.RT=c.RT
 Fm:∀b,c.F b->c'.F b
 Fn:∀b,c'.F b->c.F b\/w.heap.size<=b\/mZ c H b
 kept:∀b,b<w.heap.size->¬mZ c H b->w'.heap[b]? = w.heap[b]?
 old:∀v k L,v<n->c.ι v k=aE L->c'.ι v k=aE L
 own:∀b,mZ c' H' b->w.heap.size<=b\/mZ c H b
def Step.refl(n:Nat)(c:Ctx)(H:gg)(w:World):Step n c H w c H w:=
 ⟨⟨rfl,cj _⟩,rfl,rfl,cj _,rfl,λ_ h=>h,λ_ h=>.inl h,λ_ _ _=>rfl,λ_ _ _ _ h=>h,λ_ h=>.inr h⟩
theorem Step.trans{n m:Nat}{c d c2:Ctx}{H H1 H2:gg}{w w1 w2:World}(h1:Step n c H w d H1 w1)(a:Step m d H1 w1 c2 H2 w2)(f:n<=m) :
  Step n c H w c2 H2 w2 where
 os:=⟨a.os.1.trans h1.os.1,cp h1.os.2 a.os.2⟩
 tape:=a.tape.trans h1.tape
 output:=a.output.trans h1.output
 size:=cp h1.size a.size
 RT:=a.RT.trans h1.RT
 Fm b h:=a.Fm b (h1.Fm b h)
 Fn b h:=by
  rcases a.Fn b h with h|h|h
  .exact h1.Fn b h
  .exact .inr (.inl (cp h1.size h))
  .rcases h1.own b h with h|h
   .grind
   .grind
 kept b hb hn:=by
  rw[a.kept b (aR hb h1.size) (λe=>?_),h1.kept b hb hn];rcases h1.own b e with h|h
  .omega
  .exact hn h
 old v k L hv h:=a.old v k L U (h1.old v k L hv h)
 own b h:=by
  rcases a.own b h with h|h
  .exact .inl (cp h1.size h)
  .exact h1.own b h
def Step.weaken{n m:Nat}{c c':Ctx}{H H':gg}{w w':World}(h:Step n c H w c' H' w')(b:m<=n):Step m c H w c' H' w':=
 { h with old:=λv k L a=>h.old v k L U }
def Hy{w w':World}{a:Addr}(h:w'.heap[a.block]? = w.heap[a.block]?):w'.cell? a=w.cell? a:=by simp[World.cell?,h]
def gq.carry{c c':Ctx}{w w':World}(s:∀v k L,c.ι v k=aE L->c'.ι v k=aE L)(B:∀b,c.F b->c'.F b)
  (t:∀b o,c.F b->w'.cell? ⟨b,o,bb⟩=w.cell? ⟨b,o,bb⟩) {v:Value} {d:D} (h:gq c w v d):gq c' w' v d:=by
 induction h with
 | any v=>exact .any _
 | val v=>exact .val _
 | agg vs ds hl h1 h n=>exact .agg vs _ hl h1 n
 | tup vs ds hl h n=>exact .tup vs _ hl n
 | sl a len cap sz es g q y p I x r J n=>
  refine .sl a len cap sz _ g q y p I x ?_ n;intro i e j d K z;obtain⟨b,o,A,m,u,h1⟩:=r i e j d K z;exact⟨b,o,A,B b m,by rw[t b _ m];exact u,h1⟩
 | gp=>exact .gp
 | mM a vs p x r=>
  refine .mM a vs p x ?_;intro i v l;obtain⟨b,o,A,m,u,h1⟩:=r i v l;exact⟨b,o,A,B b m,by rw[t b _ m];exact u,h1⟩
 | gh v k sz off len cap L h l y p F=>exact .gh v k sz off len cap L (s _ _ _ h) l y p F
 | nq v k sz off L h a=>exact .nq v k sz off L (s _ _ _ h) a
 | ptr v k off L h l=>exact .ptr v k off L (s _ _ _ h) l
 | gH b o cs g m r J n=>
  refine .gH b o _ g (B b m) ?_ n;intro j d z;rw[t b _ m];exact r j d z
 | gM v L h l=>exact .gM v L (s _ _ _ h) l
 | fn f fs cs N O G H h1 M E C=>exact .fn f fs cs _ _ G H E C
 | jt v L h l=>exact .jt v L (s _ _ _ h) l
def gq.step{n:Nat}{c c':Ctx}{H H':gg}{w w':World}(e:HeapOK c H w)(hs:Step n c H w c' H' w')(i:H.l<=n){v:Value}{d:D}(h:gq c w v d) :
  gq c' w' v d:=by
 refine h.carry (λv k L a=>hs.old v k L ?_ a) hs.Fm (λb o f=>Hy (hs.kept b (e.lF b f) (λg=>e.nF b g f)));rcases bJ v H.l with h|h
 .omega
 .rw[e.out v k h]at a;cases a
def gq.rG{c c':Ctx}{H H':gg}{w w':World}(a:HeapOK c H w)(hs:Step H.l c H w c' H' w'){v:Value}{d:D}(h:gq c w v d):gq c' w' v d:=
 h.step a hs (cj _)
inductive X where
 | t (k:Nat)
 | c (d:D)
 deriving Inhabited
abbrev il:=Nat->D
def ev(env:il):X->D
 | .t k=>env k
 | .c d=>d
def cellsOf:D->Option (List D)
 | .agg cs=>aE cs
 | .any | .tup _=>bb
 | .val v=>if v.oneCell' then aE [.val v]else bb
 | d=>aE [d]
def one:D->Bool
 | .any | .tup _ | .agg _=>bs
 | .val v=>v.oneCell'
 | _=>b4
mutual
def closed:D->Bool
 | .any | .val _ | .gp | .mM _=>b4
 | .agg cs | .tup cs | .gH cs=>gN cs
 | .sl _ es=>EF es
 | .gh .. | .ptr .. | .gM _ | .jt _=>bs
 | .fn _ a b=>gN a&&gN b
def gN:List D->Bool
 | []=>b4
 | d::ds=>closed d&&gN ds
def EF:List (List D)->Bool
 | []=>b4
 | e::es=>gN e&&EF es
end
def oY:Value->Value->Bool
 | .int k a,.int k' b=>k == k'&&a == b
 | .string a,.string b=>a == b
 | .bool a,.bool b=>a == b
 | .agg a,.agg b=>a.size == b.size&&(a.toList.zip b.toList).all λ(x,y)=>match x,y with
  | .int k a,.int k' b=>k == k'&&a == b
  | _,_=>bs
 | _,_=>bs
def Jc:List D->Option (List Value)
 | []=>aE []
 | .val (.int k n)::r=>(Jc r).map (.int k n :: ·)
 | _::_=>bb
def keyOf:D->Option Value
 | .val (.int k n)=>aE (.int k n)
 | .val (.string s)=>aE (.string s)
 | .val (.bool b)=>aE (.bool b)
 | .agg cs=>(Jc cs).map λl=>.agg l.toArray
 | _=>bb
def tW:Value->D
 | .agg cs=>.agg (cs.toList.map .val)
 | v=>.val v
def sP:List (Value×D)->Value->Option D
 | [],_=>bb
 | (k,d)::r,j=>if oY j k then aE d else sP r j
def np:List (Value×D)->Value->D->List (Value×D)
 | [],j,x=>[(j,x)]
 | (k,d)::r,j,x=>if oY j k then(j,x)::r else(k,d)::np r j x
inductive nI where
 | int|bool|str
 deriving Inhabited,DecidableEq
inductive B3 where
 | slice|string|map
 deriving Inhabited,DecidableEq
inductive jh where
 | mv (x:X)
 | pick (c a b:X)
 | box (t:TypeId) (x:X)
 | alloc (t:TypeId) (z:List D)
 | build (z:List D) (ps:List (Nat×Nat×X))
 | buildSl (t sz:Nat) (z:List D) (n:Nat) (ps:List (Nat×X))
 | ld1 (x:X)
 | ldN (n:Nat) (x:X)
 | st1 (a x:X)
 | stN (n:Nat) (a x:X)
 | nilck (x:X)
 | arith (op:BinOp) (x y:X)
 | eqS (km:Bool) (ls:List nI) (neg:Bool) (x y:X)
 | un (op:UnOp) (x:X)
 | conv (k:IntKind) (x:X)
 | b2s (x:X)
 | mkfn (fn:Fn) (first captured:List X)
 | mkmap (kk:KK)
 | mksl (t sz bytes:Nat) (z:List D) (l c:X)
 | slc (sz:Nat) (x:X) (lo hi:Option X)
 | slcS (x:X) (lo hi:Option X)
 | slc3 (sz:Nat) (x:X) (lo:Option X) (hi mx:X)
 | slcArr (sz n:Nat) (x:X) (lo hi:Option X)
 | fieldA (off:Nat) (x:X)
 | field (off n:Nat) (km:Bool) (x:X)
 | idxA (sz:Nat) (x i:X)
 | idxArr (sz n:Nat) (x i:X)
 | idx (sz n:Nat) (km:Bool) (x i:X)
 | idxStr (x i:X)
 | lookup (kk:KK) (z:D) (ok:Bool) (m k:X)
 | mapUpd (kk:KK) (m k v:X)
 | ext (x:X) (i:Nat)
 | call (f:FuncId) (args:List X)
 | callN (f:FuncId) (args:List X)
 | callv (f:X) (args:List X)
 | app (t sz bytes:Nat) (x y:X)
 | copy (sz:Nat) (x y:X)
 | len (k:B3) (x:X)
 | minmax (isMax:Bool) (xs:List X)
 | nilS (neg:Bool) (x:X)
 | capE (x:X)
 | appZ (t sz bytes:Nat) (z:List D) (x n:X)
 | clr (sz:Nat) (z:List D) (x:X)
 | rangeS (x:X)
 | nextS (x:X)
 | rangeM (x:X)
 | nextM (x:X)
 | entry (x:X)
 | mapEnt (kk:KK) (z:D) (m k:X)
 | entSt (m s x:X)
 deriving Inhabited
structure iz where
 dst:Option Nat
 op:jh
 guard:Option (Nat×Bool):=bb
 deriving Inhabited
structure GT where
 g:Nat->Option (List D)
 rt:Nat->Option (Nat×Array Tmp×Code×Code)
 nw:FuncId->Bool:=λ_=>bs
instance:CoeFun GT (λ_=>Nat->Option (List D)):=⟨GT.g⟩
inductive j'(c:Ctx)(w:World):List Value->List D->Prop
 | nil:j' c w [] []
 | cons {v d vs ds} (h:gq c w v d) (t:j' c w vs ds):j' c w (v::vs) (d::ds)
structure gL(G:GT)(c:Ctx)(H:gg)(w:World):Prop extends HeapOK c H w where
 gl:∀(g:Nat) (cs:List D),G g=aE cs->gN cs=b4/\gq c w (.pointer (aE ⟨g,0,bb⟩)) (.gH cs)
 rt:c.RT=G.rt
abbrev kd:=D->gg->Prop
abbrev Al:=Nat×(Ob->gg)
def Al.last(H:gg):Al:=(H.l,λob=>H ++ [ob])
def Al.mF(H:gg)(v:Nat):Al:=(v,λob=>H.set v ob)
def pj(n:Int):Prop := -9223372036854775808<=n/\n<=9223372036854775807
def Hh(op:BinOp)(k:IntKind)(a b:Int)(H:gg)(K:kd):Prop:=
 match op with
 | .add=>if k = .i64 then pj (a+b)/\K (.val (.int .i64 (a+b))) H else K (.val (.int k (k.wrap (a+b)))) H
 | .sub=>if k = .i64 then pj (a-b)/\K (.val (.int .i64 (a-b))) H else K (.val (.int k (k.wrap (a-b)))) H
 | .mul=>if k = .i64 then pj (a*b)/\K (.val (.int .i64 (a*b))) H else K (.val (.int k (k.wrap (a*b)))) H
 | .quo=>b≠0/\K (.val (.int k (k.wrap (a.tdiv b)))) H
 | .rem=>b≠0/\K (.val (.int k (a.tmod b))) H
 | .and | .or | .xor | .andNot=>K (.val (.int k (bits op k a b))) H
 | .eql=>K (.val (.bool (a == b))) H
 | .neq=>K (.val (.bool (a != b))) H
 | .lss=>K (.val (.bool (decide (a<b)))) H
 | .leq=>K (.val (.bool (decide (a<=b)))) H
 | .gtr=>K (.val (.bool (decide (a>b)))) H
 | .geq=>K (.val (.bool (decide (a>=b)))) H
 | _=>False
def JU(op:BinOp)(k:IntKind)(a b:Int)(H:gg)(K:kd):Prop:=
 match op with
 | .shl=>0<=b/\K (.val (.int k (k.wrap (a*2 ^ (min b.n k.bits))))) H
 | .shr=>0<=b/\K (.val (.int k (a.fdiv (2 ^ (min b.n k.bits))))) H
 | _=>False
def rC:BinOp->Bool
 | .shl | .shr=>b4
 | _=>bs
def Qz(op:BinOp)(a b:ByteArray)(H:gg)(K:kd):Prop:=
 match op with
 | .eql=>K (.val (.bool (a.data.toList == b.data.toList))) H
 | .neq=>K (.val (.bool (!(a.data.toList == b.data.toList)))) H
 | .add=>((a.size+b.size:Nat):Int)<=9223372036854775807/\K (.val (.string (a++b))) H
 | _=>False
def Hm(op:BinOp)(x y:D)(H:gg)(K:kd):Prop:=
 match x,y with
 | .val (.int k a),.val (.int k' b)=>if rC op then JU op k a b H K else k=k'/\Hh op k a b H K
 | .val (.string a),.val (.string b)=>Qz op a b H K
 | _,_=>False
def Ka(op:UnOp)(x:D)(H:gg)(K:kd):Prop:=
 match op,x with
 | .not,.val (.bool b)=>K (.val (.bool (!b))) H
 | .neg,.val (.int .i64 n)=>pj (-n)/\K (.val (.int .i64 (-n))) H
 | .xor,.val (.int k n)=>K (.val (.int k (bits .xor k (if k.signed then -1 else k.max) n))) H
 | _,_=>False
def vV:nI->D->D->Option Bool
 | .int,.val (.int k a),.val (.int k' b)=>if k=k' then aE (a == b)else bb
 | .bool,.val (.bool a),.val (.bool b)=>aE (a == b)
 | .str,.val (.string a),.val (.string b)=>aE (a.data.toList == b.data.toList)
 | _,_,_=>bb
def nL:List nI->List D->List D->Option Bool
 | [],[],[]=>aE b4
 | l::ls,x::xs,y::ys=>match vV l x y,nL ls xs ys with
  | some a,aE b=>aE (a&&b)
  | _,_=>bb
 | _,_,_=>bb
def yd(c:Bool)(ls:List nI)(neg:Bool)(x y:D)(H:gg)(K:kd):Prop:=
 match c,x,y with
 | true,.agg a,.agg b=>match nL ls a b with
  | some r=>K (.val (.bool (if neg then !r else r))) H
  | none=>False
 | false,x,y=>match nL ls [x] [y]with
  | some r=>K (.val (.bool (if neg then !r else r))) H
  | none=>False
 | _,_,_=>False
def Jy(c a b:D)(H:gg)(K:kd):Prop:=
 match c with
 | .val (.bool x)=>K (if x then a else b) H
 | _=>False
def rowAt(H:gg)(v k:Nat):Option (TypeId×List D):=match H[v]? with
 | some (.row t g cs)=>if g=k then aE (t,cs)else bb
 | _=>bb
def Je(x:D)(H:gg)(K:kd):Prop:=
 match x with
 | .ptr v g o=>match rowAt H v g with
  | some (_,cs)=>match cs[o]? with
   | some d=>K d H
   | none=>False
  | none=>False
 | .gH cs=>match cs[0]? with
  | some d=>K d H
  | none=>False
 | _=>False
def Jf(n:Nat)(x:D)(H:gg)(K:kd):Prop:=
 match x with
 | .ptr v g o=>match rowAt H v g with
  | some (_,cs)=>o+n<=cs.l/\K (.agg ((cs.drop o).take n)) H
  | none=>False
 | .gH cs=>n<=cs.l/\K (.agg (cs.take n)) H
 | _=>False
def J0(a x:D)(H:gg)(K:kd):Prop:=
 match a with
 | .ptr v g o=>match rowAt H v g with
  | some (t,cs)=>o<cs.l/\one x=b4/\K .any (H.set v (.row t g (cs.set o x)))
  | none=>False
 | _=>False
def J2(n:Nat)(a x:D)(H:gg)(K:kd):Prop:=
 match a,cellsOf x with
 | .ptr v g o,aE xs=>match rowAt H v g with
  | some (t,cs)=>xs.l=n/\o+n<=cs.l/\K .any (H.set v (.row t g (cs.take o++xs++cs.drop (o+n))))
  | none=>False
 | _,_=>False
def Hq(t:TypeId)(x:D)(al:Al)(K:kd):Prop:=
 match cellsOf x with
 | some cs=>K (.ptr al.1 0 0) (al.2 (.row t 0 cs))
 | none=>False
def lay:List (Nat×Nat×List D)->List D->Option (List D)
 | [],cs=>aE cs
 | (o,n,xs)::r,cs=>if xs.l=n/\o+n<=cs.l then lay r (cs.take o++xs++cs.drop (o+n))else bb
def partsOf(env:il):List (Nat×Nat×X)->Option (List (Nat×Nat×List D))
 | []=>aE []
 | (o,n,x)::r=>match cellsOf (ev env x),partsOf env r with
  | some cs,aE l=>aE ((o,n,cs)::l)
  | _,_=>bb
def Ca(env:il)(z:List D)(ps:List (Nat×Nat×X))(H:gg)(K:kd):Prop:=
 match partsOf env ps with
 | some l=>match lay l z with
  | some cs=>K (.agg cs) H
  | none=>False
 | none=>False
def Hr(env:il)(t sz:Nat)(z:List D)(n:Nat)(ps:List (Nat×X))(al:Al)(K:kd):Prop:=
 match partsOf env (ps.map λp=>(p.1*sz,sz,p.2))with
 | some l=>match lay l (di n z).flatten with
  | some cs=>K (.gh al.1 0 sz 0 n) (al.2 (.row t 0 cs))
  | none=>False
 | none=>False
def HY(off:Nat)(x:D)(H:gg)(K:kd):Prop:=
 match x with
 | .ptr v g o=>K (.ptr v g (o+off)) H
 | .gH cs=>K (.gH (cs.drop off)) H
 | _=>False
def Cx(off n:Nat)(a:Bool)(x:D)(H:gg)(K:kd):Prop:=
 match x with
 | .agg cs=>if a then off+n<=cs.l/\K (.agg ((cs.drop off).take n)) H else match cs[off]? with
  | some d=>K d H
  | none=>False
 | _=>False
def I6(sz:Nat)(x i:D)(H:gg)(K:kd):Prop:=
 match x,i with
 | .sl iq es,.val (.int _ n)=>iq=sz/\(0<=n/\n<es.l)/\K (.gH (es.getD n.n [])) H
 | .mM vs,.val (.int _ n)=>1=sz/\(0<=n/\n<vs.l)/\K (.gH [.val (vs.getD n.n undef)]) H
 | .gh v g iq off len,.val (.int _ n)=>iq=sz/\(0<=n/\n<len)/\K (.ptr v g ((off+n.n)*sz)) H
 | _,_=>False
def I7(sz n:Nat)(x i:D)(H:gg)(K:kd):Prop:=
 match x,i with
 | .ptr v g o,.val (.int _ k)=>(0<=k/\k<n)/\K (.ptr v g (o+k.n*sz)) H
 | .gH cs,.val (.int _ k)=>(0<=k/\k<n)/\K (.gH (cs.drop (k.n*sz))) H
 | _,_=>False
def I9(sz n:Nat)(a:Bool)(x i:D)(H:gg)(K:kd):Prop:=
 match x,i with
 | .agg cs,.val (.int _ k)=>(0<=k/\k<n)/\Cx (k.n*sz) sz a (.agg cs) H K
 | _,_=>False
def I'(x i:D)(H:gg)(K:kd):Prop:=
 match x,i with
 | .val (.string s),.val (.int _ k)=>(0<=k/\k<s.size)/\K (.val (.int .u8 ((s.data.toList.getD k.n 0).n))) H
 | _,_=>False
def mq(H:gg)(v:Nat):Option (KK×List (Value×D)):=match H[v]? with
 | some (.map kk es)=>aE (kk,es)
 | _=>bb
def Jj(a:KK)(z:D)(ok:Bool)(m k:D)(H:gg)(K:kd):Prop:=
 match m,keyOf k with
 | .gM v,aE kv=>match mq H v with
  | some (kk,es)=>kk=a/\kk.has kv=b4/\(match sP es kv with
    | some d=>K (if ok then .tup [d,.val (.bool b4)]else d) H
    | none=>K (if ok then .tup [z,.val (.bool bs)]else z) H)
  | none=>False
 | _,_=>False
def Jm(a:KK)(m k x:D)(H:gg)(K:kd):Prop:=
 match m,keyOf k with
 | .gM v,aE kv=>match mq H v with
  | some (kk,es)=>kk=a/\kk.has kv=b4/\K .any (H.set v (.map kk (np es kv x)))
  | none=>False
 | _,_=>False
def HT(x:D)(i:Nat)(H:gg)(K:kd):Prop:=
 match x with
 | .tup ds=>match ds[i]? with
  | some d=>K d H
  | none=>False
 | _=>False
def Jq(t sz bytes:Nat)(z:List D)(l c:D)(al:Al)(K:kd):Prop:=
 match l,c with
 | .val (.int _ n),.val (.int _ m)=>(0<=n/\n<=m/\m<=9223372036854775807/\(bytes:Int)*m<=281474976710656)/\K (.gh al.1 0 sz 0 n.n) (al.2 (.row t 0 (di m.n z).flatten))
 | _,_=>False
def iC(env:il):Option X->Int->Option Int
 | none,n=>aE n
 | some x,_=>match ev env x with
  | .val (.int _ n)=>aE n
  | _=>bb
def JX(env:il)(sz:Nat)(x:D)(lo hi:Option X)(H:gg)(K:kd):Prop:=
 match x with
 | .sl a es=>match iC env lo 0,iC env hi es.l with
  | some l,aE h=>a=sz/\(0<=l/\l<=h/\h<=es.l)/\K (.sl sz ((es.drop l.n).take (h.n-l.n))) H
  | _,_=>False
 | .gh v g a off len=>match iC env lo 0,iC env hi len with
  | some l,aE h=>a=sz/\(0<=l/\l<=h/\h<=len)/\K (.gh v g sz (off+l.n) (h.n-l.n)) H
  | _,_=>False
 | .gp=>match iC env lo 0,iC env hi 0 with
  | some l,aE h=>(l=0/\h=0)/\K .gp H
  | _,_=>False
 | _=>False
def Gu:List (List D)->Option (List Value)
 | []=>aE []
 | [.val v]::r=>if v.oneCell' then(match Gu r with|some l=>aE (v::l)|none=>bb)else bb
 | _::_=>bb
def clip(sz:Nat)(es:List (List D)):D:=match Gu es with
 | some vs=>if sz=1 then .mM vs else .sl sz es
 | none=>.sl sz es
def JV(env:il)(sz:Nat)(x:D)(lo:Option X)(hi mx:X)(H:gg)(K:kd):Prop:=
 match iC env lo 0,iC env (aE hi) 0,iC env (aE mx) 0 with
 | some l,aE h,aE m=>match x with
  | .sl a es=>a=sz/\(0<=l/\l<=h/\h=m/\m<=es.l)/\K (clip sz ((es.drop l.n).take (h.n-l.n))) H
  | .gh v g a off len=>a=sz/\(0<=l/\l<=h/\h<=m/\m<=len)/\K (.gh v g sz (off+l.n) (h.n-l.n)) H
  | .gp=>(l=0/\h=0/\m=0)/\K .gp H
  | _=>False
 | _,_,_=>False
def JW(env:il)(sz n:Nat)(x:D)(lo hi:Option X)(H:gg)(K:kd):Prop:=
 match x,iC env lo 0,iC env hi n with
 | .gH cs,aE l,aE h=>(sz=1/\n<=cs.l/\n<=16777216/\0<=l/\l<=h/\h<=n)/\K (.sl 1 (((cs.drop l.n).take (h.n-l.n)).map λd=>[d])) H
 | .ptr v g o,aE l,aE h=>match rowAt H v g with
  | some (_,cs)=>(o % sz=0/\o+n*sz<=cs.l/\n<=16777216/\0<=l/\l<=h/\h<=n)/\K (.gh v g sz (o / sz+l.n) (h.n-l.n)) H
  | none=>False
 | _,_,_=>False
def Gh(env:il)(x:D)(lo hi:Option X)(H:gg)(K:kd):Prop:=
 match x with
 | .val (.string s)=>match iC env lo 0,iC env hi s.size with
  | some l,aE h=>(0<=l/\l<=h/\h<=s.size)/\K (.val (.string (s.extract l.n h.n))) H
  | _,_=>False
 | _=>False
def lN(sz:Nat)(H:gg):D->Option (List D×Nat)
 | .sl a es=>if a=sz then aE (es.flatten,es.l)else bb
 | .gp=>aE ([],0)
 | .mM vs=>if sz=1 then aE (vs.map .val,vs.l)else bb
 | .gh v g a off len=>match rowAt H v g with
  | some (_,cs)=>if a=sz/\(off+len)*sz<=cs.l then aE ((cs.drop (off*sz)).take (len*sz),len)else bb
  | none=>bb
 | _=>bb
def Hf(t sz bytes:Nat)(x y:D)(H:gg)(al:Al)(K:kd):Prop:=
 match lN sz H y with
 | some (ys,n)=>match x with
  | .gh v g a off len=>match rowAt H v g with
   | some (t',cs)=>(a=sz/\t'=t/\(off+len)*sz<=cs.l/\(len+n)*bytes<=140737488355328/\len+n<=9223372036854775807) /\
     K (.gh v (g+1) sz 0 (len+n)) (H.set v (.row t (g+1) ((cs.drop (off*sz)).take (len*sz)++ys)))
   | none=>False
  | .mM vs=>(n≠0/\sz=1/\(vs.l+n)*bytes<=140737488355328/\vs.l+n<=9223372036854775807)/\K (.gh al.1 0 sz 0 (vs.l+n)) (al.2 (.row t 0 (vs.map .val++ys)))
  | .gp=>if n=0 then K .gp H else(n*bytes<=140737488355328/\n<=9223372036854775807)/\K (.gh al.1 0 sz 0 n) (al.2 (.row t 0 ys))
  | _=>False
 | none=>False
def HM(sz:Nat)(x y:D)(H:gg)(K:kd):Prop:=
 match x,lN sz H y with
 | .gh v g iq off len,aE (ys,n)=>match rowAt H v g with
  | some (t,cs)=>(iq=sz/\(off+len)*sz<=cs.l) /\
    K (.val (.int .i64 (min n len:Nat))) (H.set v (.row t g (cs.take (off*sz)++ys.take (min n len*sz)++cs.drop (off*sz+min n len*sz))))
  | none=>False
 | .gp,aE _=>K (.val (.int .i64 0)) H
 | _,_=>False
def Jg(k:B3)(x:D)(H:gg)(K:kd):Prop:=
 match k,x with
 | .slice,.sl _ es=>K (.val (.int .i64 es.l)) H
 | .slice,.gp=>K (.val (.int .i64 0)) H
 | .slice,.mM vs=>K (.val (.int .i64 vs.l)) H
 | .slice,.gh _ _ _ _ len=>K (.val (.int .i64 len)) H
 | .string,.val (.string s)=>K (.val (.int .i64 s.size)) H
 | .map,.gM v=>match mq H v with
  | some (_,es)=>K (.val (.int .i64 es.l)) H
  | none=>False
 | _,_=>False
def tq(env:il):List X->Option (List Int)
 | []=>aE []
 | x::r=>match ev env x,tq env r with
  | .val (.int .i64 n),aE l=>aE (n::l)
  | _,_=>bb
def Jp(env:il)(d:Bool)(xs:List X)(H:gg)(K:kd):Prop:=
 match tq env xs with
 | some [a,b]=>K (.val (.int .i64 (if d then max a b else min a b))) H
 | some [a,b,c]=>K (.val (.int .i64 (if d then max (max a b) c else min (min a b) c))) H
 | _=>False
def Js(x:D)(H:gg)(K:kd):Prop:=
 match x with
 | .ptr v g o=>K (.ptr v g o) H
 | .gH cs=>K (.gH cs) H
 | .fn (.func f) a b=>K (.fn (.func f) a b) H
 | .jt v=>K (.jt v) H
 | _=>False
def HH(k:IntKind)(x:D)(H:gg)(K:kd):Prop:=
 match x with
 | .val (.int _ n)=>K (.val (.int k (k.wrap n))) H
 | _=>False
def bytesOf:List D->Option (List Int)
 | []=>aE []
 | .val (.int .u8 n)::r=>match bytesOf r with
  | some l=>aE (n::l)
  | none=>bb
 | _=>bb
def Hl(x:D)(H:gg)(K:kd):Prop:=
 match lN 1 H x with
 | some (ys,_)=>match bytesOf ys with
  | some a=>K (.val (.string (a.foldl (λr n=>r.push (UInt8.ofNat n.n)) ByteArray.empty))) H
  | none=>False
 | none=>False
def Ha(env:il)(H:gg)(al:Al)(K:kd):jh->Prop
 | .mv x=>K (ev env x) H
 | .pick c a b=>Jy (ev env c) (ev env a) (ev env b) H K
 | .box t x=>Hq t (ev env x) al K
 | .alloc t z=>K (.ptr al.1 0 0) (al.2 (.row t 0 z))
 | .build z ps=>Ca env z ps H K
 | .buildSl t sz z n ps=>Hr env t sz z n ps al K
 | .ld1 x=>Je (ev env x) H K
 | .ldN n x=>Jf n (ev env x) H K
 | .st1 a x=>J0 (ev env a) (ev env x) H K
 | .stN n a x=>J2 n (ev env a) (ev env x) H K
 | .nilck x=>Js (ev env x) H K
 | .arith op x y=>Hm op (ev env x) (ev env y) H K
 | .eqS e ls neg x y=>yd e ls neg (ev env x) (ev env y) H K
 | .un op x=>Ka op (ev env x) H K
 | .conv k x=>HH k (ev env x) H K
 | .b2s x=>Hl (ev env x) H K
 | .mkfn f first cap=>K (.fn f (first.map (ev env)) (cap.map (ev env))) H
 | .mkmap kk=>K (.gM al.1) (al.2 (.map kk []))
 | .mksl t sz bytes z l c=>Jq t sz bytes z (ev env l) (ev env c) al K
 | .slc sz x lo hi=>JX env sz (ev env x) lo hi H K
 | .slcS x lo hi=>Gh env (ev env x) lo hi H K
 | .slc3 sz x lo hi mx=>JV env sz (ev env x) lo hi mx H K
 | .slcArr sz n x lo hi=>JW env sz n (ev env x) lo hi H K
 | .fieldA off x=>HY off (ev env x) H K
 | .field off n e x=>Cx off n e (ev env x) H K
 | .idxA sz x i=>I6 sz (ev env x) (ev env i) H K
 | .idxArr sz n x i=>I7 sz n (ev env x) (ev env i) H K
 | .idx sz n e x i=>I9 sz n e (ev env x) (ev env i) H K
 | .idxStr x i=>I' (ev env x) (ev env i) H K
 | .lookup kk z ok m k=>Jj kk z ok (ev env m) (ev env k) H K
 | .mapUpd kk m k x=>Jm kk (ev env m) (ev env k) (ev env x) H K
 | .ext x i=>HT (ev env x) i H K
 | .call _ _ | .callN _ _ | .callv _ _=>False
 | .app t sz bytes x y=>Hf t sz bytes (ev env x) (ev env y) H al K
 | .copy sz x y=>HM sz (ev env x) (ev env y) H K
 | .len k x=>Jg k (ev env x) H K
 | .minmax d xs=>Jp env d xs H K
 | .nilS .. | .capE .. | .appZ .. | .clr .. | .rangeS .. | .nextS .. | .rangeM .. | .nextM .. | .entry .. | .mapEnt .. | .entSt .. => False
def put(env:Env)(dst:Option Nat)(d:D):Env:=match dst with
 | some k=>(k,d)::env
 | none=>env
def Ctx.set(c:Ctx)(v k:Nat)(L:Loc):Ctx:={ c with ι:=λu l=>if u=v/\l=k then aE L else c.ι u l }
def Ctx.tZ(c:Ctx)(v k:Nat)(L:Loc):(c.set v k L).ι v k=aE L:=by simp[Ctx.set]
def Ctx.xO(c:Ctx){v k u l:Nat}(L:Loc)(h:¬(u=v/\l=k)):(c.set v k L).ι u l=c.ι u l:=by simp only[Ctx.set];rw[if_neg h]
structure yS(H:gg)(v:Nat)(ob:Ob)(H':gg):Prop where
 get:∀u,H'[u]? = if u=v then aE ob else H[u]?
 free:H.l<=v\/H[v]? = aE .mF
 len:H.l<=H'.l
def yS.last(H:gg)(ob:Ob):yS H H.l ob (H ++ [ob]) where
 get u:=by
  split
  .rename_i h;subst h;simp
  .rename_i h;rcases bJ u H.l with h1|h1
   .rw[ah h1]
   .rw[cG gO,cG h1]
 free:=.inl (cj _)
 len:=gf
theorem yS.mF{H:gg}{v:Nat}(h:H[v]? = aE .mF)(ob:Ob):yS H v ob (H.set v ob) where
 get u:=by
  have:=(ae.1 h).1;rw[bX];split
  .rename_i e;subst e;simp[this]
  .rename_i e;rw[if_neg (cH e)]
 free:=.inr h
 len:=gf
def oD(H:gg)(al:Al):Prop:=∀ob,yS H al.1 ob (al.2 ob)
theorem oD.last(H:gg):oD H (Al.last H):=λob=>yS.last H ob
theorem oD.mF{H:gg}{v:Nat}(h:H[v]? = aE .mF):oD H (Al.mF H v):=λob=>yS.mF h ob
structure kN(w w':World):Prop where
 os:w'.os=w.os/\w.drawn<=w'.drawn
 tape:w'.tape=w.tape
 output:w'.output=w.output
 size:w.heap.size<=w'.heap.size
 kept:∀b,b<w.heap.size->w'.heap[b]? = w.heap[b]?
def kN.refl(w:World):kN w w:=⟨⟨rfl,cj _⟩,rfl,rfl,cj _,λ_ _=>rfl⟩
theorem kN.alloc(w:World)(o:Obj):kN w (w.alloc o):=
 ⟨⟨rfl,cj _⟩,rfl,rfl,gf,λb h=>by simp only[World.alloc,eQ];rw[if_neg U]⟩
theorem kN.trans{a b c:World}(h:kN a b)(k:kN b c):kN a c:=
 ⟨⟨k.os.1.trans h.os.1,cp h.os.2 k.os.2⟩,k.tape.trans h.tape,k.output.trans h.output,cp h.size k.size,λi hi=>(k.kept i (aR hi h.size)).trans (h.kept i hi)⟩
theorem kN.drew(w:World):kN w w.drew:=⟨⟨rfl,Nat.le_succ _⟩,rfl,rfl,cj _,λ_ _=>rfl⟩
def DZ(n:Nat){c:Ctx}{H:gg}{w w':World}(hg:kN w w'):Step n c H w c H w':=
 ⟨hg.os,hg.tape,hg.output,hg.size,rfl,λ_ h=>h,λ_ h=>.inl h,λb a _=>hg.kept b a,λ_ _ _ _ h=>h,λ_ h=>.inr h⟩
def G4.mono{c c':Ctx}{w w':World}(j:∀v d,gq c w v d->gq c' w' v d){arr:Array MapEntry}{f:Nat}{es:List (Value×D)}(h:G4 c w arr f es):G4 c' w' arr f es:=
 ⟨h.1,λi e x k g=>let ⟨a,b,d⟩:=h.2.1 i e x k g;⟨a,j _ _ b,d⟩,h.2.2⟩
def iy.keep{c c':Ctx}{w w':World}(u:c'.RT=c.RT)(q:∀v d,gq c w v d->gq c' w' v d){L:Option Loc}{o:Ob}
  (f:∀l,L=aE l->l.ko=bs->o.alive=b4->w'.heap[l.b]? = w.heap[l.b]?) (h:iy c w L o):iy c' w' L o:=by
 cases o with
 | dead=>simp[iy]
 | mF=>simpa[iy]using h
 | row t g cs=>
  cases L with
  | none=>simp[iy]at h
  | some l=>
   simp only[iy]at h ⊢;split
   .rename_i a;simpa[a]using h
   .rename_i a;simp only[a]at h;obtain⟨arr,h1,b,n,j⟩:=h;refine⟨arr,by rw[f l rfl (by simpa using a) rfl];exact h1,b,n,λi d A=>?_⟩;obtain⟨v,y,x,C⟩:=j i d A;exact⟨v,y,x,q _ _ C⟩
 | map kk es=>
  cases L with
  | none=>simp[iy]at h
  | some l=>
   simp only[iy]at h ⊢;obtain⟨a,z,arr,e,h1,b⟩:=h;exact⟨a,z,arr,e,by rw[f l rfl a rfl];exact h1,b.mono q⟩
 | iE rf env st=>
  cases L with
  | none=>simp[iy]at h
  | some l=>
   simp only[iy]at h ⊢;obtain⟨a,r,h1,b,n,j⟩:=h;exact⟨a,r,by rw[f l rfl a rfl];exact h1,λk=>q _ _ (b k),by rw[u];exact n,j⟩
 | ua s p=>
  cases L with
  | none=>simp[iy]at h
  | some l=>
   simp only[iy]at h ⊢;exact⟨h.1,h.2.1,by rw[f l rfl h.1 rfl];exact h.2.2⟩
 | jG m since seen=>
  cases L with
  | none=>simp[iy]at h
  | some l=>
   simp only[iy]at h ⊢;obtain⟨h1,b,B,n,j⟩:=h;exact⟨h1,b,B,q _ _ n,by rw[f l rfl h1 rfl];exact j⟩
 | ka=>
  cases L with
  | none=>simp[iy]at h
  | some l=>
   simp only[iy]at h ⊢
   by_cases a:l.ko=b4
   .exact .inl a
   .exact .inr (by rw[f l rfl (by simpa using a) rfl];exact h.resolve_left a)
def gL.rm{G:GT}{c:Ctx}{H:gg}{w w':World}(h:gL G c H w)(hg:kN w w'):gL G c H w':=by
 have hs:=DZ H.l (c:=c) (H:=H) hg;have i:∀v d,gq c w v d->gq c w' v d:=λv d e=>e.rG h.toHeapOK hs
 exact{
  inj:=h.inj
  lt:=λb f=>aR (h.lt b f) hg.size
  nF:=h.nF
  lF:=λb f=>aR (h.lF b f) hg.size
  out:=h.out
  nC:=h.nC
  ob:=λv o j=>(h.ob v o j).keep rfl i λl hl m e=>hg.kept _ (h.lt _ ⟨v,l,⟨o,j,e,hl⟩,m,rfl⟩)
  gl:=λg cs k=>let ⟨a,b⟩:=h.gl g cs k;⟨a,i _ _ b⟩
  rt:=h.rt }
structure Av(H:gg)(v:Nat)(ob:Ob)(H':gg):Prop where
 get:∀u,H'[u]? = if u=v then aE ob else H[u]?
 free:H.l<=v\/H[v]? = aE .mF\/∃o,H[v]? = aE o/\o.alive=b4/\o.gen<ob.gen
 len:H.l<=H'.l
def yS.vK{H:gg}{v:Nat}{ob:Ob}{H':gg}(h:yS H v ob H'):Av H v ob H':=⟨h.get,h.free.imp id .inl,h.len⟩
def Gq{c:Ctx}{H H':gg}{v:Nat}{ob:Ob}{L:Loc}(d:Av H v ob H'){u:Nat}{l:Loc}(h:mJ (c.set v ob.gen L) H' u l) :
  (u=v/\l=L)\/(u≠v/\mJ c H u l):=by
 obtain⟨o,a,f,b⟩:=h;rw[d.get]at a;split at a
 .rename_i e;cases a;subst e;rw[Ctx.tZ]at b;cases b;exact .inl ⟨rfl,rfl⟩
 .rename_i e;rw[Ctx.xO _ _ (λh=>e h.1)]at b;exact .inr ⟨e,o,a,f,b⟩
def acQ{G:GT}{c:Ctx}{H H':gg}{w:World}{v:Nat}{ob:Ob}(h:gL G c H w)(b:Av H v ob H')(k:Nat)(f:ob.gen<=k):c.ι v k=none:=by
 rcases b.free with a|a|⟨o,d,e,hg⟩
 .exact h.out v k a
 .exact h.nC v _ k a (.inl rfl)
 .exact h.nC v o k d (.inr ⟨e,U⟩)
def acR{G:GT}{c:Ctx}{H H':gg}{w:World}{v:Nat}{ob:Ob}{L:Loc}(h:gL G c H w)(b:Av H v ob H')(u k:Nat)(l:Loc)(a:c.ι u k=aE l):(c.set v ob.gen L).ι u k=aE l:=by
 rw[Ctx.xO]
 .exact a
 .rintro⟨rfl,rfl⟩;rw[acQ h b _ (cj _)]at a;cases a
def QE{G:GT}{c:Ctx}{H H':gg}{w w':World}{v:Nat}{ob:Ob}(h:gL G c H w)(d:Av H v ob H')(hg:kN w w')(L:Loc)
  (f:L.ko=bs->w.heap.size<=L.b/\L.b<w'.heap.size):Step H.l c H w (c.set v ob.gen L) H' w' where
 os:=hg.os
 tape:=hg.tape
 output:=hg.output
 size:=hg.size
 RT:=rfl
 Fm _ h:=h
 Fn _ h:=.inl h
 kept b hb _:=hg.kept b hb
 old u k l _ gC:=acR h d u k l gC
 own b hb:=by
  obtain⟨u,l,hl,a,e⟩:=hb;rcases Gq d hl with⟨_,rfl⟩|⟨_,hl⟩
  .exact .inl (e▸(f a).1)
  .exact .inr ⟨u,l,hl,a,e⟩
def Vg{G:GT}{c:Ctx}{H H':gg}{w w':World}{v:Nat}{ob:Ob}(h:gL G c H w)(f:Av H v ob H')(hg:kN w w')(L:Loc)
  (n:L.ko=bs->w.heap.size<=L.b/\L.b<w'.heap.size) (D:ob.alive=b4) (E:iy (c.set v ob.gen L) w' (aE L) ob):gL G (c.set v ob.gen L) H' w':=by
 have hs:=QE h f hg L n;have x:∀u d,gq c w u d->gq (c.set v ob.gen L) w' u d:=λu d r=>r.rG h.toHeapOK hs;have p:∀u l,mJ c H u l->l.ko=bs->l.b<w.heap.size:=λu l hl j=>h.lt _ ⟨u,l,hl,j,rfl⟩
 have K:v<H'.l:=by have:=f.get v;rw[if_pos rfl]at this;exact(ae.1 this).1
 exact{
  inj:=by
   intro u B l C h1 J t s I;rcases Gq f h1 with⟨rfl,rfl⟩|⟨_,b⟩<;>rcases Gq f J with⟨rfl,rfl⟩|⟨_,z⟩
   .rfl
   .have:=(n t).1;have:=p _ _ z s;omega
   .have:=(n s).1;have:=p _ _ b t;omega
   .exact h.inj u B l C b z t s I
  lt:=λb m=>by
   obtain⟨u,l,hl,j,e⟩:=m;rcases Gq f hl with⟨_,rfl⟩|⟨_,hl⟩
   .exact e▸(n j).2
   .exact e▸aR (p u l hl j) hg.size
  nF:=λb m y=>by
   obtain⟨u,l,hl,j,e⟩:=m;rcases Gq f hl with⟨_,rfl⟩|⟨_,hl⟩
   .have:=h.lF b y;have:=(n j).1;omega
   .exact h.nF b ⟨u,l,hl,j,e⟩ y
  lF:=λb m=>aR (h.lF b m) hg.size
  out:=λu k F=>by rw[Ctx.xO _ _ (by rintro⟨rfl,_⟩;omega)];exact h.out u k (cp f.len F)
  nC:=λu o k i q=>by
   rw[f.get]at i;split at i
   .rename_i e;cases i;subst e;rcases q with rfl|⟨_,q⟩
    .cases D
    .rw[Ctx.xO _ _ (by rintro⟨_,rfl⟩;omega)];exact acQ h f k U
   .rename_i e;rw[Ctx.xO _ _ (λh=>e h.1)];exact h.nC u o k i q
  ob:=λu o i=>by
   rw[f.get]at i;split at i
   .rename_i e;cases i;subst e;rw[Ctx.tZ];exact E
   .rename_i e;rw[Ctx.xO _ _ (λh=>e h.1)];exact iy.keep (c:=c) (c':=c.set v ob.gen L) rfl x (λl hl j r=>hg.kept _ (p u l ⟨o,i,r,hl⟩ j)) (h.ob u o i)
  gl:=λg cs A=>let ⟨a,b⟩:=h.gl g cs A;⟨a,x _ _ b⟩
  rt:=h.rt }
structure Cells(c:Ctx)(w:World)(vs:List Value)(cs:List D):Prop where
 len:vs.l=cs.l
 one:∀v∈vs,v.oneCell'=b4
 rep:∀(i:Nat) (v:Value) (d:D),vs[i]? = aE v->cs[i]? = aE d->gq c w v d
def FY{G:GT}{c:Ctx}{H H':gg}{v gen:Nat}{w:World}(h:gL G c H w)(a:World)(hg:kN w a)(t:TypeId)(vs:List Value)(cs:List D)(n:Nat)(arr:Array Value)
  (l:Av H v (.row t gen cs) H') (g:Cells c w vs cs) (j:arr.toList.take n=vs) (p:n<=arr.size) :
  ∃L:Loc,L.ko=bs/\L.b=a.heap.size/\L.base=0/\L.top=arr.size /\
   gL G (c.set v gen L) H' (a.alloc (.cells arr t))/\Step H.l c H w (c.set v gen L) H' (a.alloc (.cells arr t)):=by
 have k:=hg.trans (kN.alloc a (.cells arr t));refine⟨⟨a.heap.size,0,arr.size,bs⟩,rfl,rfl,rfl,rfl,?_⟩;have m:(⟨a.heap.size,0,arr.size,bs⟩:Loc).ko=bs->w.heap.size<=(⟨a.heap.size,0,arr.size,bs⟩:Loc).b/\(⟨a.heap.size,0,arr.size,bs⟩:Loc).b<(a.alloc (.cells arr t)).heap.size:=λ_=>⟨hg.size,gf⟩;have hs:=QE h l k ⟨a.heap.size,0,arr.size,bs⟩ m;refine⟨Vg h l k _ m rfl ?_,hs⟩;have o:∀u d,gq c w u d->gq (c.set v gen ⟨a.heap.size,0,arr.size,bs⟩) (a.alloc (.cells arr t)) u d:=λu d e=>e.rG h.toHeapOK hs;have b:cs.l=n:=by rw[<-g.len,<-j];simp;omega
 simp only[iy,Ob.gen];refine⟨arr,heap_alloc_new _ _,rfl,gO,λi d e=>?_⟩;have hi:i<cs.l:=(ae.1 e).1;have f:i<arr.size:=U;refine⟨arr[i],by simp[f],?_,?_⟩
 .exact g.one _ (by rw[<-j];exact List.mem_of_getElem? (i:=i) (by rw[aJ];simp[b▸hi,f]))
 .exact o _ _ (g.rep i _ d (by rw[<-j,aJ];simp[b▸hi,f]) e)
def tY{H:gg}{v:Nat}{ob:Ob}(a:v<H.l)(u:Nat):(H.set v ob)[u]? = if u=v then aE ob else H[u]? := by
 rw[bX];split
 .rename_i e;subst e;simp[a]
 .rename_i e;rw[if_neg (cH e)]
def aps{c:Ctx}{H:gg}{v:Nat}{ob ob':Ob}(b:H[v]? = aE ob)(g:ob.alive=b4)(hg:ob'.gen=ob.gen){u:Nat}{l:Loc}(h:mJ c (H.set v ob') u l):mJ c H u l:=by
 obtain⟨o,a,f,d⟩:=h;rw[tY (ae.1 b).1]at a;split at a
 .rename_i e;cases a;subst e;exact⟨ob,b,g,by rw[<-hg];exact d⟩
 .exact⟨o,a,f,d⟩
def ada{G:GT}{c:Ctx}{H:gg}{w:World}(h:gL G c H w){v:Nat}{ob ob':Ob}(j:H[v]? = aE ob)(s:ob.alive=b4)(F:ob'.alive=b4)(A:ob'.gen=ob.gen){L:Loc}(z:c.ι v ob.gen=aE L)(y:L.ko=bs)
  {w':World} (J:w'.os=w.os/\w.drawn<=w'.drawn) (T:w'.tape=w.tape) (K:w'.output=w.output) (B:w'.heap.size=w.heap.size)
  (x:∀b,b≠L.b->w'.heap[b]? = w.heap[b]?) (P:(∀u d,gq c w u d->gq c w' u d)->iy c w' (aE L) ob') :
  gL G c (H.set v ob') w'/\Step H.l c H w c (H.set v ob') w':=by
 have C:mJ c H v L:=⟨ob,j,s,z⟩;have E:mZ c H L.b:=⟨v,L,C,y,rfl⟩;have t:∀u l,mJ c (H.set v ob') u l->mJ c H u l:=λu l hl=>aps j s A hl;have m:∀b,mZ c (H.set v ob') b->mZ c H b:=λb ⟨u,l,hl,r⟩=>⟨u,l,t u l hl,r⟩
 have hs:Step H.l c H w c (H.set v ob') w':=
  ⟨J,T,K,U,rfl,λ_ h=>h,λ_ h=>.inl h,λb _ R=>x b (λe=>R (e▸E)),λ_ _ _ _ h=>h,λb i=>.inr (m b i)⟩
 have n:∀u d,gq c w u d->gq c w' u d:=λu d q=>q.rG h.toHeapOK hs
 refine⟨{
  inj:=λu I l N h1 S=>h.inj u I l N (t _ _ h1) (t _ _ S)
  lt:=λb i=>by rw[B];exact h.lt b (m b i)
  nF:=λb i=>h.nF b (m b i)
  lF:=λb i=>by rw[B];exact h.lF b i
  out:=λu k Q=>h.out u k (by simpa using Q)
  nC:=λu o k f p=>by
   rw[tY (ae.1 j).1]at f;split at f
   .rename_i e;cases f;subst e;rcases p with rfl|⟨_,p⟩
    .cases F
    .exact h.nC u ob k j (.inr ⟨s,U⟩)
   .exact h.nC u o k f p
  ob:=λu o f=>by
   rw[tY (ae.1 j).1]at f;split at f
   .rename_i e;cases f;subst e;rw[A,z];exact P n
   .rename_i O;exact(h.ob u o f).keep rfl n λl hl M q=>x _ λe=>O (h.inj u v l L ⟨o,f,q,hl⟩ C M y e)
  gl:=λg cs D=>let ⟨a,b⟩:=h.gl g cs D;⟨a,n _ _ b⟩
  rt:=h.rt },hs⟩
def Gw{G:GT}{c:Ctx}{H:gg}{w:World}(h:gL G c H w){v g:Nat}{t:TypeId}{cs:List D}(p:H[v]? = aE (.row t g cs)){L:Loc}(z:c.ι v g=aE L)(j:L.ko=bs)
  {arr:Array Value} (n:w.heap[L.b]? = aE (.cells arr t (0,0))) (a:Array Value) (o:a.size=arr.size) (k:L.top=arr.size) (e:List D) (f:L.base+e.l<=L.top)
  (s:∀(i:Nat) (d:D),e[i]? = aE d->∃u,a[L.base+i]? = aE u/\u.oneCell'=b4/\gq c w u d) :
  gL G c (H.set v (.row t g e)) (w.setRow L.b a)/\Step H.l c H w c (H.set v (.row t g e)) (w.setRow L.b a):=by
 refine ada (w':=w.setRow L.b a) (ob':=.row t g e) h p rfl rfl rfl z j ⟨rfl,cj _⟩ rfl rfl (by simp[World.setRow]) (λb y=>by simp only[World.setRow,bk];rw[if_neg (cH y)]) λq=>?_;simp only[iy,j];refine⟨a,setRow_heap w L.b arr _ t _ n,by rw[k,o],f,λi d r=>?_⟩;obtain⟨x,m,l,A⟩:=s i d r;exact⟨x,m,l,q _ _ A⟩
def uT:Value->D
 | .slice bb 0 0=>.gp
 | v=>.val v
def NV:Value->Option D
 | .slice bb 0 0=>aE .gp
 | .agg cs=>if cs.all (·.oneCell')then aE (.agg (cs.toList.map uT))else bb
 | .tuple _=>bb
 | v=>aE (.val v)
def cX(G:GT):Operand->Option X
 | .tmp t=>aE (.t t)
 | .const v=>(NV v).map .c
 | .global g=>(G g).map λcs=>.c (.gH cs)
 | .func f=>aE (.c (.fn (.func f) [] []))
def y5(G:GT):List Operand->Option (List X)
 | []=>aE []
 | x::r=>match cX G x,y5 G r with
  | some a,aE l=>aE (a::l)
  | _,_=>bb
def AB(G:GT):List (Nat×Operand)->Option (List (Nat×X))
 | []=>aE []
 | (i,x)::r=>match cX G x,AB G r with
  | some a,aE l=>aE ((i,a)::l)
  | _,_=>bb
def tG(G:GT):Option Operand->Option (Option X)
 | none=>aE bb
 | some x=>(cX G x).map aE
def lg(P:Program)(t:TypeId):Option Nat:=(P.info? t).map (·.size)
def sZ(P:Program)(t:TypeId):Option (List D):=match (P.info? t).bind (·.zero)with
 | some z=>if z.cells.all (·.oneCell')then aE (z.cells.toList.map uT)else bb
 | none=>bb
def qc(P:Program)(t:TypeId):Option Bool:=match P.underlying t with
 | some (.struct _)|some (.array _ _)=>aE b4
 | some _=>aE bs
 | none=>bb
def aaj(P:Program)(t:TypeId):Bool:=match P.underlying t with
 | some (.int _)|some .string|some .bool=>b4
 | _=>bs
def NG(P:Program)(t:TypeId):Bool:=match P.underlying t with
 | some .bool=>b4
 | _=>bs
def zK(P:Program)(t:TypeId):Option nI:=match P.underlying t with
 | some (.int _)=>aE .int
 | some .string=>aE .str
 | some .bool=>aE .bool
 | _=>bb
def Oc(P:Program):Nat->List Field->Option (List nI)
 | _,[]=>aE []
 | i,f::r=>match zK P f.type,Oc P (i+1) r with
  | some l,aE ls=>if f.offset=i/\f.name≠ "_" then aE (l::ls)else bb
  | _,_=>bb
def Od(P:Program)(t:TypeId):Option (List nI):=match P.underlying t with
 | some (.struct fs)=>if P.stoodInHeld t=bs/\P.eqGuardType P.depth t=bs then Oc P 0 fs.toList else bb
 | some (.array n e)=>if P.eqGuardType P.depth t=bs/\P.cellsOf e=1/\(P.info? e).isSome=b4 then(zK P e).map (di n)else bb
 | _=>bb
def Jz(P:Program)(fs:Array Field):List (Nat×X)->Option (List (Nat×Nat×X))
 | []=>aE []
 | (i,x)::r=>match fs[i]?,Jz P fs r with
  | some f,aE l=>(lg P f.type).map λn=>(f.offset,n,x)::l
  | _,_=>bb
def Yh(P:Program)(fs:Array Field):Bool:=fs.all λf=>(lg P f.type).isSome
def uu(P:Program)(f:FuncId):Bool:=match P.funcs[f]? with
 | some fn=>fn.name != "runtime.NumGoroutine" && fn.body.isSome
 | none=>bs
def Dn(P:Program):Nat->List Field->Option (List IntKind)
 | _,[]=>aE []
 | i,f::r=>match P.underlying f.type,Dn P (i+1) r with
  | some (.int k),aE ks=>if f.offset=i/\f.name≠ "_" then aE (k::ks)else bb
  | _,_=>bb
def wC(P:Program)(t:TypeId):Option KK:=match P.underlying t with
 | some (.struct fs)=>if P.stoodInHeld t=bs then(Dn P 0 fs.toList).map .ints else bb
 | some (.int k)=>aE (.int k)
 | some .string=>aE .str
 | some .bool=>aE .bool
 | _=>bb
def Gx(P:Program)(t:TypeId):Option D:=(P.info? t).bind λi=>i.zero.bind NV
def oR(P:Program)(G:GT)(o:Oper):Option jh:=
 match o.op with
 | .move x=>do let a <-cX G x;pure (.mv a)
 | .assign x=>do let a <-cX G x;pure (.mv a)
 | .pick c a b=>do pure (.pick (<-cX G c) (<-cX G a) (<-cX G b))
 | .box e x=>do pure (.box e (<-cX G x))
 | .alloc e=>do pure (.alloc e (<-sZ P e))
 | .build t ps=>do
  let z <-sZ P t
  let l <-AB G ps.toList
  match P.underlying t with
  | some (.struct fs)=>if Yh P fs then do pure (.build z (<-Jz P fs l))else bb
  | some (.array _ e)=>do
   let sz <-lg P e
   pure (.build z (l.map λp=>(p.1*sz,sz,p.2)))
  | _=>bb
 | .buildSlice t n ps=>do
  let .slice e <-P.underlying t|none
  let z <-sZ P e
  let sz <-lg P e
  let l <-AB G ps.toList
  if z.l=sz/\0<sz/\n*sz<=16777216 then pure (.buildSl e sz z n l)else bb
 | .load t a=>do
  let x <-cX G a
  let n <-lg P t
  if <-qc P t then pure (.ldN n x)else pure (.ld1 x)
 | .store t a v=>do
  let x <-cX G a
  let y <-cX G v
  let n <-lg P t
  if <-qc P t then pure (.stN n x y)else if n=1 then pure (.st1 x y)else bb
 | .nilCheck x=>do pure (.nilck (<-cX G x))
 | .binOp op t x y _=>do
  let a <-cX G x
  let b <-cX G y
  match op with
  | .eql=>if NG P t then pure (.eqS bs [.bool] bs a b)else if aaj P t then pure (.arith .eql a b)else do pure (.eqS b4 (<-Od P t) bs a b)
  | .neq=>if NG P t then pure (.eqS bs [.bool] b4 a b)else if aaj P t then pure (.arith .neq a b)else do pure (.eqS b4 (<-Od P t) b4 a b)
  | op=>pure (.arith op a b)
 | .unOp op _ x=>do pure (.un op (<-cX G x))
 | .convert s d x=>do
  let a <-cX G x
  let _ <-P.underlying s
  match P.underlying d with
  | some (.int k)=>pure (.conv k a)
  | some .string=>do
   let .slice e <-P.underlying s|none
   let .int .u8 <-P.underlying e|none
   pure (.b2s a)
  | _=>bb
 | .makeFunc f first cap=>do pure (.mkfn f (<-y5 G first.toList) (<-y5 G cap.toList))
 | .makeMap t bb=>do
  let .map k _ <-P.underlying t|none
  pure (.mkmap (<-wC P k))
 | .lookup t x i ok=>do
  let .map k e <-P.underlying t|none
  let z <-Gx P e
  pure (.lookup (<-wC P k) z ok (<-cX G x) (<-cX G i))
 | .mapUpdate t m k v=>do
  let .map kt _ <-P.underlying t|none
  pure (.mapUpd (<-wC P kt) (<-cX G m) (<-cX G k) (<-cX G v))
 | .insert t m k v=>do
  let .map kt _ <-P.underlying t|none
  pure (.mapUpd (<-wC P kt) (<-cX G m) (<-cX G k) (<-cX G v))
 | .makeSlice t l c=>do
  let .slice e <-P.underlying t|none
  let z <-sZ P e
  let i <-P.info? e
  if z.l=i.size/\0<i.size then pure (.mksl e i.size i.bytes z (<-cX G l) (<-cX G c))else bb
 | .slice t x lo hi bb=>do
  let a <-cX G x
  let l <-tG G lo
  let h <-tG G hi
  match P.underlying t with
  | some (.slice e)=>do pure (.slc (<-lg P e) a l h)
  | some .string=>pure (.slcS a l h)
  | some (.array n e)=>do pure (.slcArr (<-lg P e) n a l h)
  | _=>bb
 | .slice t x lo (aE hi) (aE mx)=>do
  let a <-cX G x
  let l <-tG G lo
  let h <-cX G hi
  let m <-cX G mx
  let .slice e <-P.underlying t|none
  pure (.slc3 (<-lg P e) a l h m)
 | .fieldAddr t x f=>do
  let a <-cX G x
  let .struct fs <-P.underlying t|none
  let g <-fs[f]?
  let n <-lg P g.type
  if 0<n then pure (.fieldA g.offset a)else bb
 | .field t x f=>do
  let a <-cX G x
  let .struct fs <-P.underlying t|none
  let g <-fs[f]?
  let n <-lg P g.type
  pure (.field g.offset n (<-qc P g.type) a)
 | .indexAddr t x i=>do
  let a <-cX G x
  let j <-cX G i
  match P.underlying t with
  | some (.slice e)=>do
   let n <-lg P e
   if 0<n then pure (.idxA n a j)else bb
  | some (.array n e)=>do pure (.idxArr (<-lg P e) n a j)
  | _=>bb
 | .index t x i=>do
  let a <-cX G x
  let j <-cX G i
  match P.underlying t with
  | some (.array n e)=>do pure (.idx (<-lg P e) n (<-qc P e) a j)
  | some .string=>pure (.idxStr a j)
  | _=>bb
 | .extract x i=>do pure (.ext (<-cX G x) i)
 | .call c=>do
  let args <-y5 G c.args.toList
  match c.callee with
  | .value (.func f)=>if uu P f then pure (if G.nw f then .callN f args else .call f args)else bb
  | .value f=>do pure (.callv (<-cX G f) args)
  | .builtin .append=>match c.argTypes.toList,args with
   | [t,u],[x,y]=>do
    let .slice e <-P.underlying t|none
    let i <-P.info? e
    let z <-sZ P e
    let .slice _ <-P.underlying u|none
    if z.l=i.size/\0<i.size then pure (.app e i.size i.bytes x y)else bb
   | _,_=>bb
  | .builtin .copy=>match c.argTypes.toList,args with
   | [t,u],[x,y]=>do
    let .slice e <-P.underlying t|none
    let .slice _ <-P.underlying u|none
    let n <-lg P e
    if 0<n then pure (.copy n x y)else bb
   | _,_=>bb
  | .builtin .len=>match c.argTypes.toList,args with
   | [t],[x]=>match P.underlying t with
    | some (.slice _)=>pure (.len .slice x)
    | some .string=>pure (.len .string x)
    | some (.map _ _)=>pure (.len .map x)
    | _=>bb
   | _,_=>bb
  | .builtin .max=>pure (.minmax b4 args)
  | .builtin .min=>pure (.minmax bs args)
  | _=>bb
 | _=>bb
def lO(c:Ctx)(w:World)(env:il)(a:Act):Prop:=∀k,gq c w (a.tmps.getD k undef) (env k)
def jJ(G:GT)(c:Ctx)(H:gg)(w:World)(K:kd)(v:Value)(w':World):Prop:=
 ∃d H' c',K d H'/\gL G c' H' w'/\gq c' w' v d/\Step H.l c H w c' H' w'
section
variable{P:Program}{G:GT}{c:Ctx}{H:gg}{w:World}{K:kd}{env:il}{a:Act}
theorem jJ.plain(h:gL G c H w){v:Value}{d:D}(b:K d H)(a:gq c w v d):jJ G c H w K v w:=
 ⟨d,H,c,b,h,a,Step.refl _ _ _ _⟩
theorem aca(v:Value):gq c w v (uT v):=by
 unfold uT;split
 .exact .gp
 .exact .val _
theorem UL{v:Value}{d:D}(h:NV v=aE d):gq c w v d:=by
 unfold NV at h;split at h
 .cases h;exact .gp
 .rename_i cs;split at h
  .rename_i e;cases h
   have:=gq.agg (c:=c) (w:=w) cs.toList (cs.toList.map uT) gf (λv a=>by
    have:=cP.1 e v (by simpa using a)
    exact this) (λi v d a b=>by
    simp only[ax,a,aK,av]at b;subst b
    exact aca v)
   simpa using this
  .cases h
 .cases h
 .cases h;exact .val _
theorem jj(h:gL G c H w)(i:lO c w env a){x:Operand}{X:X}(b:cX G x=aE X):gq c w (a.eval x) (ev env X):=by
 cases x with
 | tmp t=>cases b;exact i t
 | const v=>
  simp only[cX,aq]at b;obtain⟨d,j,rfl⟩:=b;exact UL j
 | global g=>
  simp only[cX,aq]at b;obtain⟨cs,e,rfl⟩:=b;exact(h.gl g cs e).2
 | func f=>cases b;exact .fn (.func f) [] [] [] [] rfl rfl gf gf
theorem Cd(h:gL G c H w)(b:lO c w env a):∀(l:List Operand) {xs:List X},y5 G l=aE xs->j' c w (l.map a.eval) (xs.map (ev env))
 | [],xs,hx=>by cases hx;exact .nil
 | x::r,xs,hx=>by
  simp only[y5]at hx;split at hx
  .rename_i X l hX hl;cases hx;exact .cons (jj h b hX) (Cd h b r hl)
  .cases hx
theorem j'.l{vs:List Value}{ds:List D}(h:j' c w vs ds):vs.l=ds.l:=by
 induction h with
 | nil=>rfl
 | cons _ _ a=>simp[a]
theorem j'.get{vs:List Value}{ds:List D}(h:j' c w vs ds):∀(i:Nat) (v:Value) (d:D),vs[i]? = aE v->ds[i]? = aE d->gq c w v d:=by
 induction h with
 | nil=>intro i v d a;simp at a
 | cons h _ e=>
  intro i v d a b
  cases i with
  | zero=>simp at a b;subst a;subst b;exact h
  | succ i=>simp at a b;exact e i v d a b
theorem j'.append{vs us:List Value}{ds es:List D}(h:j' c w vs ds)(k:j' c w us es):j' c w (vs++us) (ds++es):=by
 induction h with
 | nil=>exact k
 | cons h _ a=>exact .cons h a
theorem j'.Jv:∀ {vs:List Value} {ds:List D},vs.l=ds.l->(∀(i:Nat) (v:Value) (d:D),vs[i]? = aE v->ds[i]? = aE d->gq c w v d)->j' c w vs ds
 | [],[],_,_=>.nil
 | v::vs,d::ds,hl,h=>.cons (h 0 v d rfl rfl) (j'.Jv (by simpa using hl) λi v d a b=>h (i+1) v d (by simpa using a) (by simpa using b))
theorem Cells.agg{vs:List Value}{cs:List D}(h:Cells c w vs cs):gq c w (.agg vs.toArray) (.agg cs):=.agg vs cs h.len h.one h.rep
theorem Cells.drop{vs:List Value}{cs:List D}(h:Cells c w vs cs)(n:Nat):Cells c w (vs.drop n) (cs.drop n):=
 ⟨by simp[h.len],λv a=>h.one v (bC a),λi v d a b=>h.rep (n+i) v d (by simpa using a) (by simpa using b)⟩
theorem Cells.take{vs:List Value}{cs:List D}(h:Cells c w vs cs)(n:Nat):Cells c w (vs.take n) (cs.take n):=
 ⟨by simp[h.len],λv a=>h.one v (aS a),λi v d a b=>by
  rw[aJ]at a b;split at a
  .rename_i hi;rw[if_pos hi]at b;exact h.rep i v d a b
  .cases a⟩
theorem Cells.append{vs us:List Value}{cs ds:List D}(h:Cells c w vs cs)(k:Cells c w us ds):Cells c w (vs++us) (cs++ds):=
 ⟨by simp[h.len,k.len],λv a=>by
  rcases aj.1 a with a|a
  .exact h.one v a
  .exact k.one v a,λi v d a b=>by
  rw[List.getElem?_append]at a b;split at a
  .rename_i hi;rw[if_pos (by rw[<-h.len];exact hi)]at b;exact h.rep i v d a b
  .rename_i hi;rw[if_neg (by rw[<-h.len];exact hi)]at b;rw[<-h.len]at b;exact k.rep _ v d a b⟩
theorem Cells.nil:Cells c w [] []:=⟨rfl,gf,gf⟩
theorem Cells.get{vs:List Value}{cs:List D}(h:Cells c w vs cs){i:Nat}{d:D}(a:cs[i]? = aE d):∃v,vs[i]? = aE v/\v.oneCell'=b4/\gq c w v d:=by
 have hi:i<vs.l:=by rw[h.len];exact(ae.1 a).1
 exact⟨vs[i],by simp[hi],h.one _ (bU hi),h.rep i _ d (by simp[hi]) a⟩
def vM(c:Ctx)(w:World)(b o:Nat)(cs:List D):Prop:=∃vs,Cells c w vs cs/\∀(j:Nat) (v:Value),vs[j]? = aE v->w.cell? ⟨b,o+j,bb⟩=aE v
theorem vM.drop{b o:Nat}{cs:List D}(h:vM c w b o cs)(n:Nat):vM c w b (o+n) (cs.drop n):=by obtain⟨vs,e,d⟩:=h;exact⟨vs.drop n,e.drop n,λj v a=>by rw[aM]at a;have:=d _ _ a;rwa [bg]⟩
theorem vM.take{b o:Nat}{cs:List D}(h:vM c w b o cs)(n:Nat):vM c w b o (cs.take n):=by
 obtain⟨vs,e,d⟩:=h;refine⟨vs.take n,e.take n,λj v a=>?_⟩;rw[aJ]at a;split at a
 .exact d _ _ a
 .cases a
theorem zW(h:gL G c H w){v g:Nat}{t:TypeId}{cs:List D}(j:H[v]? = aE (.row t g cs)){L:Loc}(q:c.ι v g=aE L)(f:L.ko=bs) :
  ∃arr:Array Value,w.heap[L.b]? = aE (.cells arr t (0,0))/\L.top=arr.size/\L.base+cs.l<=L.top/\Cells c w ((arr.toList.drop L.base).take cs.l) cs:=by
 have h0:=h.ob v _ j;simp only[Ob.gen]at h0;rw[q]at h0;simp only[iy,f]at h0;obtain⟨arr,h1,o,n,e⟩:=h0;refine⟨arr,h1,o,n,⟨gO,λu a=>?_,λi u d a k=>?_⟩⟩
 .obtain⟨i,hi⟩:=aH.1 a;rw[aJ]at hi;split at hi
  .rename_i p;rw[aM]at hi;obtain⟨x,b,m,_⟩:=e i cs[i] (by simp[p]);have:arr[L.base+i]? = aE u:=by simpa using hi
   rw[b]at this;cases this;exact m
  .cases hi
 .rw[aJ]at a;split at a
  .rw[aM]at a;obtain⟨x,b,_,l⟩:=e i d k;have:arr[L.base+i]? = aE u:=by simpa using a
   rw[b]at this;cases this;exact l
  .cases a
theorem NM(h:gL G c H w){v g o:Nat}{t:TypeId}{cs:List D}(e:H[v]? = aE (.row t g cs)){u:Value}(f:gq c w u (.ptr v g o)) :
  ∃b p,u = .pointer (aE ⟨b,p,bb⟩)/\vM c w b p (cs.drop o):=by
 cases f with
 | ptr _ _ _ L k d=>
  obtain⟨arr,h1,m,l,i⟩:=zW h e k d;refine⟨L.b,L.base+o,rfl,?_⟩;refine vM.drop ⟨_,i,λj x a=>?_⟩ o;rw[aJ]at a;split at a
  .rw[aM]at a;simp[World.cell?,h1];simpa using a
  .cases a
theorem AD{u:Value}{cs:List D}(h:gq c w u (.gH cs)):∃b p,u = .pointer (aE ⟨b,p,bb⟩)/\c.F b/\vM c w b p cs:=by
 cases h with
 | gH b o _ g m l h=>
  refine⟨b,o,rfl,m,(List.range cs.l).map g,⟨gf,λv a=>?_,λi v d a k=>?_⟩,λj v a=>?_⟩
  .simp only[au,br]at a;obtain⟨j,f,rfl⟩:=a;exact(l j cs[j] (by simp[f])).2
  .simp only[ax,aq,bW (ae.1 k).1]at a;obtain⟨_,e,rfl⟩:=a;cases e;exact h i d k
  .have f:j<cs.l:=by have:=(ae.1 a).1;simpa using this
   simp only[ax,bW f,aK,av]at a;subst a;exact(l j cs[j] (by simp[f])).1
theorem RS{b o:Nat}{cs:List D}(i:c.F b)(h:vM c w b o cs):gq c w (.pointer (aE ⟨b,o,bb⟩)) (.gH cs):=by
 obtain⟨vs,f,g⟩:=h;refine .gH b o cs (λj=>vs.getD j undef) i (λj d e=>?_) (λj d e=>?_)
 .obtain⟨u,a,h1,_⟩:=f.get e;simp only[eh,a,a7];exact⟨g j u a,h1⟩
 .obtain⟨u,a,_,h1⟩:=f.get e;simp only[eh,a,a7];exact h1
theorem DO{t:TypeId}{b:Bool}(h:qc P t=aE b)(w:World):(isAgg t).run P w = .ok b w:=by
 unfold qc at h;unfold isAgg
 cases a:P.underlying t with
 | none=>simp[a]at h
 | some d=>cases d<;>simp[a]at h<;>subst h<;>simp[run_underlying a]
theorem sT{t:TypeId}{n:Nat}(h:lg P t=aE n)(w:World):(sizeOf t).run P w = .ok n w:=by simp only[lg,aq]at h;obtain⟨i,hi,rfl⟩:=h;simp[sizeOf,typeInfo,hi]
theorem run_typeInfo{t:TypeId}{i:TypeInfo}(h:P.info? t=aE i)(w:World):(typeInfo t).run P w = .ok i w:=by simp[typeInfo,h]
theorem BP{t:TypeId}{z:List D}(h:sZ P t=aE z)(w:World):∃v:Value,(zeroValue t).run P w = .ok v w/\(P.info? t).bind (·.zero)=aE v /\
  ∀c w,Cells c w v.cells.toList z:=by
 unfold sZ at h
 cases hi:P.info? t with
 | none=>simp[hi]at h
 | some i=>
  simp only[hi,Option.bind_some]at h
  cases a:i.zero with
  | none=>simp[a]at h
  | some v=>
   simp only[a]at h;split at h
   .rename_i f;cases h;refine⟨v,by simp[zeroValue,run_typeInfo hi,a],by simp[a],λc w=>⟨gf,λu b=>?_,λi u d b e=>?_⟩⟩
    .exact cP.1 f u (by simpa using b)
    .simp only[ax,b,aK,av]at e;subst e;exact aca u
   .cases h
theorem Qn{t:TypeId}(i:qc P t=aE bs){b o:Nat}{cs:List D}(h:vM c w b o cs){d:D}(g:cs[0]? = aE d) :
  ∃u,(Instr.loadAt t (.pointer (aE ⟨b,o,bb⟩))).run P w = .ok u w/\u.oneCell'=b4/\gq c w u d:=by
 obtain⟨vs,a,e⟩:=h;obtain⟨u,f,h1,j⟩:=a.get g;have:=e 0 u f;exact⟨u,by simp[Instr.loadAt,Instr.sureAddr,loadVar,DO i];simp at this;simp[this],h1,j⟩
theorem Qo{t:TypeId}{n:Nat}(g:qc P t=aE b4)(hs:lg P t=aE n){b o:Nat}{cs:List D}(f:vM c w b o cs)(h:n<=cs.l) :
  ∃u,(Instr.loadAt t (.pointer (aE ⟨b,o,bb⟩))).run P w = .ok u w/\gq c w u (.agg (cs.take n)):=by
 obtain⟨vs,a,d⟩:=f.take n;have hl:vs.l=n:=by rw[a.len];simp;omega
 have:=run_loadCells_list (P:=P) w ⟨b,o,bb⟩ vs (λj v e=>by rw[Addr.add_lit];exact d j v e);rw[hl]at this;exact⟨.agg vs.toArray,by simp[Instr.loadAt,Instr.sureAddr,loadVar,DO g,sT hs,this],a.agg⟩
theorem vF{v g:Nat}{x:TypeId×List D}(h:rowAt H v g=aE x):H[v]? = aE (.row x.1 g x.2):=by
 unfold rowAt at h;split at h
 .split at h
  .rename_i e;subst e;cases h;assumption
  .cases h
 .cases h
theorem anV(h:gL G c H w){t:TypeId}(l:qc P t=aE bs){x:D}{u:Value}(k:gq c w u x)(a:Je x H K) :
  ∃v,(Instr.loadAt t u).run P w = .ok v w/\jJ G c H w K v w:=by
 unfold Je at a;split at a
 .rename_i v g o;split at a
  .rename_i q cs m;have n:=vF m;split at a
   .rename_i d f;obtain⟨b,p,rfl,i⟩:=NM h n k;obtain⟨u,e,_,j⟩:=Qn l i (d:=d) (by simpa using f);exact⟨u,e,.plain h a j⟩
   .exact a.elim
  .exact a.elim
 .rename_i cs;split at a
  .rename_i d f;obtain⟨b,p,rfl,_,i⟩:=AD k;obtain⟨u,e,_,j⟩:=Qn l i f;exact⟨u,e,.plain h a j⟩
  .exact a.elim
 .exact a.elim
theorem anW(h:gL G c H w){t:TypeId}{n:Nat}(j:qc P t=aE b4)(hs:lg P t=aE n){x:D}{u:Value}(i:gq c w u x)(a:Jf n x H K) :
  ∃v,(Instr.loadAt t u).run P w = .ok v w/\jJ G c H w K v w:=by
 unfold Jf at a;split at a
 .rename_i v g o;split at a
  .rename_i m cs k;have l:=vF k;obtain⟨b,p,rfl,e⟩:=NM h l i;obtain⟨u,d,f⟩:=Qo (n:=n) j hs e gO;exact⟨u,d,.plain h a.2 f⟩
  .exact a.elim
 .rename_i cs;obtain⟨b,p,rfl,_,e⟩:=AD i;obtain⟨u,d,f⟩:=Qo (n:=n) j hs e a.1;exact⟨u,d,.plain h a.2 f⟩
 .exact a.elim
theorem an4(h:gL G c H w){x y z:D}{u v t:Value}(h1:gq c w u x)(e:gq c w v y)(d:gq c w t z)(a:Jy x y z H K) :
  ∃b,u = .bool b/\jJ G c H w K (if b then v else t) w:=by
 unfold Jy at a;split at a
 .rename_i b;cases h1;refine⟨b,rfl,.plain h a ?_⟩;cases b
  .exact d
  .exact e
 .exact a.elim
end
section
variable{P:Program}{G:GT}{c:Ctx}{H:gg}{w:World}{K:kd}{env:il}{a:Act}
theorem wrap_i64{n:Int}(h:pj n):IntKind.i64.wrap n=n:=by unfold pj at h;simp only[IntKind.wrap,IntKind.signed,IntKind.bits];simp;omega
theorem jJ.val(h:gL G c H w){v:Value}(a:K (.val v) H):jJ G c H w K v w:=.plain h a (.val _)
theorem anC(h:gL G c H w){op:BinOp}{k:IntKind}{x y:Int}(a:Hh op k x y H K)(hs:op≠.shl/\op≠.shr)(t:TypeId)(xo b:Operand) :
  ∃v,(do eqGuard op t xo b (.int k x) (.int k y);binOp op t (.int k x) (.int k y)).run P w = .ok v w/\jJ G c H w K v w:=by
 have hg:(eqGuard op t xo b (.int k x) (.int k y)).run P w = .ok () w:=by cases op<;>simp[eqGuard]
 simp only[Sem.run_bind,hg,Result.andThen_ok];cases op<;>simp only[Hh]at a
 case add=>
  by_cases e:k = .i64
  .subst e;simp only[if_true]at a;exact⟨_,by simp[binOp,Op.intArith,wrap_i64 a.1]<;>rfl,.val h a.2⟩
  .rw[if_neg e]at a;exact⟨_,by simp[binOp,Op.intArith]<;>rfl,.val h a⟩
 case sub=>
  by_cases e:k = .i64
  .subst e;simp only[if_true]at a;exact⟨_,by simp[binOp,Op.intArith,wrap_i64 a.1]<;>rfl,.val h a.2⟩
  .rw[if_neg e]at a;exact⟨_,by simp[binOp,Op.intArith]<;>rfl,.val h a⟩
 case mul=>
  by_cases e:k = .i64
  .subst e;simp only[if_true]at a;exact⟨_,by simp[binOp,Op.intArith,wrap_i64 a.1]<;>rfl,.val h a.2⟩
  .rw[if_neg e]at a;exact⟨_,by simp[binOp,Op.intArith]<;>rfl,.val h a⟩
 case quo=>exact⟨_,by simp[binOp,Op.intDiv,a.1]<;>rfl,.val h a.2⟩
 case rem=>exact⟨_,by simp[binOp,Op.intDiv,a.1]<;>rfl,.val h a.2⟩
 case and=>exact⟨_,by simp[binOp,Op.intBits]<;>rfl,.val h (by simpa[bits]using a)⟩
 case or=>exact⟨_,by simp[binOp,Op.intBits]<;>rfl,.val h (by simpa[bits]using a)⟩
 case xor=>exact⟨_,by simp[binOp,Op.intBits]<;>rfl,.val h (by simpa[bits]using a)⟩
 case andNot=>exact⟨_,by simp[binOp,Op.intBits]<;>rfl,.val h (by simpa[bits]using a)⟩
 case eql=>exact⟨_,by simp[binOp,Op.intCmp]<;>rfl,.val h a⟩
 case neq=>exact⟨_,by simp[binOp,Op.intCmp]<;>rfl,.val h a⟩
 case lss=>exact⟨_,by simp[binOp,Op.intCmp]<;>rfl,.val h a⟩
 case leq=>exact⟨_,by simp[binOp,Op.intCmp]<;>rfl,.val h a⟩
 case gtr=>exact⟨_,by simp[binOp,Op.intCmp]<;>rfl,.val h a⟩
 case geq=>exact⟨_,by simp[binOp,Op.intCmp]<;>rfl,.val h a⟩
 all_goals exact absurd rfl (by first|exact hs.1|exact hs.2)
theorem Ut(h:gL G c H w){op:BinOp}{x y:D}{u v:Value}(h1:gq c w u x)(f:gq c w v y)(a:Hm op x y H K)(t:TypeId)(xo d:Operand) :
  ∃r,(do eqGuard op t xo d u v;binOp op t u v).run P w = .ok r w/\jJ G c H w K r w:=by
 unfold Hm at a;split at a
 .cases h1;cases f;split at a
  .have key:∀op,rC op=b4->op = .shl\/op = .shr:=λop g=>by cases op<;>simp[rC]at g<;>simp
   rename_i hs;rcases key op hs with rfl|rfl
   .simp only[JU]at a;have b:=a.1;exact⟨_,by simp[eqGuard,binOp,Op.shift,fV.2 b]<;>rfl,.val h a.2⟩
   .simp only[JU]at a;have b:=a.1;exact⟨_,by simp[eqGuard,binOp,Op.shift,fV.2 b]<;>rfl,.val h a.2⟩
  .rename_i hs;obtain⟨rfl,a⟩:=a;exact anC h a ⟨λe=>by subst e;exact hs rfl,λe=>by subst e;exact hs rfl⟩ t xo d
 .cases h1;cases f;rename_i p q;cases op<;>simp only[Qz]at a
  case add=>exact⟨.string (p++q),by simp[eqGuard,binOp,run_string_add_sum w p q (by have:=a.1;omega)],.val h a.2⟩
  case eql=>exact⟨_,by simp[eqGuard,binOp,Op.stringOp,ByteArray.toList_eq]<;>rfl,.val h (by simpa using a)⟩
  case neq=>exact⟨_,by simp[eqGuard,binOp,Op.stringOp,ByteArray.toList_eq]<;>rfl,.val h (by simpa using a)⟩
 .grind
theorem aoc(h:gL G c H w){op:UnOp}{x:D}{u:Value}(h1:gq c w u x)(a:Ka op x H K) :
  ∃r,(Op.unary op u).run P w = .ok r w/\jJ G c H w K r w:=by
 unfold Ka at a;split at a
 .cases h1;exact⟨_,by simp[Op.unary]<;>rfl,.val h a⟩
 .cases h1;rename_i n;have:(0-n) = -n:=U;exact⟨_,by simp[Op.unary,Op.intArith,wrap_i64 a.1]<;>rfl,.val h a.2⟩
 .cases h1;exact⟨_,by simp[Op.unary,Op.intBits]<;>rfl,.val h (by simpa[bits]using a)⟩
 .grind
theorem EC{d:D}{v:Value}{cs:List D}(r:gq c w v d)(j:cellsOf d=aE cs):Cells c w v.cells.toList cs:=by
 have key:∀ {v:Value} {d:D},gq c w v d->v.oneCell'=b4->v.cells = #[v]->Cells c w v.cells.toList [d]:=λ{v d} r h1 p=>by rw[p];exact⟨rfl,by simpa using h1,λi u e A B=>jZ⟩
 cases r with
 | any v=>simp[cellsOf]at j
 | val v=>
  simp only[cellsOf]at j;split at j
  .rename_i h1;cases j;refine key (.val v) h1 ?_;cases v<;>first|rfl|(simp[Value.oneCell']at h1)
  .cases j
 | agg vs ds hl h1 h=>
  simp only[cellsOf,av]at j;subst j;exact⟨by simpa[Value.cells]using hl,by simpa[Value.cells]using h1,λi v d p s=>h i v d (by simpa[Value.cells]using p) s⟩
 | tup=>simp[cellsOf]at j
 | sl a len cap sz es g h1 l m n q x t=>simp only[cellsOf,av]at j;subst j;exact key (.sl a len cap sz es g h1 l m n q x t) rfl rfl
 | gp=>simp only[cellsOf,av]at j;subst j;exact key .gp rfl rfl
 | mM a vs h1 l m=>simp only[cellsOf,av]at j;subst j;exact key (.mM a vs h1 l m) rfl rfl
 | gh v k sz off len cap L h1 l m n q=>simp only[cellsOf,av]at j;subst j;exact key (.gh v k sz off len cap L h1 l m n q) rfl rfl
 | nq v k sz off L h1 a=>simp only[cellsOf,av]at j;subst j;exact key (.nq v k sz off L h1 a) rfl rfl
 | ptr v k off L h1 l=>simp only[cellsOf,av]at j;subst j;exact key (.ptr v k off L h1 l) rfl rfl
 | gH b o cs g h1 l m=>simp only[cellsOf,av]at j;subst j;exact key (.gH b o cs g h1 l m) rfl rfl
 | gM v L h1 l=>simp only[cellsOf,av]at j;subst j;exact key (.gM v L h1 l) rfl rfl
 | fn f fs cs y z h1 l m n=>simp only[cellsOf,av]at j;subst j;exact key (.fn f fs cs y z h1 l m n) rfl rfl
 | jt v L h1 l=>simp only[cellsOf,av]at j;subst j;exact key (.jt v L h1 l) rfl rfl
theorem aod{d:D}(h:one d=b4):cellsOf d=aE [d]:=by
 cases d<;>first|rfl|(simp[one]at h;done)|skip
 rename_i v;simp only[one]at h;simp[cellsOf,h]
theorem aou{L:Loc}(a:L.ko=bs)(h0:L.base=0)(v g:Nat):gq (c.set v g L) w (.pointer (aE ⟨L.b,0,bb⟩)) (.ptr v g 0):=by have:=gq.ptr (c:=c.set v g L) (w:=w) v g 0 L (Ctx.tZ _ _ _ _) a;simpa[h0]using this
theorem abH(h:gL G c H w){al:Al}(b:oD H al)(t:TypeId){v:Value}{cs:List D}(e:Cells c w v.cells.toList cs)(d:K (.ptr al.1 0 0) (al.2 (.row t 0 cs))) :
  ∃w',(newVar t v).run P w = .ok ⟨w.heap.size,0,bb⟩ w'/\jJ G c H w K (.pointer (aE ⟨w.heap.size,0,bb⟩)) w':=by
 obtain⟨L,h1,j,i,k,g,f⟩:=FY h w (kN.refl w) t v.cells.toList cs v.cells.size v.cells (b _).vK e (by rw[<-du,cQ]) (cj _);refine⟨w.alloc (.cells v.cells t),by simp[newVar,newRow],?_⟩;have a:=aou (c:=c) (w:=w.alloc (.cells v.cells t)) h1 i al.1 0;rw[j]at a;exact⟨_,_,_,d,g,a,f⟩
theorem anE(h:gL G c H w){al:Al}(d:oD H al)(t:TypeId){x:D}{u:Value}(h1:gq c w u x)(a:Hq t x al K) :
  ∃r w',(Instr.box t u).run P w = .ok r w'/\jJ G c H w K r w':=by
 unfold Hq at a;split at a
 .rename_i cs b;obtain⟨w',e,f⟩:=abH (P:=P) h d t (EC h1 b) a;exact⟨_,w',by simp[Instr.box,e],f⟩
 .grind
theorem anz(h:gL G c H w){al:Al}(a:oD H al){t:TypeId}{z:List D}(b:sZ P t=aE z)(g:K (.ptr al.1 0 0) (al.2 (.row t 0 z))) :
  ∃r w',(Instr.alloc t b4 (.tuple #[])).run P w = .ok r w'/\jJ G c H w K r w':=by
 obtain⟨v,d,_,i⟩:=BP b w;obtain⟨w',e,f⟩:=abH (P:=P) h a t (i c w) g;exact⟨_,w',by simp[Instr.alloc,d,e],f⟩
theorem Cells.ub{vs us:List Value}{cs ds:List D}(h:Cells c w vs cs)(k:Cells c w us ds)(o:Nat):Cells c w (vs.take o++us++vs.drop (o+us.l)) (cs.take o++ds++cs.drop (o+ds.l)):=by rw[k.len];exact((h.take o).append k).append (h.drop _)
theorem agO(l:List Value):∀(off:Nat) (cs:Array Value),off+l.l<=cs.size ->
  ((l.zipIdx off).foldl (λ(cs:Array Value) (x:Value×Nat)=>cs.setIfInBounds x.2 x.1) cs).toList=cs.toList.take off++l++cs.toList.drop (off+l.l):=by
 induction l with
 | nil=>intro off cs _;simp
 | cons v r a=>
  intro off cs h;simp only[aL]at h;simp only[List.zipIdx_cons,cD];rw[a (off+1) _ gO];simp only[Array.toList_setIfInBounds];have:=list_seg_step cs.toList off v r gO;simpa[bg,dB 1]using this
theorem agJ(cs:Array Value)(l:Array Value)(off:Nat)(h:off+l.size<=cs.size) :
  (l.zipIdx.foldl (λ(cs:Array Value) (x:Value×Nat)=>match x with|(c,j)=>cs.setIfInBounds (off+j) c) cs).toList=cs.toList.take off++l.toList++cs.toList.drop (off+l.size):=by
 have:=agO l.toList off cs (by simpa using h);rw[<-Array.foldl_toList,Array.toList_zipIdx]
 have e:(l.toList.zipIdx off)=(l.toList.zipIdx 0).map λx=>(x.1,off+x.2):=by
  rw[List.zipIdx_eq_map_add]
  first|done|(simp only[dB])
 rw[e,List.foldl_map]at this;exact this
theorem Ol(a:Nat->Option (Nat×Nat)):∀(vs:List (Nat×Value)) (ps:List (Nat×Nat×List D)) (arr:Array Value) (cs rs:List D),
  Cells c w arr.toList cs->vs.l=ps.l ->
  (∀(i:Nat) (v:Nat×Value) (p:Nat×Nat×List D),vs[i]? = aE v->ps[i]? = aE p->a v.1=aE (p.1,p.2.1)/\Cells c w v.2.cells.toList p.2.2) ->
  lay ps cs=aE rs->∃d,Instr.fill a arr vs=aE d/\Cells c w d.toList rs
 | [],[],arr,cs,rs,hc,_,_,hl=>by simp[lay]at hl;subst hl;exact⟨arr,rfl,hc⟩
 | (i,v)::vs,(o,n,xs)::ps,arr,cs,rs,hc,hlen,h,hl=>by
  obtain⟨b,g⟩:=h 0 (i,v) (o,n,xs) rfl rfl;simp only[lay]at hl;split at hl
  .rename_i e;have f:v.cells.size=n:=by rw[<-e.1,<-g.len];simp
   have k:o+v.cells.size<=arr.size:=by rw[f];have:=hc.len;simp at this;omega
   simp only[Instr.fill,b];rw[if_neg gO];have j:=agJ arr v.cells o k;refine Ol a vs ps _ _ rs ?_ (by simpa using hlen) (λi v p l b=>h (i+1) v p (by simpa using l) (by simpa using b)) hl;rw[j];have:=hc.ub g o;rw[e.1]at this;simpa[f]using this
  .cases hl
theorem NH(h:gL G c H w)(e:lO c w env a):∀(l:List (Nat×Operand)) {ps:List (Nat×X)},AB G l=aE ps ->
  ps.l=l.l/\∀(i:Nat) (x:Nat×Operand) (p:Nat×X),l[i]? = aE x->ps[i]? = aE p->p.1=x.1/\gq c w (a.eval x.2) (ev env p.2)
 | [],ps,hx=>by cases hx;simp
 | (i,x)::r,ps,hx=>by
  simp only[AB]at hx;split at hx
  .rename_i X l hX hl;cases hx;obtain⟨g,f⟩:=NH h e r hl;refine⟨by simp[g],λj y p b d=>?_⟩
   cases j with
   | zero=>simp at b d;subst b;subst d;exact⟨rfl,jj h e hX⟩
   | succ j=>simp at b d;exact f j y p b d
  .cases hx
theorem abW{fs:Array Field}:∀ {ps:List (Nat×X)} {a:List (Nat×Nat×X)},Jz P fs ps=aE a ->
  a.l=ps.l/\∀(i:Nat) (p:Nat×X) (q:Nat×Nat×X),ps[i]? = aE p->a[i]? = aE q->q.2.2=p.2/\∃f,fs[p.1]? = aE f/\q.1=f.offset/\lg P f.type=aE q.2.1
 | [],a,h=>by cases h;simp
 | (i,x)::r,a,h=>by
  simp only[Jz]at h;split at h
  .rename_i f l k hl;simp only[aq]at h;obtain⟨n,g,rfl⟩:=h;obtain⟨e,d⟩:=abW hl;refine⟨by simp[e],λj p q c b=>?_⟩
   cases j with
   | zero=>simp at c b;subst c;subst b;exact⟨rfl,f,k,rfl,g⟩
   | succ j=>simp at c b;exact d j p q c b
  .cases h
theorem Uy{l:List (Nat×Nat×X)}{r:List (Nat×Nat×List D)}(h:partsOf env l=aE r) :
  r.l=l.l/\∀(i:Nat) (p:Nat×Nat×X) (q:Nat×Nat×List D),l[i]? = aE p->r[i]? = aE q->q.1=p.1/\q.2.1=p.2.1/\cellsOf (ev env p.2.2)=aE q.2.2:=by
 induction l generalizing r with
 | nil=>simp[partsOf]at h;subst h;simp
 | cons p l a=>
  obtain⟨o,n,x⟩:=p;simp only[partsOf]at h;split at h
  .grind
  .cases h
theorem Oy{α:Type}{l:List α}{n i:Nat}(hl:l.l=n)(hi:i<n):∃x,l[i]? = aE x:=⟨l[i],by simp[hl▸hi]⟩
theorem anF(h:gL G c H w)(he:lO c w env a){t:TypeId}{z:List D}{ops:Array (Nat×Operand)}{ps:List (Nat×X)}{E:List (Nat×Nat×X)}{fs:Array Field}
  (U:sZ P t=aE z) (Z:AB G ops.toList=aE ps) (W:P.underlying t=aE (.struct fs)) (hf:Yh P fs=b4) (Y:Jz P fs ps=aE E)
  (e:Ca env z E H K):∃r,(Instr.build t (ops.map λ(i,x)=>(i,a.eval x))).run P w = .ok r w/\jJ G c H w K r w:=by
 unfold Ca at e;split at e
 .rename_i l hl;split at e
  .rename_i cs S;obtain⟨v,V,_,hc⟩:=BP U w;obtain⟨j,R⟩:=NH h he ops.toList Z;obtain⟨q1,q2⟩:=abW Y;obtain⟨N,M⟩:=Uy hl
   have A:∃b:Array (Nat×Nat),(fs.mapM λf=>do pure (f.offset,<-sizeOf f.type):Sem (Array (Nat×Nat))).run P w = .ok b w/\∀(i:Nat) (f:Field) (n:Nat),fs[i]? = aE f->lg P f.type=aE n->b[i]? = aE (f.offset,n):=by
    have key:∀(l:List Field),(∀f∈l,(lg P f.type).isSome=b4)->∃pl:List (Nat×Nat),(l.mapM λf=>do pure (f.offset,<-sizeOf f.type):Sem (List (Nat×Nat))).run P w = .ok pl w/\∀(i:Nat) (f:Field) (n:Nat),l[i]? = aE f->lg P f.type=aE n->pl[i]? = aE (f.offset,n):=by
     intro l
     induction l with
     | nil=>intro _;exact⟨[],gf,gf⟩
     | cons f l T=>
      intro F;obtain⟨pl,d,k⟩:=T (λg hg=>F g (by simp[hg]));obtain⟨n,o⟩:=dt.1 (F f gf);refine⟨(f.offset,n)::pl,?_,λi g m hg hm=>?_⟩
      .simp only[eV,Sem.run_bind,sT o,Result.andThen_ok,Sem.run_pure,d]
      .grind
    obtain⟨pl,d,k⟩:=key fs.toList (λf u=>cP.1 hf f (by simpa using u));refine⟨pl.toArray,?_,λi f n hi o=>by simpa using k i f n (by simpa using hi) o⟩;rw[fh,Sem.run_map,d];rfl
   obtain⟨b,d,k⟩:=A
   obtain⟨Q,A8,O⟩:=Ol (c:=c) (w:=w) (b[·]?) (ops.toList.map λx=>(x.1,a.eval x.2)) l v.cells z cs (hc c w) (by simp[N,q1,j]) (λi x q J IT=>by
    simp only[ax,aq]at J;obtain⟨y,I,rfl⟩:=J;have hi:i<ops.toList.l:=(ae.1 I).1;obtain⟨p,C⟩:=Oy j hi;obtain⟨s,B⟩:=Oy (q1.trans j) hi;obtain⟨e1,e2⟩:=R i y p I C;obtain⟨e3,f,a0,Zz,a'⟩:=q2 i p s C B;obtain⟨e4,e5,L⟩:=M i s q B IT;refine⟨?_,?_⟩
    .grind
    .rw[e3]at L
     exact EC e2 L) S
   refine⟨.agg Q,?_,?_⟩
   .simp only[Instr.build,Sem.run_bind,V,Result.andThen_ok,run_underlying W,d];have:(Array.map (λx=>(x.fst,a.eval x.snd)) ops).toList=ops.toList.map λx=>(x.1,a.eval x.2):=gf;simp only[this,A8];rfl
   .have:=O.agg;exact .plain h e (by simpa using this)
  .exact e.elim
 .grind
theorem anG(h:gL G c H w)(I:lO c w env a){t e:TypeId}{n sz:Nat}{z:List D}{ops:Array (Nat×Operand)}{ps:List (Nat×X)}
  (B:sZ P t=aE z) (F:AB G ops.toList=aE ps) (E:P.underlying t=aE (.array n e)) (hs:lg P e=aE sz)
  (b:Ca env z (ps.map λp=>(p.1*sz,sz,p.2)) H K):∃r,(Instr.build t (ops.map λ(i,x)=>(i,a.eval x))).run P w = .ok r w/\jJ G c H w K r w:=by
 unfold Ca at b;split at b
 .rename_i l hl;split at b
  .rename_i cs A;obtain⟨v,C,_,J⟩:=BP B w;obtain⟨f,u⟩:=NH h I ops.toList F;obtain⟨m,k⟩:=Uy hl
   obtain⟨s,S,o⟩:=Ol (c:=c) (w:=w) (λi=>aE (i*sz,sz)) (ops.toList.map λx=>(x.1,a.eval x.2)) l v.cells z cs (J c w) (by simp[m,f]) (λi x q j R=>by
    simp only[ax,aq]at j;obtain⟨y,g,rfl⟩:=j;have hi:i<ops.toList.l:=(ae.1 g).1;obtain⟨p,d⟩:=Oy f hi;obtain⟨Q,O⟩:=u i y p g d;obtain⟨N,M,L⟩:=k i (p.1*sz,sz,p.2) q (by simp[d]) R
    exact⟨by simp[N,M,Q],EC O L⟩) A
   refine⟨.agg s,?_,?_⟩
   .simp only[Instr.build,Sem.run_bind,C,Result.andThen_ok,run_underlying E,sT hs];have:(Array.map (λx=>(x.fst,a.eval x.snd)) ops).toList=ops.toList.map λx=>(x.1,a.eval x.2):=gf;simp only[this,S];rfl
   .have:=o.agg;exact .plain h b (by simpa using this)
  .exact b.elim
 .exact b.elim
