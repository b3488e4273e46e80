/- 1 -/
import Derived.KernelRfl
import Derived.RangeFuncIn
import Derived.TacticsIn
import Derived.OrdersIn
import Derived.Laws.CopyRow
import Derived.Laws.AppendOwn
import Derived.Laws.OwnMore
import Derived.Laws.Concat
import Derived.Laws.Strings
import Derived.Laws.Slices
import Derived.Laws.StructEq
import Derived.Laws.BytesString
set_option linter.all false
open Go renaming Value→aE,World→cc,TypeId→cp,Program→eh,Operand→ep,IntKind→eB,eqGuard→eK,Field→fx,BinOp→gb,run_underlying→hU,FuncId→jA,sizeOf→jI,MapEntry→jX,typeInfo→j'
open Option renaming some→bf,none→di,some→lb
open Bool renaming false→dx,true→ej
open Nat renaming le_refl→ek,le_trans→fa,beq→lu
open Go.Op renaming intArith→er,intCmp→fb,intBits→fp,unary→iK,stringOp→kb,intDiv→kD,shift→lp
open Go.Instr renaming loadAt→ez,build→hI,sureAddr→iN,alloc→kl,fill→kx,box→la
open Go.Result renaming andThen_ok→eL
open Go.Sem renaming run_bind→ga
open List renaming replicate→hY,Pairwise→ku,getD→lK,length→List.l
open Int renaming toNat→Int.n
open UInt8 renaming toNat→UInt8.n
namespace Go.AL
open Go
def ae:=@List.getElem?_eq_some_iff
def af:=@List.take_of_length_le
def ag:=@Option.bind_eq_some_iff
def ah:=@List.getElem?_append_left
def ai:=@List.mem_append
def aj:=@List.mem_map
def ak:=@List.mem_cons
def ao:=@List.getElem?_append_right
def aq:=@List.length_append
def ar:=@Option.map_eq_some_iff
def au:=@List.map_congr_left
def av:=@List.length_set
def aw:=@List.getElem?_map
def ax:=@lb.injEq
def ay:=@List.length_pos_iff
def az:=@List.append_nil
def aA:=@List.length_eq_zero_iff
def aB:=@Option.bind_eq_bind
def aC:=@List.getElem?_set_ne
def aD:=@List.getElem?_drop
def aF:=@List.length_cons
def aG:=@List.mem_iff_getElem?
def aH:=@List.mem_filter
def aI:=@List.pairwise_cons
def aJ:=@List.getElem?_take
def aK:=@Option.map_some
def aL:=@Option.pure_def
def aM:=@List.length_take
def aN:=@List.getElem?_set_self
def aO:=@List.append_assoc
def aP:=@List.set_append_left
def aQ:=@List.mem_of_mem_take
def aR:=@Nat.zero_add
def aS:=@List.nil_append
def aT:=@List.length_singleton
def aU:=@List.length_drop
def aV:=@List.take_append_of_le_length
def aW:=@Nat.lt_of_lt_of_le
def aX:=@Array.getElem?_eq_some_iff
def aY:=@List.getElem?_eq_none
def aZ:=@List.mem_range
def a7:=@List.eq_nil_iff_forall_not_mem
def a8:=@List.nodup_append
def bg:=@List.flatten_cons
def bh:=@Option.getD_some
def bj:=@List.eq_nil_of_length_eq_zero
def bk:=@Nat.add_assoc
def bn:=@List.map_id
def bp:=@List.mem_append_left
def bq:=@List.mem_flatten
def br:=@List.getElem_map
def bt:=@List.mem_cons_of_mem
def bw:=@List.pairwise_append
def bz:=@List.cons_append
def bA:=@Int.toNat_natCast
def bB:=@Array.getElem?_modify
def bC:=@List.map_map
def bE:=@List.drop_of_length_le
def bF:=@List.drop_eq_nil_of_le
def bG:=@List.mem_flatMap
def bH:=@List.ext_getElem
def bI:=@List.getElem?_set
def bJ:=@Nat.add_mul
def bK:=@List.mem_append_right
def bL:=@List.replicate_succ
def bM:=@Bool.or_eq_true
def bN:=@List.ext_getElem?
def bO:=@List.mem_of_mem_drop
def bP:=@Nat.mul_le_mul_right
def bQ:=@Bool.false_eq_true
def bR:=@Int.emod_lt_of_pos
def bS:=@Array.getElem?_toList
def bT:=@List.nodup_cons
def bU:=@Nat.lt_or_ge
def bV:=@List.pairwise_iff_getElem
def bW:=@List.drop_eq_getElem_cons
def bX:=@List.set_eq_take_append_cons_drop
def bY:=@List.filter_append
def bZ:=@Int.emod_nonneg
def b6:=@Nat.sub_self
def b7:=@List.countP_cons
def b9:=@List.getElem?_take_of_lt
def cd:=@List.flatMap_append
def cj:=@List.take_append_drop
def cu:=@Nat.add_zero
def cy:=@List.range_eq_range'
def cz:=@Array.toArray_toList
def cA:=@lb.inj
def cD:=@List.getElem_mem
def cE:=@List.range'_succ
def cF:=@List.getElem?_range
def cG:=@List.findIdx?_eq_some_iff_getElem
def cH:=@List.getElem?_cons_succ
def cI:=@Int.le_refl
def cJ:=@List.drop_drop
def cK:=@List.foldl_cons
def cL:=@Array.getElem?_eq_getElem
def cM:=@List.findIdx?_eq_none_iff
def cN:=@List.cons.injEq
def cO:=@Nat.eq_of_beq_eq_true
def cP:=@Ne.symm
def cQ:=@Array.size_append
def cU:=@Nat.succ_mul
def cV:=@Array.getElem?_append_left
def cW:=@Array.all_eq_true_iff_forall_mem
def cY:=@List.take_length
def cZ:=@Prod.ext
def c8:=@List.set_append_right
def c9:=@List.mem_filterMap
def da:=@Classical.choose_spec
def db:=@List.countP_le_length
def de:=@List.exists_mem_of_ne_nil
def dh:=@Array.getElem?_setIfInBounds_ne
def dj:=@Nat.add_comm
def dm:=@Nat.zero_mul
def dp:=@List.length_nil
def dq:=@List.contains_eq_mem
def dt:=@Nat.pow_le_pow_right
def du:=@List.take_add_one
def dw:=@List.mem_range'_1
def dy:=@List.take_succ_cons
def dz:=@List.length_pos_of_mem
def dA:=@Array.getD_eq_getD_getElem?
def dB:=@Option.toList_some
def dC:=@Nat.le_of_ble_eq_true
def dD:=@List.filter_nil
def dF:=@List.size_toArray
def dH:=@List.take_take
def dJ:=@Option.isSome_iff_exists
def dK:=@Array.length_toList
def dM:=@Array.toList_append
def dO:=@List.filter_eq_self
def dQ:=@List.countP_append
def dR:=@List.find?_eq_none
def dS:=@List.count_append
def dT:=@List.getElem?_toArray
def dW:=@List.set_getElem_self
def dX:=@List.contains_iff_mem
def dY:=@Array.getElem?_mapIdx
def dZ:=@List.length_mergeSort
def ea:=@List.flatten_nil
def ec:=@List.count_singleton
def ef:=@Prod.mk.injEq
def ei:=@List.mem_zipIdx_iff_le_and_getElem?_sub
def eo:=@List.flatten_append
def et:=@List.mem_or_eq_of_mem_set
def eu:=@Bool.decide_and
def ew:=@List.mem_take_iff_getElem
def ey:=@Nat.eq_zero_or_pos
def eA:=@List.Sublist.append_left
def eC:=@Nat.mul_comm
def eD:=@Int.add_sub_cancel
def eE:=@List.mem_cons_self
def eF:=@List.eq_of_mem_replicate
def eG:=@ku.imp_of_mem
def eH:=@List.count_pos_iff
def eI:=@List.take_zero
def eJ:=@List.drop_zero
def eM:=@Iff.rfl
def eN:=@List.pairwise_mergeSort
def eO:=@List.pairwise_map
def eP:=@Bool.not_eq_true'
def eQ:=@Array.getElem?_eq_none
def eR:=@List.sublist_cons_self
def eT:=@List.filter_eq_nil_iff
def eU:=@Int.ediv_eq_zero_of_lt
def eV:=@List.append_eq_nil_iff
def eW:=@Bool.true_and
def eX:=@List.isEmpty_iff
def eY:=@Array.mem_filter
def eZ:=@List.not_mem_nil
def e7:=@List.length_filter_eq_length_iff
def e9:=@List.singleton_append
def fe:=@List.length_replicate
def ff:=@Int.not_lt
def fg:=@Int.le_of_lt
def fh:=@Nat.pow_succ
def fj:=@List.replicate_succ'
def fm:=@List.findIdx?_append
def fo:=@List.drop_append_of_le_length
def fq:=@Array.getElem?_push
def fr:=@List.replicate_zero
def ft:=@Nat.mul_le_mul_left
def fu:=@List.mergeSort_perm
def fw:=@List.mapM_cons
def fy:=@Int.toNat_zero
def fD:=@Nat.mul_one
def fE:=@Nat.add_sub_cancel
def fF:=@List.append_of_mem
def fG:=@List.findIdx?_cons
def fH:=@List.map_replicate
def fJ:=@List.exists_cons_of_ne_nil
def fL:=@Function.comp_def
def fM:=@Decidable.not_not
def fO:=@List.filter_congr
def fQ:=@List.length_range
def fR:=@Array.mapM_eq_mapM_toList
def fV:=@List.mem_of_find?_eq_some
def fX:=@Nat.mod_eq_of_lt
def fY:=@Nat.sub_zero
def fZ:=@List.getElem_inj
def gd:=@List.nodup_range
def gf:=@Nat.le_add_right
def gg:=@List.drop_append
def gh:=@Nat.le_of_not_lt
def gi:=@Nat.mul_le_mul_right_iff
def gj:=@List.length_erase_of_mem
def gp:=@List.length_filterMap_le
def gq:=@Array.toList_inj
def gu:=@List.any_eq_true
def gv:=@List.getElem?_replicate
def gw:=@List.flatten_eq_nil_iff
def gx:=@List.filter_cons_of_pos
def gy:=@List.filter_cons_of_neg
def gA:=@List.getElem?_cons_zero
def gC:=@List.append_inj
def gD:=@List.range_succ
def gE:=@List.length_eq_one_iff
def gF:=@List.nodup_nil
def gG:=@Bool.decide_or
def gH:=@ku.sublist
def gI:=@List.perm_append_comm
def gJ:=@Int.mul_nonneg
def gK:=@Int.add_mul_ediv_left
def gL:=@Nat.not_lt
def gM:=@Nat.mul_assoc
def gN:=@Nat.min_zero
def gO:=@Int.le_trans
def U{P:Prop}(h:P:=by omega):P:=h
def gP{P:Prop}(h:P:=by simp):P:=h
def ia{P:Prop}(h:P:=by kernel_rfl):P:=h
def jo{P:Prop}(h:P:=by decide):P:=h
def km{P:Prop}(h:P:=by assumption):P:=h
def iz{P:Prop}(h:P:=by simp;omega):P:=h
def iv{P:Prop}(h:P:=by dsimp only;omega):P:=h
def lO{P:Prop}(h:P:=by simp;rfl):P:=h
def yB{P:Prop}(h:P:=by first|rfl|simp):P:=h
def kM{P:Prop}(h:P:=by grind):P:=h
def pK{P:Prop}(h:P:=by simp_all):P:=h
def zdn{P:Prop}(h:P:=by dsimp only):P:=h
def tV{A P:Prop}(k:P)(a:A:=by first|omega|(dsimp only;omega)):A/\P:=⟨a,k⟩
def oO{A B P:Prop}(k:P)(a:A:=by first|omega|(dsimp only;omega))(b:B:=by first|omega|(dsimp only;omega)):A/\B/\P:=⟨a,b,k⟩
def iQ{A B C P:Prop}(k:P)(a:A:=by first|omega|(dsimp only;omega))(b:B:=by first|omega|(dsimp only;omega))(c:C:=by first|omega|(dsimp only;omega)):A/\B/\C/\P:=⟨a,b,c,k⟩
def Hy{A B C D P:Prop}(k:P)(a:A:=by first|omega|(dsimp only;omega))(b:B:=by first|omega|(dsimp only;omega))(c:C:=by first|omega|(dsimp only;omega))(d:D:=by first|omega|(dsimp only;omega)):A/\B/\C/\D/\P:=⟨a,b,c,d,k⟩
def jc{A B:Prop}(a:A:=by first|omega|(dsimp only;omega))(b:B:=by first|omega|(dsimp only;omega)):A/\B:=⟨a,b⟩
def nE{A B C:Prop}(a:A:=by first|omega|(dsimp only;omega))(b:B:=by first|omega|(dsimp only;omega))(c:C:=by first|omega|(dsimp only;omega)):A/\B/\C:=⟨a,b,c⟩
inductive D where
 | any
 | val (v:aE)
 | agg (cs:List D)
 | tup (cs:List D)
 | sl (sz:Nat) (es:List (List D))
 | gV
 | nj (vs:List aE)
 | gR (v g sz off len:Nat)
 | ptr (v g off:Nat)
 | ie (cs:List D)
 | im (v:Nat)
 | fn (fn:Fn) (first captured:List D)
 | jF (v:Nat)
 deriving Inhabited
abbrev D.i(n:Int):D:=.val (.int .i64 n)
abbrev D.b(x:Bool):D:=.val (.bool x)
abbrev Env:=List (Nat×D)
def Env.get:Env->Nat->D
 | [],_=>.any
 | (k,d)::r,j=>match lu k j with
  | true=>d
  | false=>Env.get r j
def Env.y4(k:Nat)(d:D)(r:Env)(j:Nat):Env.get ((k,d)::r) j=if k=j then d else Env.get r j:=by
 simp only[Env.get]
 by_cases h:k=j
 .simp_all
 .have:lu k j=false:=by
   cases a:lu k j with
   | false=>rfl
   | true=>exact absurd (cO a) h
  rw[if_neg h,this]
structure Loc where
 b:Nat
 base:Nat
 top:Nat
 kQ:Bool:=dx
structure Ctx where
 ι:Nat->Nat->Option Loc
 F:Nat->Prop
 RT:Nat->Option (Nat×Array Tmp×Code×Code)
inductive gX(c:Ctx)(w:cc):aE->D->Prop
 | any (v:aE):gX c w v .any
 | val (v:aE):gX c w v (.val v)
 | agg (vs:List aE) (ds:List D) (hl:vs.l=ds.l) (h1:∀v∈vs,v.oneCell'=ej)
   (h:∀(i:Nat) (v:aE) (d:D),vs[i]? = bf v->ds[i]? = bf d->gX c w v d):gX c w (.agg vs.toArray) (.agg ds)
 | tup (vs:List aE) (ds:List D) (hl:vs.l=ds.l)
   (h:∀(i:Nat) (v:aE) (d:D),vs[i]? = bf v->ds[i]? = bf d->gX c w v d):gX c w (.tuple vs.toArray) (.tup ds)
 | sl (a:Option Addr) (len cap sz:Nat) (es:List (List D)) (g:Nat->Nat->aE)
   (hlen:es.l=len) (lk:len<=cap) (jW:cap<=maxLen) (js:∀e∈es,e.l=sz)
   (mQ:a=di->cap=0)
   (hc:∀(i:Nat) (e:List D) (j:Nat) (d:D),es[i]? = bf e->e[j]? = bf d->∃b o,a=bf ⟨b,o,di⟩/\c.F b/\w.cell? ⟨b,o+(i*sz+j),di⟩=bf (g i j)/\(g i j).oneCell'=ej)
   (hr:∀(i:Nat) (e:List D) (j:Nat) (d:D),es[i]? = bf e->e[j]? = bf d->gX c w (g i j) d):gX c w (.slice a len cap) (.sl sz es)
 | gV:gX c w (.slice di 0 0) .gV
 | nj (a:Option Addr) (vs:List aE) (jW:vs.l<=maxLen) (mQ:a=di->vs = [])
   (hc:∀(i:Nat) (v:aE),vs[i]? = bf v->∃b o,a=bf ⟨b,o,di⟩/\c.F b/\w.cell? ⟨b,o+i,di⟩=bf v/\v.oneCell'=ej):gX c w (.slice a vs.l vs.l) (.nj vs)
 | gR (v k sz off len cap:Nat) (L:Loc) (ic:c.ι v k=bf L) (hv:L.kQ=dx) (lk:len<=cap) (jW:cap<=maxLen)
   (mS:L.base+(off+cap)*sz<=L.top):gX c w (.slice (bf ⟨L.b,L.base+off*sz,di⟩) len cap) (.gR v k sz off len)
 | nU (v k sz off:Nat) (L:Loc) (ic:c.ι v k=bf L) (a:Option Addr):gX c w (.slice a 0 0) (.gR v k sz off 0)
 | ptr (v k off:Nat) (L:Loc) (ic:c.ι v k=bf L) (hv:L.kQ=dx):gX c w (.pointer (bf ⟨L.b,L.base+off,di⟩)) (.ptr v k off)
 | ie (b o:Nat) (cs:List D) (g:Nat->aE) (hF:c.F b)
   (hc:∀(j:Nat) (d:D),cs[j]? = bf d->w.cell? ⟨b,o+j,di⟩=bf (g j)/\(g j).oneCell'=ej)
   (hr:∀(j:Nat) (d:D),cs[j]? = bf d->gX c w (g j) d):gX c w (.pointer (bf ⟨b,o,di⟩)) (.ie cs)
 | im (v:Nat) (L:Loc) (ic:c.ι v 0=bf L) (hv:L.kQ=dx):gX c w (.map (bf L.b)) (.im v)
 | fn (fn:Fn) (fs cs:List aE) (df dc:List D) (jK:fs.l=df.l) (ki:cs.l=dc.l)
   (h1:∀(i:Nat) (v:aE) (d:D),fs[i]? = bf v->df[i]? = bf d->gX c w v d)
   (h2:∀(i:Nat) (v:aE) (d:D),cs[i]? = bf v->dc[i]? = bf d->gX c w v d):gX c w (.func fn fs.toArray cs.toArray) (.fn fn df dc)
 | jF (v:Nat) (L:Loc) (ic:c.ι v 0=bf L) (hv:L.kQ=dx):gX c w (.func (.yield L.b) #[] #[]) (.jF v)
inductive KK where
 | int (k:eB)
 | str
 | bool
 | ints (l:List eB)
 deriving Inhabited,DecidableEq
def vx:List eB->List aE->Bool
 | [],[]=>ej
 | k::ks,.int k' _::vs=>k == k'&&vx ks vs
 | _,_=>dx
def KK.has:KK->aE->Bool
 | .int k,.int k' _=>k == k'
 | .str,.string _=>ej
 | .bool,.bool _=>ej
 | .ints l,.agg cs=>vx l cs.toList
 | _,_=>dx
inductive sx where
 | ready|busy|Df|Bu (id:Nat)
 deriving Inhabited,DecidableEq
inductive Ob where
 | row (t:cp) (g:Nat) (cs:List D)
 | map (kk:KK) (es:List (aE×D))
 | iV (rf:Nat) (env:Env) (st:sx)
 | uI (s:ByteArray) (pos:Nat)
 | jO (m:D) (since:Nat) (seen:List Nat)
 | jJ
 | dead
 | na
 deriving Inhabited
def Ob.alive:Ob->Bool
 | .dead | .na=>dx
 | _=>ej
def Ob.gen:Ob->Nat
 | .row _ g _=>g
 | _=>0
abbrev gQ:=List Ob
def nh(c:Ctx)(H:gQ)(v:Nat)(L:Loc):Prop:=∃o,H[v]? = bf o/\o.alive=ej/\c.ι v o.gen=bf L
def nH(c:Ctx)(H:gQ)(b:Nat):Prop:=∃v L,nh c H v L/\L.kQ=dx/\L.b=b
def IQ(c:Ctx)(w:cc)(arr:Array jX)(a:Nat)(es:List (aE×D)):Prop:=
 arr.size=es.l/\(∀(i:Nat) (e:jX) (x:aE×D),arr[i]? = bf e->es[i]? = bf x->e.key=x.1/\gX c w e.val x.2/\e.born=i)/\a=es.l
def sx.is:sx->Loop->Prop
 | .ready,r=>r.state = .ready/\r.pending=di
 | .busy,r=>r.state = .busy
 | .Df,r=>r.state = .done/\r.pending=bf .ret
 | .Bu id,r=>r.state = .done/\r.pending=bf (.exit id)
def iY(c:Ctx)(w:cc):Option Loc->Ob->Prop
 | _,.dead=>True
 | L,.na=>L=di
 | none,_=>False
 | some L,.row t _ cs=>if L.kQ then cs = []else
   ∃arr:Array aE,w.heap[L.b]? = bf (.cells arr t (0,0))/\L.top=arr.size/\L.base+cs.l<=L.top /\
    ∀(i:Nat) (d:D),cs[i]? = bf d->∃v,arr[L.base+i]? = bf v/\v.oneCell'=ej/\gX c w v d
 | some L,.map kk es=>L.kQ=dx/\(∀x∈es,kk.has x.1=ej)/\∃arr a,w.heap[L.b]? = bf (.map arr a)/\IQ c w arr a es
 | some L,.iV rf env st=>L.kQ=dx/\∃r:Loop,w.heap[L.b]? = bf (.loop r)/\(∀k,gX c w (r.tmps.getD k undef) (env.get k)) /\
   (∃N,c.RT rf=bf (N,r.params,r.assign,r.body)/\N<=r.tmps.size)/\st.is r
 | some L,.uI s p=>L.kQ=dx/\L.base=0/\w.heap[L.b]? = bf (.stringIter s p)
 | some L,.jO m since seen=>L.kQ=dx/\L.base=0/\∃b:Nat,gX c w (.map (bf b)) m/\w.heap[L.b]? = bf (.mapIter (bf b) since seen.toArray since)
 | some L,.jJ=>L.kQ=ej\/w.heap[L.b]? = bf (.deferred (bf []))
structure HeapOK(c:Ctx)(H:gQ)(w:cc):Prop where
 inj:∀v v' L L',nh c H v L->nh c H v' L'->L.kQ=dx->L'.kQ=dx->L.b=L'.b->v=v'
 lt:∀b,nH c H b->b<w.heap.size
 nF:∀b,nH c H b->¬c.F b
 l9:∀b,c.F b->b<w.heap.size
 out:∀v k,H.l<=v->c.ι v k=di
 n5:∀v o k,H[v]? = bf o->(o = .na\/(o.alive=ej/\o.gen<k))->c.ι v k=di
 ob:∀(v:Nat) (o:Ob),H[v]? = bf o->iY c w (c.ι v o.gen) o
structure Step(n:Nat)(c:Ctx)(H:gQ)(w:cc)(c':Ctx)(H':gQ)(w':cc):Prop where
 os:w'.os=w.os/\w.drawn<=w'.drawn
 tape:w'.tape=w.tape
 output:w'.output=w.output
 size:w.heap.size<=w'.heap.size
 RT:c'.RT=c.RT
 Fm:∀b,c.F b->c'.F b
 Fn:∀b,c'.F b->c.F b\/w.heap.size<=b\/nH c H b
 kept:∀b,b<w.heap.size->¬nH c H b->w'.heap[b]? = w.heap[b]?
 old:∀v k L,v<n->c.ι v k=bf L->c'.ι v k=bf L
 own:∀b,nH c' H' b->w.heap.size<=b\/nH c H b
def Step.refl(n:Nat)(c:Ctx)(H:gQ)(w:cc):Step n c H w c H w:=
 ⟨⟨rfl,ek _⟩,rfl,rfl,ek _,rfl,λ_ h=>h,λ_ h=>.inl h,λ_ _ _=>rfl,λ_ _ _ _ h=>h,λ_ h=>.inr h⟩
theorem Step.trans{n m:Nat}{c d c2:Ctx}{H H1 H2:gQ}{w w1 w2:cc}(h1:Step n c H w d H1 w1)(a:Step m d H1 w1 c2 H2 w2)(f:n<=m) :
  Step n c H w c2 H2 w2 where
 os:=⟨a.os.1.trans h1.os.1,fa h1.os.2 a.os.2⟩
 tape:=a.tape.trans h1.tape
 output:=a.output.trans h1.output
 size:=fa h1.size a.size
 RT:=a.RT.trans h1.RT
 Fm b h:=a.Fm b (h1.Fm b h)
 Fn b h:=by
  rcases a.Fn b h with h|h|h
  .exact h1.Fn b h
  .exact .inr (.inl (fa h1.size h))
  .rcases h1.own b h with h|h
   .grind
   .grind
 kept b hb hn:=by
  rw[a.kept b (aW hb h1.size) (λe=>?_),h1.kept b hb hn];rcases h1.own b e with h|h
  .omega
  .exact hn h
 old v k L hv h:=a.old v k L U (h1.old v k L hv h)
 own b h:=by
  rcases a.own b h with h|h
  .exact .inl (fa h1.size h)
  .exact h1.own b h
def Step.weaken{n m:Nat}{c c':Ctx}{H H':gQ}{w w':cc}(h:Step n c H w c' H' w')(b:m<=n):Step m c H w c' H' w':=
 { h with old:=λv k L a=>h.old v k L U }
def Je{w w':cc}{a:Addr}(h:w'.heap[a.block]? = w.heap[a.block]?):w'.cell? a=w.cell? a:=by simp[World.cell?,h]
def gX.carry{c c':Ctx}{w w':cc}(q:∀v k L,c.ι v k=bf L->c'.ι v k=bf L)(A:∀b,c.F b->c'.F b)
  (B:∀b o,c.F b->w'.cell? ⟨b,o,di⟩=w.cell? ⟨b,o,di⟩) {v:aE} {d:D} (h:gX c w v d):gX c' w' v d:=by
 induction h with
 | any v=>exact .any _
 | val v=>exact .val _
 | agg vs ds hl h1 h n=>exact .agg vs _ hl h1 n
 | tup vs ds hl h n=>exact .tup vs _ hl n
 | sl a len cap sz es g r x p H u s J n=>
  refine .sl a len cap sz _ g r x p H u ?_ n;intro i e j d K y;obtain⟨b,o,z,m,t,h1⟩:=s i e j d K y;exact⟨b,o,z,A b m,by rw[B b _ m];exact t,h1⟩
 | gV=>exact .gV
 | nj a vs p u s=>
  refine .nj a vs p u ?_;intro i v l;obtain⟨b,o,z,m,t,h1⟩:=s i v l;exact⟨b,o,z,A b m,by rw[B b _ m];exact t,h1⟩
 | gR v k sz off len cap L h l x p F=>exact .gR v k sz off len cap L (q _ _ _ h) l x p F
 | nU v k sz off L h a=>exact .nU v k sz off L (q _ _ _ h) a
 | ptr v k off L h l=>exact .ptr v k off L (q _ _ _ h) l
 | ie b o cs g m s J n=>
  refine .ie b o _ g (A b m) ?_ n;intro j d y;rw[B b _ m];exact s j d y
 | im v L h l=>exact .im v L (q _ _ _ h) l
 | fn f fs cs N O I G h1 M E C=>exact .fn f fs cs _ _ I G E C
 | jF v L h l=>exact .jF v L (q _ _ _ h) l
def gX.step{n:Nat}{c c':Ctx}{H H':gQ}{w w':cc}(e:HeapOK c H w)(hs:Step n c H w c' H' w')(i:H.l<=n){v:aE}{d:D}(h:gX c w v d) :
  gX c' w' v d:=by
 refine h.carry (λv k L a=>hs.old v k L ?_ a) hs.Fm (λb o f=>Je (hs.kept b (e.l9 b f) (λg=>e.nF b g f)));rcases bU v H.l with h|h
 .omega
 .rw[e.out v k h]at a;cases a
def gX.sv{c c':Ctx}{H H':gQ}{w w':cc}(a:HeapOK c H w)(hs:Step H.l c H w c' H' w'){v:aE}{d:D}(h:gX c w v d):gX c' w' v d:=
 h.step a hs (ek _)
inductive X where
 | t (k:Nat)
 | c (d:D)
 deriving Inhabited
abbrev iM:=Nat->D
def ev(env:iM):X->D
 | .t k=>env k
 | .c d=>d
def cellsOf:D->Option (List D)
 | .agg cs=>bf cs
 | .any | .tup _=>di
 | .val v=>if v.oneCell' then bf [.val v]else di
 | d=>bf [d]
def one:D->Bool
 | .any | .tup _ | .agg _=>dx
 | .val v=>v.oneCell'
 | _=>ej
mutual
def closed:D->Bool
 | .any | .val _ | .gV | .nj _=>ej
 | .agg cs | .tup cs | .ie cs=>iB cs
 | .sl _ es=>FY es
 | .gR .. | .ptr .. | .im _ | .jF _=>dx
 | .fn _ a b=>iB a&&iB b
def iB:List D->Bool
 | []=>ej
 | d::ds=>closed d&&iB ds
def FY:List (List D)->Bool
 | []=>ej
 | e::es=>iB e&&FY es
end
def oz:aE->aE->Bool
 | .int k a,.int k' b=>k == k'&&a == b
 | .string a,.string b=>a == b
 | .bool a,.bool b=>a == b
 | .agg a,.agg b=>a.size == b.size&&(a.toList.zip b.toList).all λ(x,y)=>match x,y with
  | .int k a,.int k' b=>k == k'&&a == b
  | _,_=>dx
 | _,_=>dx
def K3:List D->Option (List aE)
 | []=>bf []
 | .val (.int k n)::r=>(K3 r).map (.int k n :: ·)
 | _::_=>di
def keyOf:D->Option aE
 | .val (.int k n)=>bf (.int k n)
 | .val (.string s)=>bf (.string s)
 | .val (.bool b)=>bf (.bool b)
 | .agg cs=>(K3 cs).map λl=>.agg l.toArray
 | _=>di
def uC:aE->D
 | .agg cs=>.agg (cs.toList.map .val)
 | v=>.val v
def oN:List (aE×D)->aE->Option D
 | [],_=>di
 | (k,d)::r,j=>if oz j k then bf d else oN r j
def lF:List (aE×D)->aE->D->List (aE×D)
 | [],j,x=>[(j,x)]
 | (k,d)::r,j,x=>if oz j k then(j,x)::r else(k,d)::lF r j x
inductive oe where
 | int|bool|str
 deriving Inhabited,DecidableEq
inductive CZ where
 | slice|string|map
 deriving Inhabited,DecidableEq
inductive jG where
 | mv (x:X)
 | pick (c a b:X)
 | box (t:cp) (x:X)
 | alloc (t:cp) (z:List D)
 | build (z:List D) (ps:List (Nat×Nat×X))
 | buildSl (t sz:Nat) (z:List D) (n:Nat) (ps:List (Nat×X))
 | ld1 (x:X)
 | ldN (n:Nat) (x:X)
 | st1 (a x:X)
 | stN (n:Nat) (a x:X)
 | nilck (x:X)
 | arith (op:gb) (x y:X)
 | eqS (kO:Bool) (ls:List oe) (neg:Bool) (x y:X)
 | un (op:UnOp) (x:X)
 | conv (k:eB) (x:X)
 | b2s (x:X)
 | mkfn (fn:Fn) (first captured:List X)
 | mkmap (kk:KK)
 | mksl (t sz bytes:Nat) (z:List D) (l c:X)
 | slc (sz:Nat) (x:X) (lo hi:Option X)
 | slcS (x:X) (lo hi:Option X)
 | slc3 (sz:Nat) (x:X) (lo:Option X) (hi mx:X)
 | slcArr (sz n:Nat) (x:X) (lo hi:Option X)
 | fieldA (off:Nat) (x:X)
 | field (off n:Nat) (kO:Bool) (x:X)
 | idxA (sz:Nat) (x i:X)
 | idxArr (sz n:Nat) (x i:X)
 | idx (sz n:Nat) (kO:Bool) (x i:X)
 | idxStr (x i:X)
 | lookup (kk:KK) (z:D) (ok:Bool) (m k:X)
 | mapUpd (kk:KK) (m k v:X)
 | ext (x:X) (i:Nat)
 | call (f:jA) (args:List X)
 | callN (f:jA) (args:List X)
 | callv (f:X) (args:List X)
 | app (t sz bytes:Nat) (x y:X)
 | copy (sz:Nat) (x y:X)
 | len (k:CZ) (x:X)
 | minmax (isMax:Bool) (xs:List X)
 | nilS (neg:Bool) (x:X)
 | capE (x:X)
 | appZ (t sz bytes:Nat) (z:List D) (x n:X)
 | clr (sz:Nat) (z:List D) (x:X)
 | rangeS (x:X)
 | nextS (x:X)
 | rangeM (x:X)
 | nextM (x:X)
 | entry (x:X)
 | mapEnt (kk:KK) (z:D) (m k:X)
 | entSt (m s x:X)
 deriving Inhabited
structure jb where
 dst:Option Nat
 op:jG
 guard:Option (Nat×Bool):=di
 deriving Inhabited
structure GT where
 g:Nat->Option (List D)
 rt:Nat->Option (Nat×Array Tmp×Code×Code)
 nw:jA->Bool:=λ_=>dx
instance:CoeFun GT (λ_=>Nat->Option (List D)):=⟨GT.g⟩
inductive kF(c:Ctx)(w:cc):List aE->List D->Prop
 | nil:kF c w [] []
 | cons {v d vs ds} (h:gX c w v d) (t:kF c w vs ds):kF c w (v::vs) (d::ds)
structure iy(G:GT)(c:Ctx)(H:gQ)(w:cc):Prop extends HeapOK c H w where
 gl:∀(g:Nat) (cs:List D),G g=bf cs->iB cs=ej/\gX c w (.pointer (bf ⟨g,0,di⟩)) (.ie cs)
 rt:c.RT=G.rt
abbrev kH:=D->gQ->Prop
abbrev Al:=Nat×(Ob->gQ)
def Al.last(H:gQ):Al:=(H.l,λob=>H ++ [ob])
def Al.na(H:gQ)(v:Nat):Al:=(v,λob=>H.set v ob)
def p6(n:Int):Prop := -9223372036854775808<=n/\n<=9223372036854775807
def IX(op:gb)(k:eB)(a b:Int)(H:gQ)(K:kH):Prop:=
 match op with
 | .add=>if k = .i64 then p6 (a+b)/\K (.val (.int .i64 (a+b))) H else K (.val (.int k (k.wrap (a+b)))) H
 | .sub=>if k = .i64 then p6 (a-b)/\K (.val (.int .i64 (a-b))) H else K (.val (.int k (k.wrap (a-b)))) H
 | .mul=>if k = .i64 then p6 (a*b)/\K (.val (.int .i64 (a*b))) H else K (.val (.int k (k.wrap (a*b)))) H
 | .quo=>b≠0/\K (.val (.int k (k.wrap (a.tdiv b)))) H
 | .rem=>b≠0/\K (.val (.int k (a.tmod b))) H
 | .and | .or | .xor | .andNot=>K (.val (.int k (bits op k a b))) H
 | .eql=>K (.val (.bool (a == b))) H
 | .neq=>K (.val (.bool (a != b))) H
 | .lss=>K (.val (.bool (decide (a<b)))) H
 | .leq=>K (.val (.bool (decide (a<=b)))) H
 | .gtr=>K (.val (.bool (decide (a>b)))) H
 | .geq=>K (.val (.bool (decide (a>=b)))) H
 | _=>False
def L3(op:gb)(k:eB)(a b:Int)(H:gQ)(K:kH):Prop:=
 match op with
 | .shl=>0<=b/\K (.val (.int k (k.wrap (a*2 ^ (min b.n k.bits))))) H
 | .shr=>0<=b/\K (.val (.int k (a.fdiv (2 ^ (min b.n k.bits))))) H
 | _=>False
def sn:gb->Bool
 | .shl | .shr=>ej
 | _=>dx
def SG(op:gb)(a b:ByteArray)(H:gQ)(K:kH):Prop:=
 match op with
 | .eql=>K (.val (.bool (a.data.toList == b.data.toList))) H
 | .neq=>K (.val (.bool (!(a.data.toList == b.data.toList)))) H
 | .add=>((a.size+b.size:Nat):Int)<=9223372036854775807/\K (.val (.string (a++b))) H
 | _=>False
def I3(op:gb)(x y:D)(H:gQ)(K:kH):Prop:=
 match x,y with
 | .val (.int k a),.val (.int k' b)=>if sn op then L3 op k a b H K else k=k'/\IX op k a b H K
 | .val (.string a),.val (.string b)=>SG op a b H K
 | _,_=>False
def Mk(op:UnOp)(x:D)(H:gQ)(K:kH):Prop:=
 match op,x with
 | .not,.val (.bool b)=>K (.val (.bool (!b))) H
 | .neg,.val (.int .i64 n)=>p6 (-n)/\K (.val (.int .i64 (-n))) H
 | .xor,.val (.int k n)=>K (.val (.int k (bits .xor k (if k.signed then -1 else k.max) n))) H
 | _,_=>False
def wZ:oe->D->D->Option Bool
 | .int,.val (.int k a),.val (.int k' b)=>if k=k' then bf (a == b)else di
 | .bool,.val (.bool a),.val (.bool b)=>bf (a == b)
 | .str,.val (.string a),.val (.string b)=>bf (a.data.toList == b.data.toList)
 | _,_,_=>di
def oi:List oe->List D->List D->Option Bool
 | [],[],[]=>bf ej
 | l::ls,x::xs,y::ys=>match wZ l x y,oi ls xs ys with
  | some a,bf b=>bf (a&&b)
  | _,_=>di
 | _,_,_=>di
def yV(c:Bool)(ls:List oe)(neg:Bool)(x y:D)(H:gQ)(K:kH):Prop:=
 match c,x,y with
 | true,.agg a,.agg b=>match oi ls a b with
  | some r=>K (.val (.bool (if neg then !r else r))) H
  | none=>False
 | false,x,y=>match oi ls [x] [y]with
  | some r=>K (.val (.bool (if neg then !r else r))) H
  | none=>False
 | _,_,_=>False
def Ls(c a b:D)(H:gQ)(K:kH):Prop:=
 match c with
 | .val (.bool x)=>K (if x then a else b) H
 | _=>False
def rowAt(H:gQ)(v k:Nat):Option (cp×List D):=match H[v]? with
 | some (.row t g cs)=>if g=k then bf (t,cs)else di
 | _=>di
def K5(x:D)(H:gQ)(K:kH):Prop:=
 match x with
 | .ptr v g o=>match rowAt H v g with
  | some (_,cs)=>match cs[o]? with
   | some d=>K d H
   | none=>False
  | none=>False
 | .ie cs=>match cs[0]? with
  | some d=>K d H
  | none=>False
 | _=>False
def K6(n:Nat)(x:D)(H:gQ)(K:kH):Prop:=
 match x with
 | .ptr v g o=>match rowAt H v g with
  | some (_,cs)=>o+n<=cs.l/\K (.agg ((cs.drop o).take n)) H
  | none=>False
 | .ie cs=>n<=cs.l/\K (.agg (cs.take n)) H
 | _=>False
def Ma(a x:D)(H:gQ)(K:kH):Prop:=
 match a with
 | .ptr v g o=>match rowAt H v g with
  | some (t,cs)=>o<cs.l/\one x=ej/\K .any (H.set v (.row t g (cs.set o x)))
  | none=>False
 | _=>False
def Mb(n:Nat)(a x:D)(H:gQ)(K:kH):Prop:=
 match a,cellsOf x with
 | .ptr v g o,bf xs=>match rowAt H v g with
  | some (t,cs)=>xs.l=n/\o+n<=cs.l/\K .any (H.set v (.row t g (cs.take o++xs++cs.drop (o+n))))
  | none=>False
 | _,_=>False
def I6(t:cp)(x:D)(al:Al)(K:kH):Prop:=
 match cellsOf x with
 | some cs=>K (.ptr al.1 0 0) (al.2 (.row t 0 cs))
 | none=>False
def lay:List (Nat×Nat×List D)->List D->Option (List D)
 | [],cs=>bf cs
 | (o,n,xs)::r,cs=>if xs.l=n/\o+n<=cs.l then lay r (cs.take o++xs++cs.drop (o+n))else di
def partsOf(env:iM):List (Nat×Nat×X)->Option (List (Nat×Nat×List D))
 | []=>bf []
 | (o,n,x)::r=>match cellsOf (ev env x),partsOf env r with
  | some cs,bf l=>bf ((o,n,cs)::l)
  | _,_=>di
def C6(env:iM)(z:List D)(ps:List (Nat×Nat×X))(H:gQ)(K:kH):Prop:=
 match partsOf env ps with
 | some l=>match lay l z with
  | some cs=>K (.agg cs) H
  | none=>False
 | none=>False
def I7(env:iM)(t sz:Nat)(z:List D)(n:Nat)(ps:List (Nat×X))(al:Al)(K:kH):Prop:=
 match partsOf env (ps.map λp=>(p.1*sz,sz,p.2))with
 | some l=>match lay l (hY n z).flatten with
  | some cs=>K (.gR al.1 0 sz 0 n) (al.2 (.row t 0 cs))
  | none=>False
 | none=>False
def JA(off:Nat)(x:D)(H:gQ)(K:kH):Prop:=
 match x with
 | .ptr v g o=>K (.ptr v g (o+off)) H
 | .ie cs=>K (.ie (cs.drop off)) H
 | _=>False
def Ds(off n:Nat)(a:Bool)(x:D)(H:gQ)(K:kH):Prop:=
 match x with
 | .agg cs=>if a then off+n<=cs.l/\K (.agg ((cs.drop off).take n)) H else match cs[off]? with
  | some d=>K d H
  | none=>False
 | _=>False
def KU(sz:Nat)(x i:D)(H:gQ)(K:kH):Prop:=
 match x,i with
 | .sl iR es,.val (.int _ n)=>iR=sz/\(0<=n/\n<es.l)/\K (.ie (es.getD n.n [])) H
 | .nj vs,.val (.int _ n)=>1=sz/\(0<=n/\n<vs.l)/\K (.ie [.val (vs.getD n.n undef)]) H
 | .gR v g iR off len,.val (.int _ n)=>iR=sz/\(0<=n/\n<len)/\K (.ptr v g ((off+n.n)*sz)) H
 | _,_=>False
def KV(sz n:Nat)(x i:D)(H:gQ)(K:kH):Prop:=
 match x,i with
 | .ptr v g o,.val (.int _ k)=>(0<=k/\k<n)/\K (.ptr v g (o+k.n*sz)) H
 | .ie cs,.val (.int _ k)=>(0<=k/\k<n)/\K (.ie (cs.drop (k.n*sz))) H
 | _,_=>False
def KX(sz n:Nat)(a:Bool)(x i:D)(H:gQ)(K:kH):Prop:=
 match x,i with
 | .agg cs,.val (.int _ k)=>(0<=k/\k<n)/\Ds (k.n*sz) sz a (.agg cs) H K
 | _,_=>False
def KY(x i:D)(H:gQ)(K:kH):Prop:=
 match x,i with
 | .val (.string s),.val (.int _ k)=>(0<=k/\k<s.size)/\K (.val (.int .u8 ((s.data.toList.getD k.n 0).n))) H
 | _,_=>False
def mU(H:gQ)(v:Nat):Option (KK×List (aE×D)):=match H[v]? with
 | some (.map kk es)=>bf (kk,es)
 | _=>di
def La(a:KK)(z:D)(ok:Bool)(m k:D)(H:gQ)(K:kH):Prop:=
 match m,keyOf k with
 | .im v,bf kv=>match mU H v with
  | some (kk,es)=>kk=a/\kk.has kv=ej/\(match oN es kv with
    | some d=>K (if ok then .tup [d,.val (.bool ej)]else d) H
    | none=>K (if ok then .tup [z,.val (.bool dx)]else z) H)
  | none=>False
 | _,_=>False
def Ld(a:KK)(m k x:D)(H:gQ)(K:kH):Prop:=
 match m,keyOf k with
 | .im v,bf kv=>match mU H v with
  | some (kk,es)=>kk=a/\kk.has kv=ej/\K .any (H.set v (.map kk (lF es kv x)))
  | none=>False
 | _,_=>False
def Jw(x:D)(i:Nat)(H:gQ)(K:kH):Prop:=
 match x with
 | .tup ds=>match ds[i]? with
  | some d=>K d H
  | none=>False
 | _=>False
def Li(t sz bytes:Nat)(z:List D)(l c:D)(al:Al)(K:kH):Prop:=
 match l,c with
 | .val (.int _ n),.val (.int _ m)=>(0<=n/\n<=m/\m<=9223372036854775807/\(bytes:Int)*m<=281474976710656)/\K (.gR al.1 0 sz 0 n.n) (al.2 (.row t 0 (hY m.n z).flatten))
 | _,_=>False
def jd(env:iM):Option X->Int->Option Int
 | none,n=>bf n
 | some x,_=>match ev env x with
  | .val (.int _ n)=>bf n
  | _=>di
def L6(env:iM)(sz:Nat)(x:D)(lo hi:Option X)(H:gQ)(K:kH):Prop:=
 match x with
 | .sl a es=>match jd env lo 0,jd env hi es.l with
  | some l,bf h=>a=sz/\(0<=l/\l<=h/\h<=es.l)/\K (.sl sz ((es.drop l.n).take (h.n-l.n))) H
  | _,_=>False
 | .gR v g a off len=>match jd env lo 0,jd env hi len with
  | some l,bf h=>a=sz/\(0<=l/\l<=h/\h<=len)/\K (.gR v g sz (off+l.n) (h.n-l.n)) H
  | _,_=>False
 | .gV=>match jd env lo 0,jd env hi 0 with
  | some l,bf h=>(l=0/\h=0)/\K .gV H
  | _,_=>False
 | _=>False
def Ic:List (List D)->Option (List aE)
 | []=>bf []
 | [.val v]::r=>if v.oneCell' then(match Ic r with|some l=>bf (v::l)|none=>di)else di
 | _::_=>di
def clip(sz:Nat)(es:List (List D)):D:=match Ic es with
 | some vs=>if sz=1 then .nj vs else .sl sz es
 | none=>.sl sz es
def L4(env:iM)(sz:Nat)(x:D)(lo:Option X)(hi mx:X)(H:gQ)(K:kH):Prop:=
 match jd env lo 0,jd env (bf hi) 0,jd env (bf mx) 0 with
 | some l,bf h,bf m=>match x with
  | .sl a es=>a=sz/\(0<=l/\l<=h/\h=m/\m<=es.l)/\K (clip sz ((es.drop l.n).take (h.n-l.n))) H
  | .gR v g a off len=>a=sz/\(0<=l/\l<=h/\h<=m/\m<=len)/\K (.gR v g sz (off+l.n) (h.n-l.n)) H
  | .gV=>(l=0/\h=0/\m=0)/\K .gV H
  | _=>False
 | _,_,_=>False
def L5(env:iM)(sz n:Nat)(x:D)(lo hi:Option X)(H:gQ)(K:kH):Prop:=
 match x,jd env lo 0,jd env hi n with
 | .ie cs,bf l,bf h=>(sz=1/\n<=cs.l/\n<=16777216/\0<=l/\l<=h/\h<=n)/\K (.sl 1 (((cs.drop l.n).take (h.n-l.n)).map λd=>[d])) H
 | .ptr v g o,bf l,bf h=>match rowAt H v g with
  | some (_,cs)=>(o % sz=0/\o+n*sz<=cs.l/\n<=16777216/\0<=l/\l<=h/\h<=n)/\K (.gR v g sz (o / sz+l.n) (h.n-l.n)) H
  | none=>False
 | _,_,_=>False
def HR(env:iM)(x:D)(lo hi:Option X)(H:gQ)(K:kH):Prop:=
 match x with
 | .val (.string s)=>match jd env lo 0,jd env hi s.size with
  | some l,bf h=>(0<=l/\l<=h/\h<=s.size)/\K (.val (.string (s.extract l.n h.n))) H
  | _,_=>False
 | _=>False
def lX(sz:Nat)(H:gQ):D->Option (List D×Nat)
 | .sl a es=>if a=sz then bf (es.flatten,es.l)else di
 | .gV=>bf ([],0)
 | .nj vs=>if sz=1 then bf (vs.map .val,vs.l)else di
 | .gR v g a off len=>match rowAt H v g with
  | some (_,cs)=>if a=sz/\(off+len)*sz<=cs.l then bf ((cs.drop (off*sz)).take (len*sz),len)else di
  | none=>di
 | _=>di
def IW(t sz bytes:Nat)(x y:D)(H:gQ)(al:Al)(K:kH):Prop:=
 match lX sz H y with
 | some (ys,n)=>match x with
  | .gR v g a off len=>match rowAt H v g with
   | some (t',cs)=>(a=sz/\t'=t/\(off+len)*sz<=cs.l/\(len+n)*bytes<=140737488355328/\len+n<=9223372036854775807) /\
     K (.gR v (g+1) sz 0 (len+n)) (H.set v (.row t (g+1) ((cs.drop (off*sz)).take (len*sz)++ys)))
   | none=>False
  | .nj vs=>(n≠0/\sz=1/\(vs.l+n)*bytes<=140737488355328/\vs.l+n<=9223372036854775807)/\K (.gR al.1 0 sz 0 (vs.l+n)) (al.2 (.row t 0 (vs.map .val++ys)))
  | .gV=>if n=0 then K .gV H else(n*bytes<=140737488355328/\n<=9223372036854775807)/\K (.gR al.1 0 sz 0 n) (al.2 (.row t 0 ys))
  | _=>False
 | none=>False
def Jp(sz:Nat)(x y:D)(H:gQ)(K:kH):Prop:=
 match x,lX sz H y with
 | .gR v g iR off len,bf (ys,n)=>match rowAt H v g with
  | some (t,cs)=>(iR=sz/\(off+len)*sz<=cs.l) /\
    K (.val (.int .i64 (min n len:Nat))) (H.set v (.row t g (cs.take (off*sz)++ys.take (min n len*sz)++cs.drop (off*sz+min n len*sz))))
  | none=>False
 | .gV,bf _=>K (.val (.int .i64 0)) H
 | _,_=>False
def K8(k:CZ)(x:D)(H:gQ)(K:kH):Prop:=
 match k,x with
 | .slice,.sl _ es=>K (.val (.int .i64 es.l)) H
 | .slice,.gV=>K (.val (.int .i64 0)) H
 | .slice,.nj vs=>K (.val (.int .i64 vs.l)) H
 | .slice,.gR _ _ _ _ len=>K (.val (.int .i64 len)) H
 | .string,.val (.string s)=>K (.val (.int .i64 s.size)) H
 | .map,.im v=>match mU H v with
  | some (_,es)=>K (.val (.int .i64 es.l)) H
  | none=>False
 | _,_=>False
def tQ(env:iM):List X->Option (List Int)
 | []=>bf []
 | x::r=>match ev env x,tQ env r with
  | .val (.int .i64 n),bf l=>bf (n::l)
  | _,_=>di
def Lh(env:iM)(d:Bool)(xs:List X)(H:gQ)(K:kH):Prop:=
 match tQ env xs with
 | some [a,b]=>K (.val (.int .i64 (if d then max a b else min a b))) H
 | some [a,b,c]=>K (.val (.int .i64 (if d then max (max a b) c else min (min a b) c))) H
 | _=>False
def Ll(x:D)(H:gQ)(K:kH):Prop:=
 match x with
 | .ptr v g o=>K (.ptr v g o) H
 | .ie cs=>K (.ie cs) H
 | .fn (.func f) a b=>K (.fn (.func f) a b) H
 | .jF v=>K (.jF v) H
 | _=>False
def Jm(k:eB)(x:D)(H:gQ)(K:kH):Prop:=
 match x with
 | .val (.int _ n)=>K (.val (.int k (k.wrap n))) H
 | _=>False
def bytesOf:List D->Option (List Int)
 | []=>bf []
 | .val (.int .u8 n)::r=>match bytesOf r with
  | some l=>bf (n::l)
  | none=>di
 | _=>di
def I1(x:D)(H:gQ)(K:kH):Prop:=
 match lX 1 H x with
 | some (ys,_)=>match bytesOf ys with
  | some a=>K (.val (.string (a.foldl (λr n=>r.push (UInt8.ofNat n.n)) ByteArray.empty))) H
  | none=>False
 | none=>False
def IV(env:iM)(H:gQ)(al:Al)(K:kH):jG->Prop
 | .mv x=>K (ev env x) H
 | .pick c a b=>Ls (ev env c) (ev env a) (ev env b) H K
 | .box t x=>I6 t (ev env x) al K
 | .alloc t z=>K (.ptr al.1 0 0) (al.2 (.row t 0 z))
 | .build z ps=>C6 env z ps H K
 | .buildSl t sz z n ps=>I7 env t sz z n ps al K
 | .ld1 x=>K5 (ev env x) H K
 | .ldN n x=>K6 n (ev env x) H K
 | .st1 a x=>Ma (ev env a) (ev env x) H K
 | .stN n a x=>Mb n (ev env a) (ev env x) H K
 | .nilck x=>Ll (ev env x) H K
 | .arith op x y=>I3 op (ev env x) (ev env y) H K
 | .eqS e ls neg x y=>yV e ls neg (ev env x) (ev env y) H K
 | .un op x=>Mk op (ev env x) H K
 | .conv k x=>Jm k (ev env x) H K
 | .b2s x=>I1 (ev env x) H K
 | .mkfn f first cap=>K (.fn f (first.map (ev env)) (cap.map (ev env))) H
 | .mkmap kk=>K (.im al.1) (al.2 (.map kk []))
 | .mksl t sz bytes z l c=>Li t sz bytes z (ev env l) (ev env c) al K
 | .slc sz x lo hi=>L6 env sz (ev env x) lo hi H K
 | .slcS x lo hi=>HR env (ev env x) lo hi H K
 | .slc3 sz x lo hi mx=>L4 env sz (ev env x) lo hi mx H K
 | .slcArr sz n x lo hi=>L5 env sz n (ev env x) lo hi H K
 | .fieldA off x=>JA off (ev env x) H K
 | .field off n e x=>Ds off n e (ev env x) H K
 | .idxA sz x i=>KU sz (ev env x) (ev env i) H K
 | .idxArr sz n x i=>KV sz n (ev env x) (ev env i) H K
 | .idx sz n e x i=>KX sz n e (ev env x) (ev env i) H K
 | .idxStr x i=>KY (ev env x) (ev env i) H K
 | .lookup kk z ok m k=>La kk z ok (ev env m) (ev env k) H K
 | .mapUpd kk m k x=>Ld kk (ev env m) (ev env k) (ev env x) H K
 | .ext x i=>Jw (ev env x) i H K
 | .call _ _ | .callN _ _ | .callv _ _=>False
 | .app t sz bytes x y=>IW t sz bytes (ev env x) (ev env y) H al K
 | .copy sz x y=>Jp sz (ev env x) (ev env y) H K
 | .len k x=>K8 k (ev env x) H K
 | .minmax d xs=>Lh env d xs H K
 | .nilS .. | .capE .. | .appZ .. | .clr .. | .rangeS .. | .nextS .. | .rangeM .. | .nextM .. | .entry .. | .mapEnt .. | .entSt .. => False
def put(env:Env)(dst:Option Nat)(d:D):Env:=match dst with
 | some k=>(k,d)::env
 | none=>env
def Ctx.set(c:Ctx)(v k:Nat)(L:Loc):Ctx:={ c with ι:=λu l=>if u=v/\l=k then bf L else c.ι u l }
def Ctx.uH(c:Ctx)(v k:Nat)(L:Loc):(c.set v k L).ι v k=bf L:=by simp[Ctx.set]
def Ctx.yv(c:Ctx){v k u l:Nat}(L:Loc)(h:¬(u=v/\l=k)):(c.set v k L).ι u l=c.ι u l:=by simp only[Ctx.set];rw[if_neg h]
structure zJ(H:gQ)(v:Nat)(ob:Ob)(H':gQ):Prop where
 get:∀u,H'[u]? = if u=v then bf ob else H[u]?
 free:H.l<=v\/H[v]? = bf .na
 len:H.l<=H'.l
def zJ.last(H:gQ)(ob:Ob):zJ H H.l ob (H ++ [ob]) where
 get u:=by
  split
  .rename_i h;subst h;simp
  .rename_i h;rcases bU u H.l with h1|h1
   .rw[ah h1]
   .rw[aY iz,aY h1]
 free:=.inl (ek _)
 len:=gP
theorem zJ.na{H:gQ}{v:Nat}(h:H[v]? = bf .na)(ob:Ob):zJ H v ob (H.set v ob) where
 get u:=by
  have:=(ae.1 h).1;rw[bI];split
  .rename_i e;subst e;simp[this]
  .rename_i e;rw[if_neg (cP e)]
 free:=.inr h
 len:=gP
def o7(H:gQ)(al:Al):Prop:=∀ob,zJ H al.1 ob (al.2 ob)
theorem o7.last(H:gQ):o7 H (Al.last H):=λob=>zJ.last H ob
theorem o7.na{H:gQ}{v:Nat}(h:H[v]? = bf .na):o7 H (Al.na H v):=λob=>zJ.na h ob
structure ly(w w':cc):Prop where
 os:w'.os=w.os/\w.drawn<=w'.drawn
 tape:w'.tape=w.tape
 output:w'.output=w.output
 size:w.heap.size<=w'.heap.size
 kept:∀b,b<w.heap.size->w'.heap[b]? = w.heap[b]?
def ly.refl(w:cc):ly w w:=⟨⟨rfl,ek _⟩,rfl,rfl,ek _,λ_ _=>rfl⟩
theorem ly.alloc(w:cc)(o:Obj):ly w (w.alloc o):=
 ⟨⟨rfl,ek _⟩,rfl,rfl,gP,λb h=>by simp only[World.alloc,fq];rw[if_neg U]⟩
theorem ly.trans{a b c:cc}(h:ly a b)(k:ly b c):ly a c:=
 ⟨⟨k.os.1.trans h.os.1,fa h.os.2 k.os.2⟩,k.tape.trans h.tape,k.output.trans h.output,fa h.size k.size,λi hi=>(k.kept i (aW hi h.size)).trans (h.kept i hi)⟩
theorem ly.drew(w:cc):ly w w.drew:=⟨⟨rfl,Nat.le_succ _⟩,rfl,rfl,ek _,λ_ _=>rfl⟩
def Fb(n:Nat){c:Ctx}{H:gQ}{w w':cc}(hg:ly w w'):Step n c H w c H w':=
 ⟨hg.os,hg.tape,hg.output,hg.size,rfl,λ_ h=>h,λ_ h=>.inl h,λb a _=>hg.kept b a,λ_ _ _ _ h=>h,λ_ h=>.inr h⟩
def IQ.mono{c c':Ctx}{w w':cc}(j:∀v d,gX c w v d->gX c' w' v d){arr:Array jX}{f:Nat}{es:List (aE×D)}(h:IQ c w arr f es):IQ c' w' arr f es:=
 ⟨h.1,λi e x k g=>let ⟨a,b,d⟩:=h.2.1 i e x k g;⟨a,j _ _ b,d⟩,h.2.2⟩
def iY.keep{c c':Ctx}{w w':cc}(u:c'.RT=c.RT)(q:∀v d,gX c w v d->gX c' w' v d){L:Option Loc}{o:Ob}
  (f:∀l,L=bf l->l.kQ=dx->o.alive=ej->w'.heap[l.b]? = w.heap[l.b]?) (h:iY c w L o):iY c' w' L o:=by
 cases o with
 | dead=>simp[iY]
 | na=>simpa[iY]using h
 | row t g cs=>
  cases L with
  | none=>simp[iY]at h
  | some l=>
   simp only[iY]at h ⊢;split
   .rename_i a;simpa[a]using h
   .rename_i a;simp only[a]at h;obtain⟨arr,h1,b,n,j⟩:=h;refine⟨arr,by rw[f l rfl (by simpa using a) rfl];exact h1,b,n,λi d A=>?_⟩;obtain⟨v,y,x,C⟩:=j i d A;exact⟨v,y,x,q _ _ C⟩
 | map kk es=>
  cases L with
  | none=>simp[iY]at h
  | some l=>
   simp only[iY]at h ⊢;obtain⟨a,z,arr,e,h1,b⟩:=h;exact⟨a,z,arr,e,by rw[f l rfl a rfl];exact h1,b.mono q⟩
 | iV rf env st=>
  cases L with
  | none=>simp[iY]at h
  | some l=>
   simp only[iY]at h ⊢;obtain⟨a,r,h1,b,n,j⟩:=h;exact⟨a,r,by rw[f l rfl a rfl];exact h1,λk=>q _ _ (b k),by rw[u];exact n,j⟩
 | uI s p=>
  cases L with
  | none=>simp[iY]at h
  | some l=>
   simp only[iY]at h ⊢;exact⟨h.1,h.2.1,by rw[f l rfl h.1 rfl];exact h.2.2⟩
 | jO m since seen=>
  cases L with
  | none=>simp[iY]at h
  | some l=>
   simp only[iY]at h ⊢;obtain⟨h1,b,B,n,j⟩:=h;exact⟨h1,b,B,q _ _ n,by rw[f l rfl h1 rfl];exact j⟩
 | jJ=>
  cases L with
  | none=>simp[iY]at h
  | some l=>
   simp only[iY]at h ⊢
   by_cases a:l.kQ=ej
   .exact .inl a
   .exact .inr (by rw[f l rfl (by simpa using a) rfl];exact h.resolve_left a)
def iy.r9{G:GT}{c:Ctx}{H:gQ}{w w':cc}(h:iy G c H w)(hg:ly w w'):iy G c H w':=by
 have hs:=Fb H.l (c:=c) (H:=H) hg;have i:∀v d,gX c w v d->gX c w' v d:=λv d e=>e.sv h.toHeapOK hs
 exact{
  inj:=h.inj
  lt:=λb f=>aW (h.lt b f) hg.size
  nF:=h.nF
  l9:=λb f=>aW (h.l9 b f) hg.size
  out:=h.out
  n5:=h.n5
  ob:=λv o j=>(h.ob v o j).keep rfl i λl hl k e=>hg.kept _ (h.lt _ ⟨v,l,⟨o,j,e,hl⟩,k,rfl⟩)
  gl:=λg cs m=>let ⟨a,b⟩:=h.gl g cs m;⟨a,i _ _ b⟩
  rt:=h.rt }
structure Bg(H:gQ)(v:Nat)(ob:Ob)(H':gQ):Prop where
 get:∀u,H'[u]? = if u=v then bf ob else H[u]?
 free:H.l<=v\/H[v]? = bf .na\/∃o,H[v]? = bf o/\o.alive=ej/\o.gen<ob.gen
 len:H.l<=H'.l
def zJ.wQ{H:gQ}{v:Nat}{ob:Ob}{H':gQ}(h:zJ H v ob H'):Bg H v ob H':=⟨h.get,h.free.imp id .inl,h.len⟩
def H8{c:Ctx}{H H':gQ}{v:Nat}{ob:Ob}{L:Loc}(d:Bg H v ob H'){u:Nat}{l:Loc}(h:nh (c.set v ob.gen L) H' u l) :
  (u=v/\l=L)\/(u≠v/\nh c H u l):=by
 obtain⟨o,b,f,a⟩:=h;rw[d.get]at b;split at b
 .rename_i e;cases b;subst e;rw[Ctx.uH]at a;cases a;exact .inl ⟨rfl,rfl⟩
 .rename_i e;rw[Ctx.yv _ _ (λh=>e h.1)]at a;exact .inr ⟨e,o,b,f,a⟩
def ae1{G:GT}{c:Ctx}{H H':gQ}{w:cc}{v:Nat}{ob:Ob}(h:iy G c H w)(b:Bg H v ob H')(k:Nat)(f:ob.gen<=k):c.ι v k=none:=by
 rcases b.free with a|a|⟨o,d,e,hg⟩
 .exact h.out v k a
 .exact h.n5 v _ k a (.inl rfl)
 .exact h.n5 v o k d (.inr ⟨e,U⟩)
def ae2{G:GT}{c:Ctx}{H H':gQ}{w:cc}{v:Nat}{ob:Ob}{L:Loc}(h:iy G c H w)(b:Bg H v ob H')(u k:Nat)(l:Loc)(a:c.ι u k=bf l):(c.set v ob.gen L).ι u k=bf l:=by
 rw[Ctx.yv]
 .exact a
 .rintro⟨rfl,rfl⟩;rw[ae1 h b _ (ek _)]at a;cases a
def SM{G:GT}{c:Ctx}{H H':gQ}{w w':cc}{v:Nat}{ob:Ob}(h:iy G c H w)(d:Bg H v ob H')(hg:ly w w')(L:Loc)
  (f:L.kQ=dx->w.heap.size<=L.b/\L.b<w'.heap.size):Step H.l c H w (c.set v ob.gen L) H' w' where
 os:=hg.os
 tape:=hg.tape
 output:=hg.output
 size:=hg.size
 RT:=rfl
 Fm _ h:=h
 Fn _ h:=.inl h
 kept b hb _:=hg.kept b hb
 old u k l _ ic:=ae2 h d u k l ic
 own b hb:=by
  obtain⟨u,l,hl,a,e⟩:=hb;rcases H8 d hl with⟨_,rfl⟩|⟨_,hl⟩
  .exact .inl (e▸(f a).1)
  .exact .inr ⟨u,l,hl,a,e⟩
def Xy{G:GT}{c:Ctx}{H H':gQ}{w w':cc}{v:Nat}{ob:Ob}(h:iy G c H w)(f:Bg H v ob H')(hg:ly w w')(L:Loc)
  (n:L.kQ=dx->w.heap.size<=L.b/\L.b<w'.heap.size) (C:ob.alive=ej) (D:iY (c.set v ob.gen L) w' (bf L) ob):iy G (c.set v ob.gen L) H' w':=by
 have hs:=SM h f hg L n;have x:∀u d,gX c w u d->gX (c.set v ob.gen L) w' u d:=λu d r=>r.sv h.toHeapOK hs;have p:∀u l,nh c H u l->l.kQ=dx->l.b<w.heap.size:=λu l hl j=>h.lt _ ⟨u,l,hl,j,rfl⟩
 have J:v<H'.l:=by have:=f.get v;rw[if_pos rfl]at this;exact(ae.1 this).1
 exact{
  inj:=by
   intro u A l B h1 I t s F;rcases H8 f h1 with⟨rfl,rfl⟩|⟨_,b⟩<;>rcases H8 f I with⟨rfl,rfl⟩|⟨_,z⟩
   .rfl
   .have:=(n t).1;have:=p _ _ z s;omega
   .have:=(n s).1;have:=p _ _ b t;omega
   .exact h.inj u A l B b z t s F
  lt:=λb m=>by
   obtain⟨u,l,hl,j,e⟩:=m;rcases H8 f hl with⟨_,rfl⟩|⟨_,hl⟩
   .exact e▸(n j).2
   .exact e▸aW (p u l hl j) hg.size
  nF:=λb m y=>by
   obtain⟨u,l,hl,j,e⟩:=m;rcases H8 f hl with⟨_,rfl⟩|⟨_,hl⟩
   .have:=h.l9 b y;have:=(n j).1;omega
   .exact h.nF b ⟨u,l,hl,j,e⟩ y
  l9:=λb m=>aW (h.l9 b m) hg.size
  out:=λu k E=>by rw[Ctx.yv _ _ (by rintro⟨rfl,_⟩;omega)];exact h.out u k (fa f.len E)
  n5:=λu o k i q=>by
   rw[f.get]at i;split at i
   .rename_i e;cases i;subst e;rcases q with rfl|⟨_,q⟩
    .cases C
    .rw[Ctx.yv _ _ (by rintro⟨_,rfl⟩;omega)];exact ae1 h f k U
   .rename_i e;rw[Ctx.yv _ _ (λh=>e h.1)];exact h.n5 u o k i q
  ob:=λu o i=>by
   rw[f.get]at i;split at i
   .rename_i e;cases i;subst e;rw[Ctx.uH];exact D
   .rename_i e;rw[Ctx.yv _ _ (λh=>e h.1)];exact iY.keep (c:=c) (c':=c.set v ob.gen L) rfl x (λl hl j r=>hg.kept _ (p u l ⟨o,i,r,hl⟩ j)) (h.ob u o i)
  gl:=λg cs K=>let ⟨a,b⟩:=h.gl g cs K;⟨a,x _ _ b⟩
  rt:=h.rt }
structure Cells(c:Ctx)(w:cc)(vs:List aE)(cs:List D):Prop where
 len:vs.l=cs.l
 one:∀v∈vs,v.oneCell'=ej
 rep:∀(i:Nat) (v:aE) (d:D),vs[i]? = bf v->cs[i]? = bf d->gX c w v d
def Hq{G:GT}{c:Ctx}{H H':gQ}{v gen:Nat}{w:cc}(h:iy G c H w)(a:cc)(hg:ly w a)(t:cp)(vs:List aE)(cs:List D)(n:Nat)(arr:Array aE)
  (l:Bg H v (.row t gen cs) H') (f:Cells c w vs cs) (g:arr.toList.take n=vs) (p:n<=arr.size) :
  ∃L:Loc,L.kQ=dx/\L.b=a.heap.size/\L.base=0/\L.top=arr.size /\
   iy G (c.set v gen L) H' (a.alloc (.cells arr t))/\Step H.l c H w (c.set v gen L) H' (a.alloc (.cells arr t)):=by
 have k:=hg.trans (ly.alloc a (.cells arr t));refine⟨⟨a.heap.size,0,arr.size,dx⟩,rfl,rfl,rfl,rfl,?_⟩;have m:(⟨a.heap.size,0,arr.size,dx⟩:Loc).kQ=dx->w.heap.size<=(⟨a.heap.size,0,arr.size,dx⟩:Loc).b/\(⟨a.heap.size,0,arr.size,dx⟩:Loc).b<(a.alloc (.cells arr t)).heap.size:=λ_=>⟨hg.size,gP⟩;have hs:=SM h l k ⟨a.heap.size,0,arr.size,dx⟩ m;refine⟨Xy h l k _ m rfl ?_,hs⟩;have o:∀u d,gX c w u d->gX (c.set v gen ⟨a.heap.size,0,arr.size,dx⟩) (a.alloc (.cells arr t)) u d:=λu d e=>e.sv h.toHeapOK hs;have b:cs.l=n:=by rw[<-f.len,<-g];simp;omega
 simp only[iY,Ob.gen];refine⟨arr,heap_alloc_new _ _,rfl,iz,λi d e=>?_⟩;have hi:i<cs.l:=(ae.1 e).1;have j:i<arr.size:=U;refine⟨arr[i],by simp[j],?_,?_⟩
 .exact f.one _ (by rw[<-g];exact List.mem_of_getElem? (i:=i) (by rw[aJ];simp[b▸hi,j]))
 .exact o _ _ (f.rep i _ d (by rw[<-g,aJ];simp[b▸hi,j]) e)
def uG{H:gQ}{v:Nat}{ob:Ob}(a:v<H.l)(u:Nat):(H.set v ob)[u]? = if u=v then bf ob else H[u]? := by
 rw[bI];split
 .rename_i e;subst e;simp[a]
 .rename_i e;rw[if_neg (cP e)]
def as1{c:Ctx}{H:gQ}{v:Nat}{ob ob':Ob}(d:H[v]? = bf ob)(g:ob.alive=ej)(hg:ob'.gen=ob.gen){u:Nat}{l:Loc}(h:nh c (H.set v ob') u l):nh c H u l:=by
 obtain⟨o,a,f,b⟩:=h;rw[uG (ae.1 d).1]at a;split at a
 .rename_i e;cases a;subst e;exact⟨ob,d,g,by rw[<-hg];exact b⟩
 .exact⟨o,a,f,b⟩
def afr{G:GT}{c:Ctx}{H:gQ}{w:cc}(h:iy G c H w){v:Nat}{ob ob':Ob}(j:H[v]? = bf ob)(s:ob.alive=ej)(E:ob'.alive=ej)(A:ob'.gen=ob.gen){L:Loc}(z:c.ι v ob.gen=bf L)(y:L.kQ=dx)
  {w':cc} (I:w'.os=w.os/\w.drawn<=w'.drawn) (S:w'.tape=w.tape) (J:w'.output=w.output) (C:w'.heap.size=w.heap.size)
  (x:∀b,b≠L.b->w'.heap[b]? = w.heap[b]?) (N:(∀u d,gX c w u d->gX c w' u d)->iY c w' (bf L) ob') :
  iy G c (H.set v ob') w'/\Step H.l c H w c (H.set v ob') w':=by
 have B:nh c H v L:=⟨ob,j,s,z⟩;have D:nH c H L.b:=⟨v,L,B,y,rfl⟩;have t:∀u l,nh c (H.set v ob') u l->nh c H u l:=λu l hl=>as1 j s A hl;have m:∀b,nH c (H.set v ob') b->nH c H b:=λb ⟨u,l,hl,r⟩=>⟨u,l,t u l hl,r⟩
 have hs:Step H.l c H w c (H.set v ob') w':=
  ⟨I,S,J,U,rfl,λ_ h=>h,λ_ h=>.inl h,λb _ Q=>x b (λe=>Q (e▸D)),λ_ _ _ _ h=>h,λb i=>.inr (m b i)⟩
 have n:∀u d,gX c w u d->gX c w' u d:=λu d q=>q.sv h.toHeapOK hs
 refine⟨{
  inj:=λu F l M h1 R=>h.inj u F l M (t _ _ h1) (t _ _ R)
  lt:=λb i=>by rw[C];exact h.lt b (m b i)
  nF:=λb i=>h.nF b (m b i)
  l9:=λb i=>by rw[C];exact h.l9 b i
  out:=λu k P=>h.out u k (by simpa using P)
  n5:=λu o k f p=>by
   rw[uG (ae.1 j).1]at f;split at f
   .rename_i e;cases f;subst e;rcases p with rfl|⟨_,p⟩
    .cases E
    .exact h.n5 u ob k j (.inr ⟨s,U⟩)
   .exact h.n5 u o k f p
  ob:=λu o f=>by
   rw[uG (ae.1 j).1]at f;split at f
   .rename_i e;cases f;subst e;rw[A,z];exact N n
   .rename_i O;exact(h.ob u o f).keep rfl n λl hl K q=>x _ λe=>O (h.inj u v l L ⟨o,f,q,hl⟩ B K y e)
  gl:=λg cs T=>let ⟨a,b⟩:=h.gl g cs T;⟨a,n _ _ b⟩
  rt:=h.rt },hs⟩
def Ig{G:GT}{c:Ctx}{H:gQ}{w:cc}(h:iy G c H w){v g:Nat}{t:cp}{cs:List D}(q:H[v]? = bf (.row t g cs)){L:Loc}(p:c.ι v g=bf L)(j:L.kQ=dx)
  {arr:Array aE} (m:w.heap[L.b]? = bf (.cells arr t (0,0))) (a:Array aE) (o:a.size=arr.size) (l:L.top=arr.size) (e:List D) (f:L.base+e.l<=L.top)
  (y:∀(i:Nat) (d:D),e[i]? = bf d->∃u,a[L.base+i]? = bf u/\u.oneCell'=ej/\gX c w u d) :
  iy G c (H.set v (.row t g e)) (w.setRow L.b a)/\Step H.l c H w c (H.set v (.row t g e)) (w.setRow L.b a):=by
 refine afr (w':=w.setRow L.b a) (ob':=.row t g e) h q rfl rfl rfl p j ⟨rfl,ek _⟩ rfl rfl (by simp[World.setRow]) (λb z=>by simp only[World.setRow,bB];rw[if_neg (cP z)]) λr=>?_;simp only[iY,j];refine⟨a,setRow_heap w L.b arr _ t _ m,by rw[l,o],f,λi d s=>?_⟩;obtain⟨x,k,n,A⟩:=y i d s;exact⟨x,k,n,r _ _ A⟩
def vO:aE->D
 | .slice di 0 0=>.gV
 | v=>.val v
def PU:aE->Option D
 | .slice di 0 0=>bf .gV
 | .agg cs=>if cs.all (·.oneCell')then bf (.agg (cs.toList.map vO))else di
 | .tuple _=>di
 | v=>bf (.val v)
def cX(G:GT):ep->Option X
 | .tmp t=>bf (.t t)
 | .const v=>(PU v).map .c
 | .global g=>(G g).map λcs=>.c (.ie cs)
 | .func f=>bf (.c (.fn (.func f) [] []))
def zS(G:GT):List ep->Option (List X)
 | []=>bf []
 | x::r=>match cX G x,zS G r with
  | some a,bf l=>bf (a::l)
  | _,_=>di
def Bm(G:GT):List (Nat×ep)->Option (List (Nat×X))
 | []=>bf []
 | (i,x)::r=>match cX G x,Bm G r with
  | some a,bf l=>bf ((i,a)::l)
  | _,_=>di
def uc(G:GT):Option ep->Option (Option X)
 | none=>bf di
 | some x=>(cX G x).map bf
def lH(P:eh)(t:cp):Option Nat:=(P.info? t).map (·.size)
def tv(P:eh)(t:cp):Option (List D):=match (P.info? t).bind (·.zero)with
 | some z=>if z.cells.all (·.oneCell')then bf (z.cells.toList.map vO)else di
 | none=>di
def ry(P:eh)(t:cp):Option Bool:=match P.underlying t with
 | some (.struct _)|some (.array _ _)=>bf ej
 | some _=>bf dx
 | none=>di
def acj(P:eh)(t:cp):Bool:=match P.underlying t with
 | some (.int _)|some .string|some .bool=>ej
 | _=>dx
def PD(P:eh)(t:cp):Bool:=match P.underlying t with
 | some .bool=>ej
 | _=>dx
def AA(P:eh)(t:cp):Option oe:=match P.underlying t with
 | some (.int _)=>bf .int
 | some .string=>bf .str
 | some .bool=>bf .bool
 | _=>di
def Qc(P:eh):Nat->List fx->Option (List oe)
 | _,[]=>bf []
 | i,f::r=>match AA P f.type,Qc P (i+1) r with
  | some l,bf ls=>if f.offset=i/\f.name≠ "_" then bf (l::ls)else di
  | _,_=>di
def Qd(P:eh)(t:cp):Option (List oe):=match P.underlying t with
 | some (.struct fs)=>if P.stoodInHeld t=dx/\P.eqGuardType P.depth t=dx then Qc P 0 fs.toList else di
 | some (.array n e)=>if P.eqGuardType P.depth t=dx/\P.cellsOf e=1/\(P.info? e).isSome=ej then(AA P e).map (hY n)else di
 | _=>di
def Lt(P:eh)(fs:Array fx):List (Nat×X)->Option (List (Nat×Nat×X))
 | []=>bf []
 | (i,x)::r=>match fs[i]?,Lt P fs r with
  | some f,bf l=>(lH P f.type).map λn=>(f.offset,n,x)::l
  | _,_=>di
def aaZ(P:eh)(fs:Array fx):Bool:=fs.all λf=>(lH P f.type).isSome
def uW(P:eh)(f:jA):Bool:=match P.funcs[f]? with
 | some fn=>fn.name != "runtime.NumGoroutine" && fn.body.isSome
 | none=>dx
def En(P:eh):Nat->List fx->Option (List eB)
 | _,[]=>bf []
 | i,f::r=>match P.underlying f.type,En P (i+1) r with
  | some (.int k),bf ks=>if f.offset=i/\f.name≠ "_" then bf (k::ks)else di
  | _,_=>di
def xm(P:eh)(t:cp):Option KK:=match P.underlying t with
 | some (.struct fs)=>if P.stoodInHeld t=dx then(En P 0 fs.toList).map .ints else di
 | some (.int k)=>bf (.int k)
 | some .string=>bf .str
 | some .bool=>bf .bool
 | _=>di
def Ih(P:eh)(t:cp):Option D:=(P.info? t).bind λi=>i.zero.bind PU
def pv(P:eh)(G:GT)(o:Oper):Option jG:=
 match o.op with
 | .move x=>do let a <-cX G x;pure (.mv a)
 | .assign x=>do let a <-cX G x;pure (.mv a)
 | .pick c a b=>do pure (.pick (<-cX G c) (<-cX G a) (<-cX G b))
 | .box e x=>do pure (.box e (<-cX G x))
 | .alloc e=>do pure (.alloc e (<-tv P e))
 | .build t ps=>do
  let z <-tv P t
  let l <-Bm G ps.toList
  match P.underlying t with
  | some (.struct fs)=>if aaZ P fs then do pure (.build z (<-Lt P fs l))else di
  | some (.array _ e)=>do
   let sz <-lH P e
   pure (.build z (l.map λp=>(p.1*sz,sz,p.2)))
  | _=>di
 | .buildSlice t n ps=>do
  let .slice e <-P.underlying t|none
  let z <-tv P e
  let sz <-lH P e
  let l <-Bm G ps.toList
  if z.l=sz/\0<sz/\n*sz<=16777216 then pure (.buildSl e sz z n l)else di
 | .load t a=>do
  let x <-cX G a
  let n <-lH P t
  if <-ry P t then pure (.ldN n x)else pure (.ld1 x)
 | .store t a v=>do
  let x <-cX G a
  let y <-cX G v
  let n <-lH P t
  if <-ry P t then pure (.stN n x y)else if n=1 then pure (.st1 x y)else di
 | .nilCheck x=>do pure (.nilck (<-cX G x))
 | .binOp op t x y _=>do
  let a <-cX G x
  let b <-cX G y
  match op with
  | .eql=>if PD P t then pure (.eqS dx [.bool] dx a b)else if acj P t then pure (.arith .eql a b)else do pure (.eqS ej (<-Qd P t) dx a b)
  | .neq=>if PD P t then pure (.eqS dx [.bool] ej a b)else if acj P t then pure (.arith .neq a b)else do pure (.eqS ej (<-Qd P t) ej a b)
  | op=>pure (.arith op a b)
 | .unOp op _ x=>do pure (.un op (<-cX G x))
 | .convert s d x=>do
  let a <-cX G x
  let _ <-P.underlying s
  match P.underlying d with
  | some (.int k)=>pure (.conv k a)
  | some .string=>do
   let .slice e <-P.underlying s|none
   let .int .u8 <-P.underlying e|none
   pure (.b2s a)
  | _=>di
 | .makeFunc f first cap=>do pure (.mkfn f (<-zS G first.toList) (<-zS G cap.toList))
 | .makeMap t di=>do
  let .map k _ <-P.underlying t|none
  pure (.mkmap (<-xm P k))
 | .lookup t x i ok=>do
  let .map k e <-P.underlying t|none
  let z <-Ih P e
  pure (.lookup (<-xm P k) z ok (<-cX G x) (<-cX G i))
 | .mapUpdate t m k v=>do
  let .map kt _ <-P.underlying t|none
  pure (.mapUpd (<-xm P kt) (<-cX G m) (<-cX G k) (<-cX G v))
 | .insert t m k v=>do
  let .map kt _ <-P.underlying t|none
  pure (.mapUpd (<-xm P kt) (<-cX G m) (<-cX G k) (<-cX G v))
 | .makeSlice t l c=>do
  let .slice e <-P.underlying t|none
  let z <-tv P e
  let i <-P.info? e
  if z.l=i.size/\0<i.size then pure (.mksl e i.size i.bytes z (<-cX G l) (<-cX G c))else di
 | .slice t x lo hi di=>do
  let a <-cX G x
  let l <-uc G lo
  let h <-uc G hi
  match P.underlying t with
  | some (.slice e)=>do pure (.slc (<-lH P e) a l h)
  | some .string=>pure (.slcS a l h)
  | some (.array n e)=>do pure (.slcArr (<-lH P e) n a l h)
  | _=>di
 | .slice t x lo (bf hi) (bf mx)=>do
  let a <-cX G x
  let l <-uc G lo
  let h <-cX G hi
  let m <-cX G mx
  let .slice e <-P.underlying t|none
  pure (.slc3 (<-lH P e) a l h m)
 | .fieldAddr t x f=>do
  let a <-cX G x
  let .struct fs <-P.underlying t|none
  let g <-fs[f]?
  let n <-lH P g.type
  if 0<n then pure (.fieldA g.offset a)else di
 | .field t x f=>do
  let a <-cX G x
  let .struct fs <-P.underlying t|none
  let g <-fs[f]?
  let n <-lH P g.type
  pure (.field g.offset n (<-ry P g.type) a)
 | .indexAddr t x i=>do
  let a <-cX G x
  let j <-cX G i
  match P.underlying t with
  | some (.slice e)=>do
   let n <-lH P e
   if 0<n then pure (.idxA n a j)else di
  | some (.array n e)=>do pure (.idxArr (<-lH P e) n a j)
  | _=>di
 | .index t x i=>do
  let a <-cX G x
  let j <-cX G i
  match P.underlying t with
  | some (.array n e)=>do pure (.idx (<-lH P e) n (<-ry P e) a j)
  | some .string=>pure (.idxStr a j)
  | _=>di
 | .extract x i=>do pure (.ext (<-cX G x) i)
 | .call c=>do
  let args <-zS G c.args.toList
  match c.callee with
  | .value (.func f)=>if uW P f then pure (if G.nw f then .callN f args else .call f args)else di
  | .value f=>do pure (.callv (<-cX G f) args)
  | .builtin .append=>match c.argTypes.toList,args with
   | [t,u],[x,y]=>do
    let .slice e <-P.underlying t|none
    let i <-P.info? e
    let z <-tv P e
    let .slice _ <-P.underlying u|none
    if z.l=i.size/\0<i.size then pure (.app e i.size i.bytes x y)else di
   | _,_=>di
  | .builtin .copy=>match c.argTypes.toList,args with
   | [t,u],[x,y]=>do
    let .slice e <-P.underlying t|none
    let .slice _ <-P.underlying u|none
    let n <-lH P e
    if 0<n then pure (.copy n x y)else di
   | _,_=>di
  | .builtin .len=>match c.argTypes.toList,args with
   | [t],[x]=>match P.underlying t with
    | some (.slice _)=>pure (.len .slice x)
    | some .string=>pure (.len .string x)
    | some (.map _ _)=>pure (.len .map x)
    | _=>di
   | _,_=>di
  | .builtin .max=>pure (.minmax ej args)
  | .builtin .min=>pure (.minmax dx args)
  | _=>di
 | _=>di
def mg(c:Ctx)(w:cc)(env:iM)(a:Act):Prop:=∀k,gX c w (a.tmps.getD k undef) (env k)
def kj(G:GT)(c:Ctx)(H:gQ)(w:cc)(K:kH)(v:aE)(w':cc):Prop:=
 ∃d H' c',K d H'/\iy G c' H' w'/\gX c' w' v d/\Step H.l c H w c' H' w'
section
variable{P:eh}{G:GT}{c:Ctx}{H:gQ}{w:cc}{K:kH}{env:iM}{a:Act}
theorem kj.plain(h:iy G c H w){v:aE}{d:D}(b:K d H)(a:gX c w v d):kj G c H w K v w:=
 ⟨d,H,c,b,h,a,Step.refl _ _ _ _⟩
theorem aea(v:aE):gX c w v (vO v):=by
 unfold vO;split
 .exact .gV
 .exact .val _
theorem W4{v:aE}{d:D}(h:PU v=bf d):gX c w v d:=by
 unfold PU at h;split at h
 .cases h;exact .gV
 .rename_i cs;split at h
  .rename_i e;cases h
   have:=gX.agg (c:=c) (w:=w) cs.toList (cs.toList.map vO) gP (λv a=>by
    have:=cW.1 e v (by simpa using a)
    exact this) (λi v d a b=>by
    simp only[aw,a,aK,ax]at b;subst b
    exact aea v)
   simpa using this
  .cases h
 .cases h
 .cases h;exact .val _
theorem jH(h:iy G c H w)(i:mg c w env a){x:ep}{X:X}(b:cX G x=bf X):gX c w (a.eval x) (ev env X):=by
 cases x with
 | tmp t=>cases b;exact i t
 | const v=>
  simp only[cX,ar]at b;obtain⟨d,j,rfl⟩:=b;exact W4 j
 | global g=>
  simp only[cX,ar]at b;obtain⟨cs,e,rfl⟩:=b;exact(h.gl g cs e).2
 | func f=>cases b;exact .fn (.func f) [] [] [] [] rfl rfl gP gP
theorem C9(h:iy G c H w)(b:mg c w env a):∀(l:List ep) {xs:List X},zS G l=bf xs->kF c w (l.map a.eval) (xs.map (ev env))
 | [],xs,hx=>by cases hx;exact .nil
 | x::r,xs,hx=>by
  simp only[zS]at hx;split at hx
  .rename_i X l hX hl;cases hx;exact .cons (jH h b hX) (C9 h b r hl)
  .cases hx
theorem kF.l{vs:List aE}{ds:List D}(h:kF c w vs ds):vs.l=ds.l:=by
 induction h with
 | nil=>rfl
 | cons _ _ a=>simp[a]
theorem kF.get{vs:List aE}{ds:List D}(h:kF c w vs ds):∀(i:Nat) (v:aE) (d:D),vs[i]? = bf v->ds[i]? = bf d->gX c w v d:=by
 induction h with
 | nil=>intro i v d a;simp at a
 | cons h _ e=>
  intro i v d a b
  cases i with
  | zero=>simp at a b;subst a;subst b;exact h
  | succ i=>simp at a b;exact e i v d a b
theorem kF.append{vs us:List aE}{ds es:List D}(h:kF c w vs ds)(k:kF c w us es):kF c w (vs++us) (ds++es):=by
 induction h with
 | nil=>exact k
 | cons h _ a=>exact .cons h a
theorem kF.Lo:∀ {vs:List aE} {ds:List D},vs.l=ds.l->(∀(i:Nat) (v:aE) (d:D),vs[i]? = bf v->ds[i]? = bf d->gX c w v d)->kF c w vs ds
 | [],[],_,_=>.nil
 | v::vs,d::ds,hl,h=>.cons (h 0 v d rfl rfl) (kF.Lo (by simpa using hl) λi v d a b=>h (i+1) v d (by simpa using a) (by simpa using b))
theorem Cells.agg{vs:List aE}{cs:List D}(h:Cells c w vs cs):gX c w (.agg vs.toArray) (.agg cs):=.agg vs cs h.len h.one h.rep
theorem Cells.drop{vs:List aE}{cs:List D}(h:Cells c w vs cs)(n:Nat):Cells c w (vs.drop n) (cs.drop n):=
 ⟨by simp[h.len],λv a=>h.one v (bO a),λi v d a b=>h.rep (n+i) v d (by simpa using a) (by simpa using b)⟩
theorem Cells.take{vs:List aE}{cs:List D}(h:Cells c w vs cs)(n:Nat):Cells c w (vs.take n) (cs.take n):=
 ⟨by simp[h.len],λv a=>h.one v (aQ a),λi v d a b=>by
  rw[aJ]at a b;split at a
  .rename_i hi;rw[if_pos hi]at b;exact h.rep i v d a b
  .cases a⟩
theorem Cells.append{vs us:List aE}{cs ds:List D}(h:Cells c w vs cs)(k:Cells c w us ds):Cells c w (vs++us) (cs++ds):=
 ⟨by simp[h.len,k.len],λv a=>by
  rcases ai.1 a with a|a
  .exact h.one v a
  .exact k.one v a,λi v d a b=>by
  rw[List.getElem?_append]at a b;split at a
  .rename_i hi;rw[if_pos (by rw[<-h.len];exact hi)]at b;exact h.rep i v d a b
  .rename_i hi;rw[if_neg (by rw[<-h.len];exact hi)]at b;rw[<-h.len]at b;exact k.rep _ v d a b⟩
theorem Cells.nil:Cells c w [] []:=⟨rfl,gP,gP⟩
theorem Cells.get{vs:List aE}{cs:List D}(h:Cells c w vs cs){i:Nat}{d:D}(a:cs[i]? = bf d):∃v,vs[i]? = bf v/\v.oneCell'=ej/\gX c w v d:=by
 have hi:i<vs.l:=by rw[h.len];exact(ae.1 a).1
 exact⟨vs[i],by simp[hi],h.one _ (cD hi),h.rep i _ d (by simp[hi]) a⟩
def wT(c:Ctx)(w:cc)(b o:Nat)(cs:List D):Prop:=∃vs,Cells c w vs cs/\∀(j:Nat) (v:aE),vs[j]? = bf v->w.cell? ⟨b,o+j,di⟩=bf v
theorem wT.drop{b o:Nat}{cs:List D}(h:wT c w b o cs)(n:Nat):wT c w b (o+n) (cs.drop n):=by obtain⟨vs,e,d⟩:=h;exact⟨vs.drop n,e.drop n,λj v a=>by rw[aD]at a;have:=d _ _ a;rwa [bk]⟩
theorem wT.take{b o:Nat}{cs:List D}(h:wT c w b o cs)(n:Nat):wT c w b o (cs.take n):=by
 obtain⟨vs,e,d⟩:=h;refine⟨vs.take n,e.take n,λj v a=>?_⟩;rw[aJ]at a;split at a
 .exact d _ _ a
 .cases a
theorem AS(h:iy G c H w){v g:Nat}{t:cp}{cs:List D}(l:H[v]? = bf (.row t g cs)){L:Loc}(j:c.ι v g=bf L)(f:L.kQ=dx) :
  ∃arr:Array aE,w.heap[L.b]? = bf (.cells arr t (0,0))/\L.top=arr.size/\L.base+cs.l<=L.top/\Cells c w ((arr.toList.drop L.base).take cs.l) cs:=by
 have h0:=h.ob v _ l;simp only[Ob.gen]at h0;rw[j]at h0;simp only[iY,f]at h0;obtain⟨arr,h1,q,p,e⟩:=h0;refine⟨arr,h1,q,p,⟨iz,λu a=>?_,λi u d a m=>?_⟩⟩
 .obtain⟨i,hi⟩:=aG.1 a;rw[aJ]at hi;split at hi
  .rename_i k;rw[aD]at hi;obtain⟨x,b,o,_⟩:=e i cs[i] (by simp[k]);have:arr[L.base+i]? = bf u:=by simpa using hi
   rw[b]at this;cases this;exact o
  .cases hi
 .rw[aJ]at a;split at a
  .rw[aD]at a;obtain⟨x,b,_,n⟩:=e i d m;have:arr[L.base+i]? = bf u:=by simpa using a
   rw[b]at this;cases this;exact n
  .cases a
theorem PJ(h:iy G c H w){v g o:Nat}{t:cp}{cs:List D}(f:H[v]? = bf (.row t g cs)){u:aE}(i:gX c w u (.ptr v g o)) :
  ∃b p,u = .pointer (bf ⟨b,p,di⟩)/\wT c w b p (cs.drop o):=by
 cases i with
 | ptr _ _ _ L e d=>
  obtain⟨arr,h1,m,l,k⟩:=AS h f e d;refine⟨L.b,L.base+o,rfl,?_⟩;refine wT.drop ⟨_,k,λj x a=>?_⟩ o;rw[aJ]at a;split at a
  .rw[aD]at a;simp[World.cell?,h1];simpa using a
  .cases a
theorem Bn{u:aE}{cs:List D}(h:gX c w u (.ie cs)):∃b p,u = .pointer (bf ⟨b,p,di⟩)/\c.F b/\wT c w b p cs:=by
 cases h with
 | ie b o _ g m l h=>
  refine⟨b,o,rfl,m,(List.range cs.l).map g,⟨gP,λv a=>?_,λi v d a k=>?_⟩,λj v a=>?_⟩
  .simp only[aj,aZ]at a;obtain⟨j,f,rfl⟩:=a;exact(l j cs[j] (by simp[f])).2
  .simp only[aw,ar,cF (ae.1 k).1]at a;obtain⟨_,e,rfl⟩:=a;cases e;exact h i d k
  .have f:j<cs.l:=by have:=(ae.1 a).1;simpa using this
   simp only[aw,cF f,aK,ax]at a;subst a;exact(l j cs[j] (by simp[f])).1
theorem T9{b o:Nat}{cs:List D}(i:c.F b)(h:wT c w b o cs):gX c w (.pointer (bf ⟨b,o,di⟩)) (.ie cs):=by
 obtain⟨vs,f,g⟩:=h;refine .ie b o cs (λj=>vs.getD j undef) i (λj d e=>?_) (λj d e=>?_)
 .obtain⟨u,a,h1,_⟩:=f.get e;simp only[lK,a,bh];exact⟨g j u a,h1⟩
 .obtain⟨u,a,_,h1⟩:=f.get e;simp only[lK,a,bh];exact h1
theorem EW{t:cp}{b:Bool}(h:ry P t=bf b)(w:cc):(isAgg t).run P w = .ok b w:=by
 unfold ry at h;unfold isAgg
 cases a:P.underlying t with
 | none=>simp[a]at h
 | some d=>cases d<;>simp[a]at h<;>subst h<;>simp[hU a]
theorem ti{t:cp}{n:Nat}(h:lH P t=bf n)(w:cc):(jI t).run P w = .ok n w:=by simp only[lH,ar]at h;obtain⟨i,hi,rfl⟩:=h;simp[jI,j',hi]
theorem run_typeInfo{t:cp}{i:TypeInfo}(h:P.info? t=bf i)(w:cc):(j' t).run P w = .ok i w:=by simp[j',h]
theorem CF{t:cp}{z:List D}(h:tv P t=bf z)(w:cc):∃v:aE,(zeroValue t).run P w = .ok v w/\(P.info? t).bind (·.zero)=bf v /\
  ∀c w,Cells c w v.cells.toList z:=by
 unfold tv at h
 cases hi:P.info? t with
 | none=>simp[hi]at h
 | some i=>
  simp only[hi,Option.bind_some]at h
  cases a:i.zero with
  | none=>simp[a]at h
  | some v=>
   simp only[a]at h;split at h
   .rename_i f;cases h;refine⟨v,by simp[zeroValue,run_typeInfo hi,a],by simp[a],λc w=>⟨gP,λu b=>?_,λi u d b e=>?_⟩⟩
    .exact cW.1 f u (by simpa using b)
    .simp only[aw,b,aK,ax]at e;subst e;exact aea u
   .cases h
theorem Ss{t:cp}(i:ry P t=bf dx){b o:Nat}{cs:List D}(h:wT c w b o cs){d:D}(g:cs[0]? = bf d) :
  ∃u,(ez t (.pointer (bf ⟨b,o,di⟩))).run P w = .ok u w/\u.oneCell'=ej/\gX c w u d:=by
 obtain⟨vs,a,e⟩:=h;obtain⟨u,f,h1,j⟩:=a.get g;have:=e 0 u f;exact⟨u,by simp[ez,iN,loadVar,EW i];simp at this;simp[this],h1,j⟩
theorem Su{t:cp}{n:Nat}(g:ry P t=bf ej)(hs:lH P t=bf n){b o:Nat}{cs:List D}(f:wT c w b o cs)(h:n<=cs.l) :
  ∃u,(ez t (.pointer (bf ⟨b,o,di⟩))).run P w = .ok u w/\gX c w u (.agg (cs.take n)):=by
 obtain⟨vs,a,d⟩:=f.take n;have hl:vs.l=n:=by rw[a.len];simp;omega
 have:=run_loadCells_list (P:=P) w ⟨b,o,di⟩ vs (λj v e=>by rw[Addr.add_lit];exact d j v e);rw[hl]at this;exact⟨.agg vs.toArray,by simp[ez,iN,loadVar,EW g,ti hs,this],a.agg⟩
theorem wO{v g:Nat}{x:cp×List D}(h:rowAt H v g=bf x):H[v]? = bf (.row x.1 g x.2):=by
 unfold rowAt at h;split at h
 .split at h
  .rename_i e;subst e;cases h;assumption
  .cases h
 .cases h
theorem ary(h:iy G c H w){t:cp}(l:ry P t=bf dx){x:D}{u:aE}(k:gX c w u x)(a:K5 x H K) :
  ∃v,(ez t u).run P w = .ok v w/\kj G c H w K v w:=by
 unfold K5 at a;split at a
 .rename_i v g o;split at a
  .rename_i q cs m;have n:=wO m;split at a
   .rename_i d f;obtain⟨b,p,rfl,i⟩:=PJ h n k;obtain⟨u,e,_,j⟩:=Ss l i (d:=d) (by simpa using f);exact⟨u,e,.plain h a j⟩
   .exact a.elim
  .exact a.elim
 .rename_i cs;split at a
  .rename_i d f;obtain⟨b,p,rfl,_,i⟩:=Bn k;obtain⟨u,e,_,j⟩:=Ss l i f;exact⟨u,e,.plain h a j⟩
  .exact a.elim
 .exact a.elim
theorem arz(h:iy G c H w){t:cp}{n:Nat}(j:ry P t=bf ej)(hs:lH P t=bf n){x:D}{u:aE}(i:gX c w u x)(a:K6 n x H K) :
  ∃v,(ez t u).run P w = .ok v w/\kj G c H w K v w:=by
 unfold K6 at a;split at a
 .rename_i v g o;split at a
  .rename_i m cs k;have l:=wO k;obtain⟨b,p,rfl,e⟩:=PJ h l i;obtain⟨u,d,f⟩:=Su (n:=n) j hs e iz;exact⟨u,d,.plain h a.2 f⟩
  .exact a.elim
 .rename_i cs;obtain⟨b,p,rfl,_,e⟩:=Bn i;obtain⟨u,d,f⟩:=Su (n:=n) j hs e a.1;exact⟨u,d,.plain h a.2 f⟩
 .exact a.elim
theorem arH(h:iy G c H w){x y z:D}{u v t:aE}(h1:gX c w u x)(e:gX c w v y)(d:gX c w t z)(a:Ls x y z H K) :
  ∃b,u = .bool b/\kj G c H w K (if b then v else t) w:=by
 unfold Ls at a;split at a
 .rename_i b;cases h1;refine⟨b,rfl,.plain h a ?_⟩;cases b
  .exact d
  .exact e
 .exact a.elim
end
section
variable{P:eh}{G:GT}{c:Ctx}{H:gQ}{w:cc}{K:kH}{env:iM}{a:Act}
theorem wrap_i64{n:Int}(h:p6 n):IntKind.i64.wrap n=n:=by unfold p6 at h;simp only[IntKind.wrap,IntKind.signed,IntKind.bits];simp;omega
theorem kj.val(h:iy G c H w){v:aE}(a:K (.val v) H):kj G c H w K v w:=.plain h a (.val _)
theorem arb(h:iy G c H w){op:gb}{k:eB}{x y:Int}(a:IX op k x y H K)(hs:op≠.shl/\op≠.shr)(t:cp)(xo b:ep) :
  ∃v,(do eK op t xo b (.int k x) (.int k y);binOp op t (.int k x) (.int k y)).run P w = .ok v w/\kj G c H w K v w:=by
 have hg:(eK op t xo b (.int k x) (.int k y)).run P w = .ok () w:=by cases op<;>simp[eK]
 simp only[ga,hg,eL];cases op<;>simp only[IX]at a
 case add=>
  by_cases e:k = .i64
  .subst e;simp only[if_true]at a;exact⟨_,by simp[binOp,er,wrap_i64 a.1]<;>rfl,.val h a.2⟩
  .rw[if_neg e]at a;exact⟨_,by simp[binOp,er]<;>rfl,.val h a⟩
 case sub=>
  by_cases e:k = .i64
  .subst e;simp only[if_true]at a;exact⟨_,by simp[binOp,er,wrap_i64 a.1]<;>rfl,.val h a.2⟩
  .rw[if_neg e]at a;exact⟨_,by simp[binOp,er]<;>rfl,.val h a⟩
 case mul=>
  by_cases e:k = .i64
  .subst e;simp only[if_true]at a;exact⟨_,by simp[binOp,er,wrap_i64 a.1]<;>rfl,.val h a.2⟩
  .rw[if_neg e]at a;exact⟨_,by simp[binOp,er]<;>rfl,.val h a⟩
 case quo=>exact⟨_,by simp[binOp,kD,a.1]<;>rfl,.val h a.2⟩
 case rem=>exact⟨_,by simp[binOp,kD,a.1]<;>rfl,.val h a.2⟩
 case and=>exact⟨_,by simp[binOp,fp]<;>rfl,.val h (by simpa[bits]using a)⟩
 case or=>exact⟨_,by simp[binOp,fp]<;>rfl,.val h (by simpa[bits]using a)⟩
 case xor=>exact⟨_,by simp[binOp,fp]<;>rfl,.val h (by simpa[bits]using a)⟩
 case andNot=>exact⟨_,by simp[binOp,fp]<;>rfl,.val h (by simpa[bits]using a)⟩
 case eql=>exact⟨_,by simp[binOp,fb]<;>rfl,.val h a⟩
 case neq=>exact⟨_,by simp[binOp,fb]<;>rfl,.val h a⟩
 case lss=>exact⟨_,by simp[binOp,fb]<;>rfl,.val h a⟩
 case leq=>exact⟨_,by simp[binOp,fb]<;>rfl,.val h a⟩
 case gtr=>exact⟨_,by simp[binOp,fb]<;>rfl,.val h a⟩
 case geq=>exact⟨_,by simp[binOp,fb]<;>rfl,.val h a⟩
 all_goals exact absurd rfl (by first|exact hs.1|exact hs.2)
theorem WN(h:iy G c H w){op:gb}{x y:D}{u v:aE}(h1:gX c w u x)(f:gX c w v y)(a:I3 op x y H K)(t:cp)(xo d:ep) :
  ∃r,(do eK op t xo d u v;binOp op t u v).run P w = .ok r w/\kj G c H w K r w:=by
 unfold I3 at a;split at a
 .cases h1;cases f;split at a
  .have key:∀op,sn op=ej->op = .shl\/op = .shr:=λop g=>by cases op<;>simp[sn]at g<;>simp
   rename_i hs;rcases key op hs with rfl|rfl
   .simp only[L3]at a;have b:=a.1;exact⟨_,by simp[eK,binOp,lp,ff.2 b]<;>rfl,.val h a.2⟩
   .simp only[L3]at a;have b:=a.1;exact⟨_,by simp[eK,binOp,lp,ff.2 b]<;>rfl,.val h a.2⟩
  .rename_i hs;obtain⟨rfl,a⟩:=a;exact arb h a ⟨λe=>by subst e;exact hs rfl,λe=>by subst e;exact hs rfl⟩ t xo d
 .cases h1;cases f;rename_i p q;cases op<;>simp only[SG]at a
  case add=>exact⟨.string (p++q),by simp[eK,binOp,run_string_add_sum w p q (by have:=a.1;omega)],.val h a.2⟩
  case eql=>exact⟨_,by simp[eK,binOp,kb,ByteArray.toList_eq]<;>rfl,.val h (by simpa using a)⟩
  case neq=>exact⟨_,by simp[eK,binOp,kb,ByteArray.toList_eq]<;>rfl,.val h (by simpa using a)⟩
 .grind
theorem arP(h:iy G c H w){op:UnOp}{x:D}{u:aE}(h1:gX c w u x)(a:Mk op x H K) :
  ∃r,(iK op u).run P w = .ok r w/\kj G c H w K r w:=by
 unfold Mk at a;split at a
 .cases h1;exact⟨_,by simp[iK]<;>rfl,.val h a⟩
 .cases h1;rename_i n;have:(0-n) = -n:=U;exact⟨_,by simp[iK,er,wrap_i64 a.1]<;>rfl,.val h a.2⟩
 .cases h1;exact⟨_,by simp[iK,fp]<;>rfl,.val h (by simpa[bits]using a)⟩
 .grind
theorem FU{d:D}{v:aE}{cs:List D}(r:gX c w v d)(j:cellsOf d=bf cs):Cells c w v.cells.toList cs:=by
 have key:∀ {v:aE} {d:D},gX c w v d->v.oneCell'=ej->v.cells = #[v]->Cells c w v.cells.toList [d]:=λ{v d} r h1 p=>by rw[p];exact⟨rfl,by simpa using h1,λi u e A B=>kM⟩
 cases r with
 | any v=>simp[cellsOf]at j
 | val v=>
  simp only[cellsOf]at j;split at j
  .rename_i h1;cases j;refine key (.val v) h1 ?_;cases v<;>first|rfl|(simp[Value.oneCell']at h1)
  .cases j
 | agg vs ds hl h1 h=>
  simp only[cellsOf,ax]at j;subst j;exact⟨by simpa[Value.cells]using hl,by simpa[Value.cells]using h1,λi v d p s=>h i v d (by simpa[Value.cells]using p) s⟩
 | tup=>simp[cellsOf]at j
 | sl a len cap sz es g h1 l m n q x t=>simp only[cellsOf,ax]at j;subst j;exact key (.sl a len cap sz es g h1 l m n q x t) rfl rfl
 | gV=>simp only[cellsOf,ax]at j;subst j;exact key .gV rfl rfl
 | nj a vs h1 l m=>simp only[cellsOf,ax]at j;subst j;exact key (.nj a vs h1 l m) rfl rfl
 | gR v k sz off len cap L h1 l m n q=>simp only[cellsOf,ax]at j;subst j;exact key (.gR v k sz off len cap L h1 l m n q) rfl rfl
 | nU v k sz off L h1 a=>simp only[cellsOf,ax]at j;subst j;exact key (.nU v k sz off L h1 a) rfl rfl
 | ptr v k off L h1 l=>simp only[cellsOf,ax]at j;subst j;exact key (.ptr v k off L h1 l) rfl rfl
 | ie b o cs g h1 l m=>simp only[cellsOf,ax]at j;subst j;exact key (.ie b o cs g h1 l m) rfl rfl
 | im v L h1 l=>simp only[cellsOf,ax]at j;subst j;exact key (.im v L h1 l) rfl rfl
 | fn f fs cs y z h1 l m n=>simp only[cellsOf,ax]at j;subst j;exact key (.fn f fs cs y z h1 l m n) rfl rfl
 | jF v L h1 l=>simp only[cellsOf,ax]at j;subst j;exact key (.jF v L h1 l) rfl rfl
theorem arQ{d:D}(h:one d=ej):cellsOf d=bf [d]:=by
 cases d<;>first|rfl|(simp[one]at h;done)|skip
 rename_i v;simp only[one]at h;simp[cellsOf,h]
theorem ar7{L:Loc}(a:L.kQ=dx)(h0:L.base=0)(v g:Nat):gX (c.set v g L) w (.pointer (bf ⟨L.b,0,di⟩)) (.ptr v g 0):=by have:=gX.ptr (c:=c.set v g L) (w:=w) v g 0 L (Ctx.uH _ _ _ _) a;simpa[h0]using this
theorem adI(h:iy G c H w){al:Al}(b:o7 H al)(t:cp){v:aE}{cs:List D}(e:Cells c w v.cells.toList cs)(d:K (.ptr al.1 0 0) (al.2 (.row t 0 cs))) :
  ∃w',(newVar t v).run P w = .ok ⟨w.heap.size,0,di⟩ w'/\kj G c H w K (.pointer (bf ⟨w.heap.size,0,di⟩)) w':=by
 obtain⟨L,h1,j,i,k,g,f⟩:=Hq h w (ly.refl w) t v.cells.toList cs v.cells.size v.cells (b _).wQ e (by rw[<-dK,cY]) (ek _);refine⟨w.alloc (.cells v.cells t),by simp[newVar,newRow],?_⟩;have a:=ar7 (c:=c) (w:=w.alloc (.cells v.cells t)) h1 i al.1 0;rw[j]at a;exact⟨_,_,_,d,g,a,f⟩
theorem ard(h:iy G c H w){al:Al}(d:o7 H al)(t:cp){x:D}{u:aE}(h1:gX c w u x)(a:I6 t x al K) :
  ∃r w',(la t u).run P w = .ok r w'/\kj G c H w K r w':=by
 unfold I6 at a;split at a
 .rename_i cs b;obtain⟨w',e,f⟩:=adI (P:=P) h d t (FU h1 b) a;exact⟨_,w',by simp[la,e],f⟩
 .grind
theorem aq8(h:iy G c H w){al:Al}(a:o7 H al){t:cp}{z:List D}(b:tv P t=bf z)(g:K (.ptr al.1 0 0) (al.2 (.row t 0 z))) :
  ∃r w',(kl t ej (.tuple #[])).run P w = .ok r w'/\kj G c H w K r w':=by
 obtain⟨v,d,_,i⟩:=CF b w;obtain⟨w',e,f⟩:=adI (P:=P) h a t (i c w) g;exact⟨_,w',by simp[kl,d,e],f⟩
theorem Cells.uJ{vs us:List aE}{cs ds:List D}(h:Cells c w vs cs)(k:Cells c w us ds)(o:Nat):Cells c w (vs.take o++us++vs.drop (o+us.l)) (cs.take o++ds++cs.drop (o+ds.l)):=by rw[k.len];exact((h.take o).append k).append (h.drop _)
theorem aju(l:List aE):∀(off:Nat) (cs:Array aE),off+l.l<=cs.size ->
  ((l.zipIdx off).foldl (λ(cs:Array aE) (x:aE×Nat)=>cs.setIfInBounds x.2 x.1) cs).toList=cs.toList.take off++l++cs.toList.drop (off+l.l):=by
 induction l with
 | nil=>intro off cs _;simp
 | cons v r a=>
  intro off cs h;simp only[aF]at h;simp only[List.zipIdx_cons,cK];rw[a (off+1) _ iz];simp only[Array.toList_setIfInBounds];have:=list_seg_step cs.toList off v r iz;simpa[bk,dj 1]using this
theorem ajl(cs:Array aE)(l:Array aE)(off:Nat)(h:off+l.size<=cs.size) :
  (l.zipIdx.foldl (λ(cs:Array aE) (x:aE×Nat)=>match x with|(c,j)=>cs.setIfInBounds (off+j) c) cs).toList=cs.toList.take off++l.toList++cs.toList.drop (off+l.size):=by
 have:=aju l.toList off cs (by simpa using h);rw[<-Array.foldl_toList,Array.toList_zipIdx]
 have e:(l.toList.zipIdx off)=(l.toList.zipIdx 0).map λx=>(x.1,off+x.2):=by
  rw[List.zipIdx_eq_map_add]
  first|done|(simp only[dj])
 rw[e,List.foldl_map]at this;exact this
theorem Qk(a:Nat->Option (Nat×Nat)):∀(vs:List (Nat×aE)) (ps:List (Nat×Nat×List D)) (arr:Array aE) (cs rs:List D),
  Cells c w arr.toList cs->vs.l=ps.l ->
  (∀(i:Nat) (v:Nat×aE) (p:Nat×Nat×List D),vs[i]? = bf v->ps[i]? = bf p->a v.1=bf (p.1,p.2.1)/\Cells c w v.2.cells.toList p.2.2) ->
  lay ps cs=bf rs->∃d,kx a arr vs=bf d/\Cells c w d.toList rs
 | [],[],arr,cs,rs,hc,_,_,hl=>by simp[lay]at hl;subst hl;exact⟨arr,rfl,hc⟩
 | (i,v)::vs,(o,n,xs)::ps,arr,cs,rs,hc,hlen,h,hl=>by
  obtain⟨b,g⟩:=h 0 (i,v) (o,n,xs) rfl rfl;simp only[lay]at hl;split at hl
  .rename_i e;have f:v.cells.size=n:=by rw[<-e.1,<-g.len];simp
   have k:o+v.cells.size<=arr.size:=by rw[f];have:=hc.len;simp at this;omega
   simp only[kx,b];rw[if_neg iz];have j:=ajl arr v.cells o k;refine Qk a vs ps _ _ rs ?_ (by simpa using hlen) (λi v p l b=>h (i+1) v p (by simpa using l) (by simpa using b)) hl;rw[j];have:=hc.uJ g o;rw[e.1]at this;simpa[f]using this
  .cases hl
theorem PE(h:iy G c H w)(e:mg c w env a):∀(l:List (Nat×ep)) {ps:List (Nat×X)},Bm G l=bf ps ->
  ps.l=l.l/\∀(i:Nat) (x:Nat×ep) (p:Nat×X),l[i]? = bf x->ps[i]? = bf p->p.1=x.1/\gX c w (a.eval x.2) (ev env p.2)
 | [],ps,hx=>by cases hx;simp
 | (i,x)::r,ps,hx=>by
  simp only[Bm]at hx;split at hx
  .rename_i X l hX hl;cases hx;obtain⟨g,f⟩:=PE h e r hl;refine⟨by simp[g],λj y p b d=>?_⟩
   cases j with
   | zero=>simp at b d;subst b;subst d;exact⟨rfl,jH h e hX⟩
   | succ j=>simp at b d;exact f j y p b d
  .cases hx
theorem adX{fs:Array fx}:∀ {ps:List (Nat×X)} {a:List (Nat×Nat×X)},Lt P fs ps=bf a ->
  a.l=ps.l/\∀(i:Nat) (p:Nat×X) (q:Nat×Nat×X),ps[i]? = bf p->a[i]? = bf q->q.2.2=p.2/\∃f,fs[p.1]? = bf f/\q.1=f.offset/\lH P f.type=bf q.2.1
 | [],a,h=>by cases h;simp
 | (i,x)::r,a,h=>by
  simp only[Lt]at h;split at h
  .rename_i f l k hl;simp only[ar]at h;obtain⟨n,g,rfl⟩:=h;obtain⟨e,d⟩:=adX hl;refine⟨by simp[e],λj p q c b=>?_⟩
   cases j with
   | zero=>simp at c b;subst c;subst b;exact⟨rfl,f,k,rfl,g⟩
   | succ j=>simp at c b;exact d j p q c b
  .cases h
theorem WU{l:List (Nat×Nat×X)}{r:List (Nat×Nat×List D)}(h:partsOf env l=bf r) :
  r.l=l.l/\∀(i:Nat) (p:Nat×Nat×X) (q:Nat×Nat×List D),l[i]? = bf p->r[i]? = bf q->q.1=p.1/\q.2.1=p.2.1/\cellsOf (ev env p.2.2)=bf q.2.2:=by
 induction l generalizing r with
 | nil=>simp[partsOf]at h;subst h;simp
 | cons p l a=>
  obtain⟨o,n,x⟩:=p;simp only[partsOf]at h;split at h
  .grind
  .cases h
theorem Qt{α:Type}{l:List α}{n i:Nat}(hl:l.l=n)(hi:i<n):∃x,l[i]? = bf x:=⟨l[i],by simp[hl▸hi]⟩
theorem are(h:iy G c H w)(he:mg c w env a){t:cp}{z:List D}{ops:Array (Nat×ep)}{ps:List (Nat×X)}{C:List (Nat×Nat×X)}{fs:Array fx}
  (U:tv P t=bf z) (Z:Bm G ops.toList=bf ps) (W:P.underlying t=bf (.struct fs)) (hf:aaZ P fs=ej) (Y:Lt P fs ps=bf C)
  (e:C6 env z C H K):∃r,(hI t (ops.map λ(i,x)=>(i,a.eval x))).run P w = .ok r w/\kj G c H w K r w:=by
 unfold C6 at e;split at e
 .rename_i l hl;split at e
  .rename_i cs S;obtain⟨v,V,_,hc⟩:=CF U w;obtain⟨j,R⟩:=PE h he ops.toList Z;obtain⟨q1,q2⟩:=adX Y;obtain⟨Q,O⟩:=WU hl
   have A:∃b:Array (Nat×Nat),(fs.mapM λf=>do pure (f.offset,<-jI f.type):Sem (Array (Nat×Nat))).run P w = .ok b w/\∀(i:Nat) (f:fx) (n:Nat),fs[i]? = bf f->lH P f.type=bf n->b[i]? = bf (f.offset,n):=by
    have key:∀(l:List fx),(∀f∈l,(lH P f.type).isSome=ej)->∃pl:List (Nat×Nat),(l.mapM λf=>do pure (f.offset,<-jI f.type):Sem (List (Nat×Nat))).run P w = .ok pl w/\∀(i:Nat) (f:fx) (n:Nat),l[i]? = bf f->lH P f.type=bf n->pl[i]? = bf (f.offset,n):=by
     intro l
     induction l with
     | nil=>intro _;exact⟨[],gP,gP⟩
     | cons f l T=>
      intro E;obtain⟨pl,d,k⟩:=T (λg hg=>E g (by simp[hg]));obtain⟨n,o⟩:=dJ.1 (E f gP);refine⟨(f.offset,n)::pl,?_,λi g m hg hm=>?_⟩
      .simp only[fw,ga,ti o,eL,Sem.run_pure,d]
      .grind
    obtain⟨pl,d,k⟩:=key fs.toList (λf u=>cW.1 hf f (by simpa using u));refine⟨pl.toArray,?_,λi f n hi o=>by simpa using k i f n (by simpa using hi) o⟩;rw[fR,Sem.run_map,d];rfl
   obtain⟨b,d,k⟩:=A
   obtain⟨M,BW,N⟩:=Qk (c:=c) (w:=w) (b[·]?) (ops.toList.map λx=>(x.1,a.eval x.2)) l v.cells z cs (hc c w) (by simp[Q,q1,j]) (λi x q I Ky=>by
    simp only[aw,ar]at I;obtain⟨y,F,rfl⟩:=I;have hi:i<ops.toList.l:=(ae.1 F).1;obtain⟨p,B⟩:=Qt j hi;obtain⟨s,L⟩:=Qt (q1.trans j) hi;obtain⟨e1,e2⟩:=R i y p F B;obtain⟨e3,f,a1,a0,a'⟩:=q2 i p s B L;obtain⟨e4,e5,J⟩:=O i s q L Ky;refine⟨?_,?_⟩
    .grind
    .rw[e3]at J
     exact FU e2 J) S
   refine⟨.agg M,?_,?_⟩
   .simp only[hI,ga,V,eL,hU W,d];have:(Array.map (λx=>(x.fst,a.eval x.snd)) ops).toList=ops.toList.map λx=>(x.1,a.eval x.2):=gP;simp only[this,BW];rfl
   .have:=N.agg;exact .plain h e (by simpa using this)
  .exact e.elim
 .grind
theorem arf(h:iy G c H w)(I:mg c w env a){t e:cp}{n sz:Nat}{z:List D}{ops:Array (Nat×ep)}{ps:List (Nat×X)}
  (B:tv P t=bf z) (F:Bm G ops.toList=bf ps) (E:P.underlying t=bf (.array n e)) (hs:lH P e=bf sz)
  (b:C6 env z (ps.map λp=>(p.1*sz,sz,p.2)) H K):∃r,(hI t (ops.map λ(i,x)=>(i,a.eval x))).run P w = .ok r w/\kj G c H w K r w:=by
 unfold C6 at b;split at b
 .rename_i l hl;split at b
  .rename_i cs A;obtain⟨v,C,_,J⟩:=CF B w;obtain⟨f,u⟩:=PE h I ops.toList F;obtain⟨s,o⟩:=WU hl
   obtain⟨k,R,m⟩:=Qk (c:=c) (w:=w) (λi=>bf (i*sz,sz)) (ops.toList.map λx=>(x.1,a.eval x.2)) l v.cells z cs (J c w) (by simp[s,f]) (λi x q j Q=>by
    simp only[aw,ar]at j;obtain⟨y,g,rfl⟩:=j;have hi:i<ops.toList.l:=(ae.1 g).1;obtain⟨p,d⟩:=Qt f hi;obtain⟨O,e2⟩:=u i y p g d;obtain⟨N,M,L⟩:=o i (p.1*sz,sz,p.2) q (by simp[d]) Q
    exact⟨by simp[N,M,O],FU e2 L⟩) A
   refine⟨.agg k,?_,?_⟩
   .simp only[hI,ga,C,eL,hU E,ti hs];have:(Array.map (λx=>(x.fst,a.eval x.snd)) ops).toList=ops.toList.map λx=>(x.1,a.eval x.2):=gP;simp only[this,R];rfl
   .have:=m.agg;exact .plain h b (by simpa using this)
  .exact b.elim
 .exact b.elim
