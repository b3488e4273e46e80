/- 1 -/
import Derived.KernelRfl
import Derived.RangeFuncIn
import Derived.TacticsIn
import Derived.OrdersIn
import Derived.Laws.CopyRow
import Derived.Laws.AppendOwn
import Derived.Laws.OwnMore
import Derived.Laws.Concat
import Derived.Laws.Strings
import Derived.Laws.Slices
import Derived.Laws.StructEq
import Derived.Laws.BytesString
set_option linter.all false
open Go renaming Value→aE,World→bs,TypeId→b4,Program→di,Operand→eh,IntKind→ep,eqGuard→er,Field→e8,BinOp→fb,run_underlying→fx,FuncId→hI,sizeOf→hU,MapEntry→hY,typeInfo→iK
open Option renaming some→bb,none→cc,some→kf
open Bool renaming false→cp,true→dr
open Nat renaming le_refl→dx,le_trans→eB,beq→kx
open Go.Op renaming intArith→ek,intCmp→eK,intBits→eL,unary→gb,stringOp→iN,intDiv→jm,shift→ku
open Go.Instr renaming loadAt→en,build→fp,sureAddr→hh,alloc→iV,fill→jk,box→j'
open Go.Result renaming andThen_ok→ez
open Go.Sem renaming run_bind→fa
open List renaming replicate→ga,getD→kJ,length→List.l
open Int renaming toNat→Int.n
open UInt8 renaming toNat→UInt8.n
namespace Go.AL
open Go
def ae:=@List.getElem?_eq_some_iff
def af:=@List.take_of_length_le
def ag:=@Option.bind_eq_some_iff
def ah:=@List.getElem?_append_left
def ai:=@Bool.and_eq_true
def aj:=@List.mem_append
def ak:=@List.getElem?_append_right
def ao:=@Option.map_eq_some_iff
def aq:=@List.length_append
def ar:=@kf.injEq
def au:=@List.map_congr_left
def av:=@List.mem_cons
def aw:=@List.length_set
def ax:=@List.getElem?_map
def ay:=@List.length_pos_iff
def az:=@List.mem_map
def aA:=@List.length_eq_zero_iff
def aB:=@List.append_nil
def aC:=@Option.bind_eq_bind
def aD:=@List.mem_iff_getElem?
def aF:=@Option.pure_def
def aG:=@List.getElem?_take
def aH:=@Option.map_some
def aI:=@List.length_cons
def aJ:=@List.length_take
def aK:=@List.getElem?_drop
def aL:=@List.append_assoc
def aM:=@List.getElem?_set_ne
def aN:=@List.getElem?_set_self
def aO:=@Nat.lt_of_lt_of_le
def aP:=@List.set_append_left
def aQ:=@Array.getElem?_eq_some_iff
def aR:=@Nat.zero_add
def aS:=@List.mem_filter
def aT:=@List.pairwise_cons
def aU:=@List.length_drop
def aV:=@List.eq_nil_of_length_eq_zero
def aW:=@List.take_append_of_le_length
def aX:=@List.mem_of_mem_take
def aY:=@List.map_id
def aZ:=@Option.getD_some
def a7:=@List.flatten_cons
def a8:=@Nat.add_assoc
def bf:=@List.mem_cons_of_mem
def bg:=@List.ext_getElem
def bh:=@Array.getElem?_modify
def bj:=@List.length_singleton
def bk:=@List.mem_flatten
def bn:=@List.eq_nil_iff_forall_not_mem
def bp:=@List.mem_range
def bq:=@Nat.add_mul
def br:=@List.replicate_succ
def bt:=@List.mem_of_mem_drop
def bw:=@Nat.mul_le_mul_right
def bz:=@List.mem_append_left
def bA:=@List.drop_of_length_le
def bB:=@Nat.lt_or_ge
def bC:=@Bool.false_eq_true
def bE:=@Array.getElem?_toList
def bF:=@Int.toNat_natCast
def bG:=@List.pairwise_iff_getElem
def bH:=@List.drop_eq_getElem_cons
def bI:=@List.nil_append
def bJ:=@List.mem_flatMap
def bK:=@List.flatMap_append
def bL:=@List.mem_append_right
def bM:=@Array.toArray_toList
def bN:=@List.pairwise_append
def bO:=@Int.emod_lt_of_pos
def bP:=@List.getElem_mem
def bQ:=@List.drop_eq_nil_of_le
def bR:=@Array.getElem?_eq_getElem
def bS:=@List.getElem?_range
def bT:=@List.getElem?_set
def bU:=@List.ext_getElem?
def bV:=@List.take_append_drop
def bW:=@Nat.sub_self
def bX:=@Bool.or_eq_true
def bY:=@Int.emod_nonneg
def bZ:=@kf.inj
def b7:=@List.map_map
def b9:=@List.drop_drop
def cd:=@Int.toNat_of_nonneg
def cj:=@List.foldl_cons
def cu:=@Nat.eq_of_beq_eq_true
def cy:=@List.getElem?_eq_none
def cz:=@Ne.symm
def cA:=@Nat.add_zero
def cD:=@List.range'_succ
def cE:=@List.cons_append
def cF:=@Array.size_append
def cG:=@List.set_eq_take_append_cons_drop
def cH:=@Nat.succ_mul
def cI:=@Array.getElem?_append_left
def cJ:=@Array.all_eq_true_iff_forall_mem
def cK:=@Classical.choose_spec
def cL:=@Array.getElem?_setIfInBounds_ne
def cM:=@List.range_eq_range'
def cN:=@List.nodup_cons
def cO:=@Nat.pow_le_pow_right
def cP:=@List.nodup_append
def cQ:=@List.countP_cons
def cS:=@Nat.zero_mul
def cT:=@Array.getD_eq_getD_getElem?
def cU:=@List.mem_filterMap
def cV:=@List.countP_append
def cW:=@List.length_nil
def cY:=@List.cons.injEq
def cZ:=@Bool.decide_and
def c8:=@Nat.le_of_ble_eq_true
def c9:=@List.size_toArray
def da:=@List.contains_eq_mem
def db:=@List.take_length
def de:=@Option.isSome_iff_exists
def dh:=@Prod.ext
def dj:=@Array.length_toList
def dm:=@Array.toList_append
def dp:=@List.getElem?_cons_succ
def dq:=@Int.add_sub_cancel
def dt:=@List.filter_append
def du:=@List.take_add_one
def dw:=@Nat.add_comm
def dy:=@List.getElem?_toArray
def dz:=@List.contains_iff_mem
def dA:=@List.set_append_right
def dB:=@Array.getElem?_mapIdx
def dC:=@List.countP_le_length
def dD:=@Prod.mk.injEq
def dF:=@List.mem_zipIdx_iff_le_and_getElem?_sub
def dH:=@Iff.rfl
def dJ:=@List.findIdx?_eq_none_iff
def dK:=@List.mem_or_eq_of_mem_set
def dM:=@List.mem_take_iff_getElem
def dO:=@List.exists_mem_of_ne_nil
def dQ:=@Nat.eq_zero_or_pos
def dR:=@List.Sublist.append_left
def dS:=@Nat.mul_comm
def dT:=@Option.toList_some
def dW:=@List.find?_eq_none
def dX:=@List.take_take
def dY:=@Bool.not_eq_true'
def dZ:=@Int.le_refl
def ea:=@List.findIdx?_eq_some_iff_getElem
def ec:=@Array.getElem?_eq_none
def ef:=@List.sublist_cons_self
def ei:=@List.append_eq_nil_iff
def ej:=@List.isEmpty_iff
def et:=@Array.mem_filter
def eu:=@List.not_mem_nil
def ew:=@List.flatten_nil
def ey:=@List.length_filter_eq_length_iff
def eA:=@List.set_getElem_self
def eC:=@List.length_mergeSort
def eD:=@List.length_replicate
def eE:=@Nat.pow_succ
def eF:=@List.replicate_succ'
def eG:=@List.drop_append_of_le_length
def eH:=@Array.getElem?_push
def eI:=@List.replicate_zero
def eJ:=@Nat.mul_le_mul_left
def eM:=@List.flatten_append
def eN:=@List.filter_eq_self
def eO:=@List.mapM_cons
def eP:=@List.take_zero
def eQ:=@Int.toNat_zero
def eR:=@List.drop_zero
def eT:=@Nat.mul_one
def eU:=@Nat.add_sub_cancel
def eV:=@List.map_replicate
def eW:=@Bool.true_and
def eX:=@Int.add_assoc
def eY:=@List.exists_cons_of_ne_nil
def eZ:=@Function.comp_def
def e7:=@List.pairwise_map
def e9:=@Array.mapM_eq_mapM_toList
def fe:=@List.getElem_append_right
def ff:=@Nat.mod_eq_of_lt
def fg:=@Nat.sub_zero
def fh:=@List.nodup_range
def fj:=@Nat.le_add_right
def fm:=@List.drop_append
def fo:=@Nat.le_of_not_lt
def fq:=@Nat.mul_le_mul_right_iff
def fr:=@List.length_erase_of_mem
def ft:=@List.length_filterMap_le
def fu:=@Array.toList_inj
def fw:=@List.getElem_append_left
def fy:=@List.pairwise_mergeSort
def fD:=@List.getElem?_cons_zero
def fE:=@List.append_inj
def fF:=@List.length_pos_of_mem
def fG:=@List.length_eq_one_iff
def fH:=@List.singleton_append
def fJ:=@Bool.decide_or
def fL:=@List.Pairwise.sublist
def fM:=@List.perm_append_comm
def fO:=@Int.not_lt
def fQ:=@Nat.not_lt
def fR:=@List.all_cons
def fV:=@Nat.mul_assoc
def fX:=@Nat.min_zero
def fY:=@Int.le_trans
def U{P:Prop}(h:P:=by omega):P:=h
def fZ{P:Prop}(h:P:=by simp):P:=h
def gu{P:Prop}(h:P:=by kernel_rfl):P:=h
def jh{P:Prop}(h:P:=by decide):P:=h
def jZ{P:Prop}(h:P:=by assumption):P:=h
def gL{P:Prop}(h:P:=by simp;omega):P:=h
def gJ{P:Prop}(h:P:=by dsimp only;omega):P:=h
def mu{P:Prop}(h:P:=by simp;rfl):P:=h
def xJ{P:Prop}(h:P:=by first|rfl|simp):P:=h
def jS{P:Prop}(h:P:=by grind):P:=h
def n9{P:Prop}(h:P:=by simp_all):P:=h
def zdn{P:Prop}(h:P:=by dsimp only):P:=h
def pG{A P:Prop}(k:P)(a:A:=by first|omega|(dsimp only;omega)):A/\P:=⟨a,k⟩
def pb{A B P:Prop}(k:P)(a:A:=by first|omega|(dsimp only;omega))(b:B:=by first|omega|(dsimp only;omega)):A/\B/\P:=⟨a,b,k⟩
def gX{A B C P:Prop}(k:P)(a:A:=by first|omega|(dsimp only;omega))(b:B:=by first|omega|(dsimp only;omega))(c:C:=by first|omega|(dsimp only;omega)):A/\B/\C/\P:=⟨a,b,c,k⟩
def AB{A B C D P:Prop}(k:P)(a:A:=by first|omega|(dsimp only;omega))(b:B:=by first|omega|(dsimp only;omega))(c:C:=by first|omega|(dsimp only;omega))(d:D:=by first|omega|(dsimp only;omega)):A/\B/\C/\D/\P:=⟨a,b,c,d,k⟩
def amF{A B C D F P:Prop}(k:P)(a:A:=by first|omega|(dsimp only;omega))(b:B:=by first|omega|(dsimp only;omega))(c:C:=by first|omega|(dsimp only;omega))(d:D:=by first|omega|(dsimp only;omega))(f:F:=by first|omega|(dsimp only;omega)):A/\B/\C/\D/\F/\P:=⟨a,b,c,d,f,k⟩
def iM{A B:Prop}(a:A:=by first|omega|(dsimp only;omega))(b:B:=by first|omega|(dsimp only;omega)):A/\B:=⟨a,b⟩
def mF{A B C:Prop}(a:A:=by first|omega|(dsimp only;omega))(b:B:=by first|omega|(dsimp only;omega))(c:C:=by first|omega|(dsimp only;omega)):A/\B/\C:=⟨a,b,c⟩
inductive D where
 | any
 | val (v:aE)
 | agg (cs:List D)
 | tup (cs:List D)
 | sl (sz:Nat) (es:List (List D))
 | gi
 | kW (vs:List aE)
 | gf (v g sz off len:Nat)
 | ptr (v g off:Nat)
 | gC (cs:List D)
 | gH (v:Nat)
 | fn (fn:Fn) (first captured:List D)
 | iQ (v:Nat)
 deriving Inhabited
abbrev D.i(n:Int):D:=.val (.int .i64 n)
abbrev D.b(x:Bool):D:=.val (.bool x)
abbrev Env:=List (Nat×D)
def Env.get:Env->Nat->D
 | [],_=>.any
 | (k,d)::r,j=>match kx k j with
  | true=>d
  | false=>Env.get r j
def Env.w7(k:Nat)(d:D)(r:Env)(j:Nat):Env.get ((k,d)::r) j=if k=j then d else Env.get r j:=by
 simp only[Env.get]
 by_cases h:k=j
 .simp_all
 .have:kx k j=false:=by
   cases a:kx k j with
   | false=>rfl
   | true=>exact absurd (cu a) h
  rw[if_neg h,this]
structure Loc where
 b:Nat
 base:Nat
 top:Nat
 jN:Bool:=cp
structure Ctx where
 ι:Nat->Nat->Option Loc
 F:Nat->Prop
 RT:Nat->Option (Nat×Array Tmp×Code×Code)
inductive gj(c:Ctx)(w:bs):aE->D->Prop
 | any (v:aE):gj c w v .any
 | val (v:aE):gj c w v (.val v)
 | agg (vs:List aE) (ds:List D) (hl:vs.l=ds.l) (h1:∀v∈vs,v.oneCell'=dr)
   (h:∀(i:Nat) (v:aE) (d:D),vs[i]? = bb v->ds[i]? = bb d->gj c w v d):gj c w (.agg vs.toArray) (.agg ds)
 | tup (vs:List aE) (ds:List D) (hl:vs.l=ds.l)
   (h:∀(i:Nat) (v:aE) (d:D),vs[i]? = bb v->ds[i]? = bb d->gj c w v d):gj c w (.tuple vs.toArray) (.tup ds)
 | sl (a:Option Addr) (len cap sz:Nat) (es:List (List D)) (g:Nat->Nat->aE)
   (hlen:es.l=len) (jE:len<=cap) (iO:cap<=maxLen) (iL:∀e∈es,e.l=sz)
   (kQ:a=cc->cap=0)
   (hc:∀(i:Nat) (e:List D) (j:Nat) (d:D),es[i]? = bb e->e[j]? = bb d->∃b o,a=bb ⟨b,o,cc⟩/\c.F b/\w.cell? ⟨b,o+(i*sz+j),cc⟩=bb (g i j)/\(g i j).oneCell'=dr)
   (hr:∀(i:Nat) (e:List D) (j:Nat) (d:D),es[i]? = bb e->e[j]? = bb d->gj c w (g i j) d):gj c w (.slice a len cap) (.sl sz es)
 | gi:gj c w (.slice cc 0 0) .gi
 | kW (a:Option Addr) (vs:List aE) (iO:vs.l<=maxLen) (kQ:a=cc->vs = [])
   (hc:∀(i:Nat) (v:aE),vs[i]? = bb v->∃b o,a=bb ⟨b,o,cc⟩/\c.F b/\w.cell? ⟨b,o+i,cc⟩=bb v/\v.oneCell'=dr):gj c w (.slice a vs.l vs.l) (.kW vs)
 | gf (v k sz off len cap:Nat) (L:Loc) (gv:c.ι v k=bb L) (hv:L.jN=cp) (jE:len<=cap) (iO:cap<=maxLen)
   (lV:L.base+(off+cap)*sz<=L.top):gj c w (.slice (bb ⟨L.b,L.base+off*sz,cc⟩) len cap) (.gf v k sz off len)
 | lB (v k sz off:Nat) (L:Loc) (gv:c.ι v k=bb L) (a:Option Addr):gj c w (.slice a 0 0) (.gf v k sz off 0)
 | ptr (v k off:Nat) (L:Loc) (gv:c.ι v k=bb L) (hv:L.jN=cp):gj c w (.pointer (bb ⟨L.b,L.base+off,cc⟩)) (.ptr v k off)
 | gC (b o:Nat) (cs:List D) (g:Nat->aE) (hF:c.F b)
   (hc:∀(j:Nat) (d:D),cs[j]? = bb d->w.cell? ⟨b,o+j,cc⟩=bb (g j)/\(g j).oneCell'=dr)
   (hr:∀(j:Nat) (d:D),cs[j]? = bb d->gj c w (g j) d):gj c w (.pointer (bb ⟨b,o,cc⟩)) (.gC cs)
 | gH (v:Nat) (L:Loc) (gv:c.ι v 0=bb L) (hv:L.jN=cp):gj c w (.map (bb L.b)) (.gH v)
 | fn (fn:Fn) (fs cs:List aE) (df dc:List D) (jl:fs.l=df.l) (jP:cs.l=dc.l)
   (h1:∀(i:Nat) (v:aE) (d:D),fs[i]? = bb v->df[i]? = bb d->gj c w v d)
   (h2:∀(i:Nat) (v:aE) (d:D),cs[i]? = bb v->dc[i]? = bb d->gj c w v d):gj c w (.func fn fs.toArray cs.toArray) (.fn fn df dc)
 | iQ (v:Nat) (L:Loc) (gv:c.ι v 0=bb L) (hv:L.jN=cp):gj c w (.func (.yield L.b) #[] #[]) (.iQ v)
inductive KK where
 | int (k:ep)
 | str
 | bool
 | ints (l:List ep)
 deriving Inhabited,DecidableEq
def tg:List ep->List aE->Bool
 | [],[]=>dr
 | k::ks,.int k' _::vs=>k == k'&&tg ks vs
 | _,_=>cp
def KK.has:KK->aE->Bool
 | .int k,.int k' _=>k == k'
 | .str,.string _=>dr
 | .bool,.bool _=>dr
 | .ints l,.agg cs=>tg l cs.toList
 | _,_=>cp
inductive qz where
 | ready|busy|Be|zD (id:Nat)
 deriving Inhabited,DecidableEq
inductive Ob where
 | row (t:b4) (g:Nat) (cs:List D)
 | map (kk:KK) (es:List (aE×D))
 | iu (rf:Nat) (env:Env) (st:qz)
 | sh (s:ByteArray) (pos:Nat)
 | jo (m:D) (since:Nat) (seen:List Nat)
 | jH
 | dead
 | lT
 deriving Inhabited
def Ob.alive:Ob->Bool
 | .dead | .lT=>cp
 | _=>dr
def Ob.gen:Ob->Nat
 | .row _ g _=>g
 | _=>0
abbrev gd:=List Ob
def lM(c:Ctx)(H:gd)(v:Nat)(L:Loc):Prop:=∃o,H[v]? = bb o/\o.alive=dr/\c.ι v o.gen=bb L
def l3(c:Ctx)(H:gd)(b:Nat):Prop:=∃v L,lM c H v L/\L.jN=cp/\L.b=b
def FX(c:Ctx)(w:bs)(arr:Array hY)(a:Nat)(es:List (aE×D)):Prop:=
 arr.size=es.l/\(∀(i:Nat) (e:hY) (x:aE×D),arr[i]? = bb e->es[i]? = bb x->e.key=x.1/\gj c w e.val x.2/\e.born=i)/\a=es.l
def qz.is:qz->Loop->Prop
 | .ready,r=>r.state = .ready/\r.pending=cc
 | .busy,r=>r.state = .busy
 | .Be,r=>r.state = .done/\r.pending=bb .ret
 | .zD id,r=>r.state = .done/\r.pending=bb (.exit id)
def ik(c:Ctx)(w:bs):Option Loc->Ob->Prop
 | _,.dead=>True
 | L,.lT=>L=cc
 | none,_=>False
 | some L,.row t _ cs=>if L.jN then cs = []else
   ∃arr:Array aE,w.heap[L.b]? = bb (.cells arr t (0,0))/\L.top=arr.size/\L.base+cs.l<=L.top /\
    ∀(i:Nat) (d:D),cs[i]? = bb d->∃v,arr[L.base+i]? = bb v/\v.oneCell'=dr/\gj c w v d
 | some L,.map kk es=>L.jN=cp/\(∀x∈es,kk.has x.1=dr)/\∃arr a,w.heap[L.b]? = bb (.map arr a)/\FX c w arr a es
 | some L,.iu rf env st=>L.jN=cp/\∃r:Loop,w.heap[L.b]? = bb (.loop r)/\(∀k,gj c w (r.tmps.getD k undef) (env.get k)) /\
   (∃N,c.RT rf=bb (N,r.params,r.assign,r.body)/\N<=r.tmps.size)/\st.is r
 | some L,.sh s p=>L.jN=cp/\L.base=0/\w.heap[L.b]? = bb (.stringIter s p)
 | some L,.jo m since seen=>L.jN=cp/\L.base=0/\∃b:Nat,gj c w (.map (bb b)) m/\w.heap[L.b]? = bb (.mapIter (bb b) since seen.toArray since)
 | some L,.jH=>L.jN=dr\/w.heap[L.b]? = bb (.deferred (bb []))
structure HeapOK(c:Ctx)(H:gd)(w:bs):Prop where
 inj:∀v v' L L',lM c H v L->lM c H v' L'->L.jN=cp->L'.jN=cp->L.b=L'.b->v=v'
 lt:∀b,l3 c H b->b<w.heap.size
 nF:∀b,l3 c H b->¬c.F b
 kO:∀b,c.F b->b<w.heap.size
 out:∀v k,H.l<=v->c.ι v k=cc
 mB:∀v o k,H[v]? = bb o->(o = .lT\/(o.alive=dr/\o.gen<k))->c.ι v k=cc
 ob:∀(v:Nat) (o:Ob),H[v]? = bb o->ik c w (c.ι v o.gen) o
structure Step(n:Nat)(c:Ctx)(H:gd)(w:bs)(c':Ctx)(H':gd)(w':bs):Prop where
 os:w'.os=w.os/\w.drawn<=w'.drawn
 tape:w'.tape=w.tape
 output:w'.output=w.output
 size:w.heap.size<=w'.heap.size
 RT:c'.RT=c.RT
 Fm:∀b,c.F b->c'.F b
 Fn:∀b,c'.F b->c.F b\/w.heap.size<=b\/l3 c H b
 kept:∀b,b<w.heap.size->¬l3 c H b->w'.heap[b]? = w.heap[b]?
 old:∀v k L,v<n->c.ι v k=bb L->c'.ι v k=bb L
 own:∀b,l3 c' H' b->w.heap.size<=b\/l3 c H b
def Step.refl(n:Nat)(c:Ctx)(H:gd)(w:bs):Step n c H w c H w:=
 ⟨⟨rfl,dx _⟩,rfl,rfl,dx _,rfl,λ_ h=>h,λ_ h=>.inl h,λ_ _ _=>rfl,λ_ _ _ _ h=>h,λ_ h=>.inr h⟩
theorem Step.trans{n m:Nat}{c d c2:Ctx}{H H1 H2:gd}{w w1 w2:bs}(h1:Step n c H w d H1 w1)(a:Step m d H1 w1 c2 H2 w2)(f:n<=m) :
  Step n c H w c2 H2 w2 where
 os:=⟨a.os.1.trans h1.os.1,eB h1.os.2 a.os.2⟩
 tape:=a.tape.trans h1.tape
 output:=a.output.trans h1.output
 size:=eB h1.size a.size
 RT:=a.RT.trans h1.RT
 Fm b h:=a.Fm b (h1.Fm b h)
 Fn b h:=by
  rcases a.Fn b h with h|h|h
  .exact h1.Fn b h
  .exact .inr (.inl (eB h1.size h))
  .rcases h1.own b h with h|h
   .grind
   .grind
 kept b hb hn:=by
  rw[a.kept b (aO hb h1.size) (λe=>?_),h1.kept b hb hn];rcases h1.own b e with h|h
  .omega
  .exact hn h
 old v k L hv h:=a.old v k L U (h1.old v k L hv h)
 own b h:=by
  rcases a.own b h with h|h
  .exact .inl (eB h1.size h)
  .exact h1.own b h
def Step.weaken{n m:Nat}{c c':Ctx}{H H':gd}{w w':bs}(h:Step n c H w c' H' w')(b:m<=n):Step m c H w c' H' w':=
 { h with old:=λv k L a=>h.old v k L U }
def Gi{w w':bs}{a:Addr}(h:w'.heap[a.block]? = w.heap[a.block]?):w'.cell? a=w.cell? a:=by simp[World.cell?,h]
def gj.carry{c c':Ctx}{w w':bs}(s:∀v k L,c.ι v k=bb L->c'.ι v k=bb L)(B:∀b,c.F b->c'.F b)
  (t:∀b o,c.F b->w'.cell? ⟨b,o,cc⟩=w.cell? ⟨b,o,cc⟩) {v:aE} {d:D} (h:gj c w v d):gj c' w' v d:=by
 induction h with
 | any v=>exact .any _
 | val v=>exact .val _
 | agg vs ds hl h1 h n=>exact .agg vs _ hl h1 n
 | tup vs ds hl h n=>exact .tup vs _ hl n
 | sl a len cap sz es g q y p I x r J n=>
  refine .sl a len cap sz _ g q y p I x ?_ n;intro i e j d K z;obtain⟨b,o,A,m,u,h1⟩:=r i e j d K z;exact⟨b,o,A,B b m,by rw[t b _ m];exact u,h1⟩
 | gi=>exact .gi
 | kW a vs p x r=>
  refine .kW a vs p x ?_;intro i v l;obtain⟨b,o,A,m,u,h1⟩:=r i v l;exact⟨b,o,A,B b m,by rw[t b _ m];exact u,h1⟩
 | gf v k sz off len cap L h l y p F=>exact .gf v k sz off len cap L (s _ _ _ h) l y p F
 | lB v k sz off L h a=>exact .lB v k sz off L (s _ _ _ h) a
 | ptr v k off L h l=>exact .ptr v k off L (s _ _ _ h) l
 | gC b o cs g m r J n=>
  refine .gC b o _ g (B b m) ?_ n;intro j d z;rw[t b _ m];exact r j d z
 | gH v L h l=>exact .gH v L (s _ _ _ h) l
 | fn f fs cs N O G H h1 M E C=>exact .fn f fs cs _ _ G H E C
 | iQ v L h l=>exact .iQ v L (s _ _ _ h) l
def gj.step{n:Nat}{c c':Ctx}{H H':gd}{w w':bs}(e:HeapOK c H w)(hs:Step n c H w c' H' w')(i:H.l<=n){v:aE}{d:D}(h:gj c w v d) :
  gj c' w' v d:=by
 refine h.carry (λv k L a=>hs.old v k L ?_ a) hs.Fm (λb o f=>Gi (hs.kept b (e.kO b f) (λg=>e.nF b g f)));rcases bB v H.l with h|h
 .omega
 .rw[e.out v k h]at a;cases a
def gj.p8{c c':Ctx}{H H':gd}{w w':bs}(a:HeapOK c H w)(hs:Step H.l c H w c' H' w'){v:aE}{d:D}(h:gj c w v d):gj c' w' v d:=
 h.step a hs (dx _)
inductive X where
 | t (k:Nat)
 | c (d:D)
 deriving Inhabited
abbrev gZ:=Nat->D
def ev(env:gZ):X->D
 | .t k=>env k
 | .c d=>d
def cellsOf:D->Option (List D)
 | .agg cs=>bb cs
 | .any | .tup _=>cc
 | .val v=>if v.oneCell' then bb [.val v]else cc
 | d=>bb [d]
def one:D->Bool
 | .any | .tup _ | .agg _=>cp
 | .val v=>v.oneCell'
 | _=>dr
mutual
def closed:D->Bool
 | .any | .val _ | .gi | .kW _=>dr
 | .agg cs | .tup cs | .gC cs=>gK cs
 | .sl _ es=>Dy es
 | .gf .. | .ptr .. | .gH _ | .iQ _=>cp
 | .fn _ a b=>gK a&&gK b
def gK:List D->Bool
 | []=>dr
 | d::ds=>closed d&&gK ds
def Dy:List (List D)->Bool
 | []=>dr
 | e::es=>gK e&&Dy es
end
def nY:aE->aE->Bool
 | .int k a,.int k' b=>k == k'&&a == b
 | .string a,.string b=>a == b
 | .bool a,.bool b=>a == b
 | .agg a,.agg b=>a.size == b.size&&(a.toList.zip b.toList).all λ(x,y)=>match x,y with
  | .int k a,.int k' b=>k == k'&&a == b
  | _,_=>cp
 | _,_=>cp
def Ig:List D->Option (List aE)
 | []=>bb []
 | .val (.int k n)::r=>(Ig r).map (.int k n :: ·)
 | _::_=>cc
def keyOf:D->Option aE
 | .val (.int k n)=>bb (.int k n)
 | .val (.string s)=>bb (.string s)
 | .val (.bool b)=>bb (.bool b)
 | .agg cs=>(Ig cs).map λl=>.agg l.toArray
 | _=>cc
def sM:aE->D
 | .agg cs=>.agg (cs.toList.map .val)
 | v=>.val v
def rz:List (aE×D)->aE->Option D
 | [],_=>cc
 | (k,d)::r,j=>if nY j k then bb d else rz r j
def mE:List (aE×D)->aE->D->List (aE×D)
 | [],j,x=>[(j,x)]
 | (k,d)::r,j,x=>if nY j k then(j,x)::r else(k,d)::mE r j x
inductive mQ where
 | int|bool|str
 deriving Inhabited,DecidableEq
inductive A0 where
 | slice|string|map
 deriving Inhabited,DecidableEq
inductive iT where
 | mv (x:X)
 | pick (c a b:X)
 | box (t:b4) (x:X)
 | alloc (t:b4) (z:List D)
 | build (z:List D) (ps:List (Nat×Nat×X))
 | buildSl (t sz:Nat) (z:List D) (n:Nat) (ps:List (Nat×X))
 | ld1 (x:X)
 | ldN (n:Nat) (x:X)
 | st1 (a x:X)
 | stN (n:Nat) (a x:X)
 | nilck (x:X)
 | arith (op:fb) (x y:X)
 | eqS (jW:Bool) (ls:List mQ) (neg:Bool) (x y:X)
 | un (op:UnOp) (x:X)
 | conv (k:ep) (x:X)
 | b2s (x:X)
 | mkfn (fn:Fn) (first captured:List X)
 | mkmap (kk:KK)
 | mksl (t sz bytes:Nat) (z:List D) (l c:X)
 | slc (sz:Nat) (x:X) (lo hi:Option X)
 | slcS (x:X) (lo hi:Option X)
 | slc3 (sz:Nat) (x:X) (lo:Option X) (hi mx:X)
 | slcArr (sz n:Nat) (x:X) (lo hi:Option X)
 | fieldA (off:Nat) (x:X)
 | field (off n:Nat) (jW:Bool) (x:X)
 | idxA (sz:Nat) (x i:X)
 | idxArr (sz n:Nat) (x i:X)
 | idx (sz n:Nat) (jW:Bool) (x i:X)
 | idxStr (x i:X)
 | lookup (kk:KK) (z:D) (ok:Bool) (m k:X)
 | mapUpd (kk:KK) (m k v:X)
 | ext (x:X) (i:Nat)
 | call (f:hI) (args:List X)
 | callN (f:hI) (args:List X)
 | callv (f:X) (args:List X)
 | app (t sz bytes:Nat) (x y:X)
 | copy (sz:Nat) (x y:X)
 | len (k:A0) (x:X)
 | minmax (isMax:Bool) (xs:List X)
 | nilS (neg:Bool) (x:X)
 | capE (x:X)
 | appZ (t sz bytes:Nat) (z:List D) (x n:X)
 | clr (sz:Nat) (z:List D) (x:X)
 | rangeS (x:X)
 | nextS (x:X)
 | rangeM (x:X)
 | nextM (x:X)
 | entry (x:X)
 | mapEnt (kk:KK) (z:D) (m k:X)
 | entSt (m s x:X)
 deriving Inhabited
structure il where
 dst:Option Nat
 op:iT
 guard:Option (Nat×Bool):=cc
 deriving Inhabited
structure GT where
 g:Nat->Option (List D)
 rt:Nat->Option (Nat×Array Tmp×Code×Code)
 nw:hI->Bool:=λ_=>cp
instance:CoeFun GT (λ_=>Nat->Option (List D)):=⟨GT.g⟩
inductive jK(c:Ctx)(w:bs):List aE->List D->Prop
 | nil:jK c w [] []
 | cons {v d vs ds} (h:gj c w v d) (t:jK c w vs ds):jK c w (v::vs) (d::ds)
structure gI(G:GT)(c:Ctx)(H:gd)(w:bs):Prop extends HeapOK c H w where
 gl:∀(g:Nat) (cs:List D),G g=bb cs->gK cs=dr/\gj c w (.pointer (bb ⟨g,0,cc⟩)) (.gC cs)
 rt:c.RT=G.rt
abbrev jO:=D->gd->Prop
abbrev Al:=Nat×(Ob->gd)
def Al.last(H:gd):Al:=(H.l,λob=>H ++ [ob])
def Al.lT(H:gd)(v:Nat):Al:=(v,λob=>H.set v ob)
def nX(n:Int):Prop := -9223372036854775808<=n/\n<=9223372036854775807
def F6(op:fb)(k:ep)(a b:Int)(H:gd)(K:jO):Prop:=
 match op with
 | .add=>if k = .i64 then nX (a+b)/\K (.val (.int .i64 (a+b))) H else K (.val (.int k (k.wrap (a+b)))) H
 | .sub=>if k = .i64 then nX (a-b)/\K (.val (.int .i64 (a-b))) H else K (.val (.int k (k.wrap (a-b)))) H
 | .mul=>if k = .i64 then nX (a*b)/\K (.val (.int .i64 (a*b))) H else K (.val (.int k (k.wrap (a*b)))) H
 | .quo=>b≠0/\K (.val (.int k (k.wrap (a.tdiv b)))) H
 | .rem=>b≠0/\K (.val (.int k (a.tmod b))) H
 | .and | .or | .xor | .andNot=>K (.val (.int k (bits op k a b))) H
 | .eql=>K (.val (.bool (a == b))) H
 | .neq=>K (.val (.bool (a != b))) H
 | .lss=>K (.val (.bool (decide (a<b)))) H
 | .leq=>K (.val (.bool (decide (a<=b)))) H
 | .gtr=>K (.val (.bool (decide (a>b)))) H
 | .geq=>K (.val (.bool (decide (a>=b)))) H
 | _=>False
def I3(op:fb)(k:ep)(a b:Int)(H:gd)(K:jO):Prop:=
 match op with
 | .shl=>0<=b/\K (.val (.int k (k.wrap (a*2 ^ (min b.n k.bits))))) H
 | .shr=>0<=b/\K (.val (.int k (a.fdiv (2 ^ (min b.n k.bits))))) H
 | _=>False
def pY:fb->Bool
 | .shl | .shr=>dr
 | _=>cp
def Pj(op:fb)(a b:ByteArray)(H:gd)(K:jO):Prop:=
 match op with
 | .eql=>K (.val (.bool (a.data.toList == b.data.toList))) H
 | .neq=>K (.val (.bool (!(a.data.toList == b.data.toList)))) H
 | .add=>((a.size+b.size:Nat):Int)<=9223372036854775807/\K (.val (.string (a++b))) H
 | _=>False
def F'(op:fb)(x y:D)(H:gd)(K:jO):Prop:=
 match x,y with
 | .val (.int k a),.val (.int k' b)=>if pY op then I3 op k a b H K else k=k'/\F6 op k a b H K
 | .val (.string a),.val (.string b)=>Pj op a b H K
 | _,_=>False
def Jk(op:UnOp)(x:D)(H:gd)(K:jO):Prop:=
 match op,x with
 | .not,.val (.bool b)=>K (.val (.bool (!b))) H
 | .neg,.val (.int .i64 n)=>nX (-n)/\K (.val (.int .i64 (-n))) H
 | .xor,.val (.int k n)=>K (.val (.int k (bits .xor k (if k.signed then -1 else k.max) n))) H
 | _,_=>False
def uG:mQ->D->D->Option Bool
 | .int,.val (.int k a),.val (.int k' b)=>if k=k' then bb (a == b)else cc
 | .bool,.val (.bool a),.val (.bool b)=>bb (a == b)
 | .str,.val (.string a),.val (.string b)=>bb (a.data.toList == b.data.toList)
 | _,_,_=>cc
def mO:List mQ->List D->List D->Option Bool
 | [],[],[]=>bb dr
 | l::ls,x::xs,y::ys=>match uG l x y,mO ls xs ys with
  | some a,bb b=>bb (a&&b)
  | _,_=>cc
 | _,_,_=>cc
def wZ(c:Bool)(ls:List mQ)(neg:Bool)(x y:D)(H:gd)(K:jO):Prop:=
 match c,x,y with
 | true,.agg a,.agg b=>match mO ls a b with
  | some r=>K (.val (.bool (if neg then !r else r))) H
  | none=>False
 | false,x,y=>match mO ls [x] [y]with
  | some r=>K (.val (.bool (if neg then !r else r))) H
  | none=>False
 | _,_,_=>False
def IG(c a b:D)(H:gd)(K:jO):Prop:=
 match c with
 | .val (.bool x)=>K (if x then a else b) H
 | _=>False
def rowAt(H:gd)(v k:Nat):Option (b4×List D):=match H[v]? with
 | some (.row t g cs)=>if g=k then bb (t,cs)else cc
 | _=>cc
def Ih(x:D)(H:gd)(K:jO):Prop:=
 match x with
 | .ptr v g o=>match rowAt H v g with
  | some (_,cs)=>match cs[o]? with
   | some d=>K d H
   | none=>False
  | none=>False
 | .gC cs=>match cs[0]? with
  | some d=>K d H
  | none=>False
 | _=>False
def Ii(n:Nat)(x:D)(H:gd)(K:jO):Prop:=
 match x with
 | .ptr v g o=>match rowAt H v g with
  | some (_,cs)=>o+n<=cs.l/\K (.agg ((cs.drop o).take n)) H
  | none=>False
 | .gC cs=>n<=cs.l/\K (.agg (cs.take n)) H
 | _=>False
def I9(a x:D)(H:gd)(K:jO):Prop:=
 match a with
 | .ptr v g o=>match rowAt H v g with
  | some (t,cs)=>o<cs.l/\one x=dr/\K .any (H.set v (.row t g (cs.set o x)))
  | none=>False
 | _=>False
def I'(n:Nat)(a x:D)(H:gd)(K:jO):Prop:=
 match a,cellsOf x with
 | .ptr v g o,bb xs=>match rowAt H v g with
  | some (t,cs)=>xs.l=n/\o+n<=cs.l/\K .any (H.set v (.row t g (cs.take o++xs++cs.drop (o+n))))
  | none=>False
 | _,_=>False
def Gb(t:b4)(x:D)(al:Al)(K:jO):Prop:=
 match cellsOf x with
 | some cs=>K (.ptr al.1 0 0) (al.2 (.row t 0 cs))
 | none=>False
def lay:List (Nat×Nat×List D)->List D->Option (List D)
 | [],cs=>bb cs
 | (o,n,xs)::r,cs=>if xs.l=n/\o+n<=cs.l then lay r (cs.take o++xs++cs.drop (o+n))else cc
def partsOf(env:gZ):List (Nat×Nat×X)->Option (List (Nat×Nat×List D))
 | []=>bb []
 | (o,n,x)::r=>match cellsOf (ev env x),partsOf env r with
  | some cs,bb l=>bb ((o,n,cs)::l)
  | _,_=>cc
def A6(env:gZ)(z:List D)(ps:List (Nat×Nat×X))(H:gd)(K:jO):Prop:=
 match partsOf env ps with
 | some l=>match lay l z with
  | some cs=>K (.agg cs) H
  | none=>False
 | none=>False
def Gc(env:gZ)(t sz:Nat)(z:List D)(n:Nat)(ps:List (Nat×X))(al:Al)(K:jO):Prop:=
 match partsOf env (ps.map λp=>(p.1*sz,sz,p.2))with
 | some l=>match lay l (ga n z).flatten with
  | some cs=>K (.gf al.1 0 sz 0 n) (al.2 (.row t 0 cs))
  | none=>False
 | none=>False
def GF(off:Nat)(x:D)(H:gd)(K:jO):Prop:=
 match x with
 | .ptr v g o=>K (.ptr v g (o+off)) H
 | .gC cs=>K (.gC (cs.drop off)) H
 | _=>False
def Bp(off n:Nat)(a:Bool)(x:D)(H:gd)(K:jO):Prop:=
 match x with
 | .agg cs=>if a then off+n<=cs.l/\K (.agg ((cs.drop off).take n)) H else match cs[off]? with
  | some d=>K d H
  | none=>False
 | _=>False
def H7(sz:Nat)(x i:D)(H:gd)(K:jO):Prop:=
 match x,i with
 | .sl ia es,.val (.int _ n)=>ia=sz/\(0<=n/\n<es.l)/\K (.gC (es.getD n.n [])) H
 | .kW vs,.val (.int _ n)=>1=sz/\(0<=n/\n<vs.l)/\K (.gC [.val (vs.getD n.n undef)]) H
 | .gf v g ia off len,.val (.int _ n)=>ia=sz/\(0<=n/\n<len)/\K (.ptr v g ((off+n.n)*sz)) H
 | _,_=>False
def H8(sz n:Nat)(x i:D)(H:gd)(K:jO):Prop:=
 match x,i with
 | .ptr v g o,.val (.int _ k)=>(0<=k/\k<n)/\K (.ptr v g (o+k.n*sz)) H
 | .gC cs,.val (.int _ k)=>(0<=k/\k<n)/\K (.gC (cs.drop (k.n*sz))) H
 | _,_=>False
def Ia(sz n:Nat)(a:Bool)(x i:D)(H:gd)(K:jO):Prop:=
 match x,i with
 | .agg cs,.val (.int _ k)=>(0<=k/\k<n)/\Bp (k.n*sz) sz a (.agg cs) H K
 | _,_=>False
def Ib(x i:D)(H:gd)(K:jO):Prop:=
 match x,i with
 | .val (.string s),.val (.int _ k)=>(0<=k/\k<s.size)/\K (.val (.int .u8 ((s.data.toList.getD k.n 0).n))) H
 | _,_=>False
def lW(H:gd)(v:Nat):Option (KK×List (aE×D)):=match H[v]? with
 | some (.map kk es)=>bb (kk,es)
 | _=>cc
def Im(a:KK)(z:D)(ok:Bool)(m k:D)(H:gd)(K:jO):Prop:=
 match m,keyOf k with
 | .gH v,bb kv=>match lW H v with
  | some (kk,es)=>kk=a/\kk.has kv=dr/\(match rz es kv with
    | some d=>K (if ok then .tup [d,.val (.bool dr)]else d) H
    | none=>K (if ok then .tup [z,.val (.bool cp)]else z) H)
  | none=>False
 | _,_=>False
def Ir(a:KK)(m k x:D)(H:gd)(K:jO):Prop:=
 match m,keyOf k with
 | .gH v,bb kv=>match lW H v with
  | some (kk,es)=>kk=a/\kk.has kv=dr/\K .any (H.set v (.map kk (mE es kv x)))
  | none=>False
 | _,_=>False
def Gy(x:D)(i:Nat)(H:gd)(K:jO):Prop:=
 match x with
 | .tup ds=>match ds[i]? with
  | some d=>K d H
  | none=>False
 | _=>False
def Ix(t sz bytes:Nat)(z:List D)(l c:D)(al:Al)(K:jO):Prop:=
 match l,c with
 | .val (.int _ n),.val (.int _ m)=>(0<=n/\n<=m/\m<=9223372036854775807/\(bytes:Int)*m<=281474976710656)/\K (.gf al.1 0 sz 0 n.n) (al.2 (.row t 0 (ga m.n z).flatten))
 | _,_=>False
def iq(env:gZ):Option X->Int->Option Int
 | none,n=>bb n
 | some x,_=>match ev env x with
  | .val (.int _ n)=>bb n
  | _=>cc
def I6(env:gZ)(sz:Nat)(x:D)(lo hi:Option X)(H:gd)(K:jO):Prop:=
 match x with
 | .sl a es=>match iq env lo 0,iq env hi es.l with
  | some l,bb h=>a=sz/\(0<=l/\l<=h/\h<=es.l)/\K (.sl sz ((es.drop l.n).take (h.n-l.n))) H
  | _,_=>False
 | .gf v g a off len=>match iq env lo 0,iq env hi len with
  | some l,bb h=>a=sz/\(0<=l/\l<=h/\h<=len)/\K (.gf v g sz (off+l.n) (h.n-l.n)) H
  | _,_=>False
 | .gi=>match iq env lo 0,iq env hi 0 with
  | some l,bb h=>(l=0/\h=0)/\K .gi H
  | _,_=>False
 | _=>False
def Fq:List (List D)->Option (List aE)
 | []=>bb []
 | [.val v]::r=>if v.oneCell' then(match Fq r with|some l=>bb (v::l)|none=>cc)else cc
 | _::_=>cc
def clip(sz:Nat)(es:List (List D)):D:=match Fq es with
 | some vs=>if sz=1 then .kW vs else .sl sz es
 | none=>.sl sz es
def I4(env:gZ)(sz:Nat)(x:D)(lo:Option X)(hi mx:X)(H:gd)(K:jO):Prop:=
 match iq env lo 0,iq env (bb hi) 0,iq env (bb mx) 0 with
 | some l,bb h,bb m=>match x with
  | .sl a es=>a=sz/\(0<=l/\l<=h/\h=m/\m<=es.l)/\K (clip sz ((es.drop l.n).take (h.n-l.n))) H
  | .gf v g a off len=>a=sz/\(0<=l/\l<=h/\h<=m/\m<=len)/\K (.gf v g sz (off+l.n) (h.n-l.n)) H
  | .gi=>(l=0/\h=0/\m=0)/\K .gi H
  | _=>False
 | _,_,_=>False
def I5(env:gZ)(sz n:Nat)(x:D)(lo hi:Option X)(H:gd)(K:jO):Prop:=
 match x,iq env lo 0,iq env hi n with
 | .gC cs,bb l,bb h=>(sz=1/\n<=cs.l/\n<=16777216/\0<=l/\l<=h/\h<=n)/\K (.sl 1 (((cs.drop l.n).take (h.n-l.n)).map λd=>[d])) H
 | .ptr v g o,bb l,bb h=>match rowAt H v g with
  | some (_,cs)=>(o % sz=0/\o+n*sz<=cs.l/\n<=16777216/\0<=l/\l<=h/\h<=n)/\K (.gf v g sz (o / sz+l.n) (h.n-l.n)) H
  | none=>False
 | _,_,_=>False
def Fb(env:gZ)(x:D)(lo hi:Option X)(H:gd)(K:jO):Prop:=
 match x with
 | .val (.string s)=>match iq env lo 0,iq env hi s.size with
  | some l,bb h=>(0<=l/\l<=h/\h<=s.size)/\K (.val (.string (s.extract l.n h.n))) H
  | _,_=>False
 | _=>False
def lu(sz:Nat)(H:gd):D->Option (List D×Nat)
 | .sl a es=>if a=sz then bb (es.flatten,es.l)else cc
 | .gi=>bb ([],0)
 | .kW vs=>if sz=1 then bb (vs.map .val,vs.l)else cc
 | .gf v g a off len=>match rowAt H v g with
  | some (_,cs)=>if a=sz/\(off+len)*sz<=cs.l then bb ((cs.drop (off*sz)).take (len*sz),len)else cc
  | none=>cc
 | _=>cc
def F5(t sz bytes:Nat)(x y:D)(H:gd)(al:Al)(K:jO):Prop:=
 match lu sz H y with
 | some (ys,n)=>match x with
  | .gf v g a off len=>match rowAt H v g with
   | some (t',cs)=>(a=sz/\t'=t/\(off+len)*sz<=cs.l/\(len+n)*bytes<=140737488355328/\len+n<=9223372036854775807) /\
     K (.gf v (g+1) sz 0 (len+n)) (H.set v (.row t (g+1) ((cs.drop (off*sz)).take (len*sz)++ys)))
   | none=>False
  | .kW vs=>(n≠0/\sz=1/\(vs.l+n)*bytes<=140737488355328/\vs.l+n<=9223372036854775807)/\K (.gf al.1 0 sz 0 (vs.l+n)) (al.2 (.row t 0 (vs.map .val++ys)))
  | .gi=>if n=0 then K .gi H else(n*bytes<=140737488355328/\n<=9223372036854775807)/\K (.gf al.1 0 sz 0 n) (al.2 (.row t 0 ys))
  | _=>False
 | none=>False
def Gs(sz:Nat)(x y:D)(H:gd)(K:jO):Prop:=
 match x,lu sz H y with
 | .gf v g ia off len,bb (ys,n)=>match rowAt H v g with
  | some (t,cs)=>(ia=sz/\(off+len)*sz<=cs.l) /\
    K (.val (.int .i64 (min n len:Nat))) (H.set v (.row t g (cs.take (off*sz)++ys.take (min n len*sz)++cs.drop (off*sz+min n len*sz))))
  | none=>False
 | .gi,bb _=>K (.val (.int .i64 0)) H
 | _,_=>False
def Ij(k:A0)(x:D)(H:gd)(K:jO):Prop:=
 match k,x with
 | .slice,.sl _ es=>K (.val (.int .i64 es.l)) H
 | .slice,.gi=>K (.val (.int .i64 0)) H
 | .slice,.kW vs=>K (.val (.int .i64 vs.l)) H
 | .slice,.gf _ _ _ _ len=>K (.val (.int .i64 len)) H
 | .string,.val (.string s)=>K (.val (.int .i64 s.size)) H
 | .map,.gH v=>match lW H v with
  | some (_,es)=>K (.val (.int .i64 es.l)) H
  | none=>False
 | _,_=>False
def r8(env:gZ):List X->Option (List Int)
 | []=>bb []
 | x::r=>match ev env x,r8 env r with
  | .val (.int .i64 n),bb l=>bb (n::l)
  | _,_=>cc
def Iw(env:gZ)(d:Bool)(xs:List X)(H:gd)(K:jO):Prop:=
 match r8 env xs with
 | some [a,b]=>K (.val (.int .i64 (if d then max a b else min a b))) H
 | some [a,b,c]=>K (.val (.int .i64 (if d then max (max a b) c else min (min a b) c))) H
 | _=>False
def Iz(x:D)(H:gd)(K:jO):Prop:=
 match x with
 | .ptr v g o=>K (.ptr v g o) H
 | .gC cs=>K (.gC cs) H
 | .fn (.func f) a b=>K (.fn (.func f) a b) H
 | .iQ v=>K (.iQ v) H
 | _=>False
def Gp(k:ep)(x:D)(H:gd)(K:jO):Prop:=
 match x with
 | .val (.int _ n)=>K (.val (.int k (k.wrap n))) H
 | _=>False
def bytesOf:List D->Option (List Int)
 | []=>bb []
 | .val (.int .u8 n)::r=>match bytesOf r with
  | some l=>bb (n::l)
  | none=>cc
 | _=>cc
def F9(x:D)(H:gd)(K:jO):Prop:=
 match lu 1 H x with
 | some (ys,_)=>match bytesOf ys with
  | some a=>K (.val (.string (a.foldl (λr n=>r.push (UInt8.ofNat n.n)) ByteArray.empty))) H
  | none=>False
 | none=>False
def F4(env:gZ)(H:gd)(al:Al)(K:jO):iT->Prop
 | .mv x=>K (ev env x) H
 | .pick c a b=>IG (ev env c) (ev env a) (ev env b) H K
 | .box t x=>Gb t (ev env x) al K
 | .alloc t z=>K (.ptr al.1 0 0) (al.2 (.row t 0 z))
 | .build z ps=>A6 env z ps H K
 | .buildSl t sz z n ps=>Gc env t sz z n ps al K
 | .ld1 x=>Ih (ev env x) H K
 | .ldN n x=>Ii n (ev env x) H K
 | .st1 a x=>I9 (ev env a) (ev env x) H K
 | .stN n a x=>I' n (ev env a) (ev env x) H K
 | .nilck x=>Iz (ev env x) H K
 | .arith op x y=>F' op (ev env x) (ev env y) H K
 | .eqS e ls neg x y=>wZ e ls neg (ev env x) (ev env y) H K
 | .un op x=>Jk op (ev env x) H K
 | .conv k x=>Gp k (ev env x) H K
 | .b2s x=>F9 (ev env x) H K
 | .mkfn f first cap=>K (.fn f (first.map (ev env)) (cap.map (ev env))) H
 | .mkmap kk=>K (.gH al.1) (al.2 (.map kk []))
 | .mksl t sz bytes z l c=>Ix t sz bytes z (ev env l) (ev env c) al K
 | .slc sz x lo hi=>I6 env sz (ev env x) lo hi H K
 | .slcS x lo hi=>Fb env (ev env x) lo hi H K
 | .slc3 sz x lo hi mx=>I4 env sz (ev env x) lo hi mx H K
 | .slcArr sz n x lo hi=>I5 env sz n (ev env x) lo hi H K
 | .fieldA off x=>GF off (ev env x) H K
 | .field off n e x=>Bp off n e (ev env x) H K
 | .idxA sz x i=>H7 sz (ev env x) (ev env i) H K
 | .idxArr sz n x i=>H8 sz n (ev env x) (ev env i) H K
 | .idx sz n e x i=>Ia sz n e (ev env x) (ev env i) H K
 | .idxStr x i=>Ib (ev env x) (ev env i) H K
 | .lookup kk z ok m k=>Im kk z ok (ev env m) (ev env k) H K
 | .mapUpd kk m k x=>Ir kk (ev env m) (ev env k) (ev env x) H K
 | .ext x i=>Gy (ev env x) i H K
 | .call _ _ | .callN _ _ | .callv _ _=>False
 | .app t sz bytes x y=>F5 t sz bytes (ev env x) (ev env y) H al K
 | .copy sz x y=>Gs sz (ev env x) (ev env y) H K
 | .len k x=>Ij k (ev env x) H K
 | .minmax d xs=>Iw env d xs H K
 | .nilS .. | .capE .. | .appZ .. | .clr .. | .rangeS .. | .nextS .. | .rangeM .. | .nextM .. | .entry .. | .mapEnt .. | .entSt .. => False
def put(env:Env)(dst:Option Nat)(d:D):Env:=match dst with
 | some k=>(k,d)::env
 | none=>env
def Ctx.set(c:Ctx)(v k:Nat)(L:Loc):Ctx:={ c with ι:=λu l=>if u=v/\l=k then bb L else c.ι u l }
def Ctx.sP(c:Ctx)(v k:Nat)(L:Loc):(c.set v k L).ι v k=bb L:=by simp[Ctx.set]
def Ctx.wz(c:Ctx){v k u l:Nat}(L:Loc)(h:¬(u=v/\l=k)):(c.set v k L).ι u l=c.ι u l:=by simp only[Ctx.set];rw[if_neg h]
structure xN(H:gd)(v:Nat)(ob:Ob)(H':gd):Prop where
 get:∀u,H'[u]? = if u=v then bb ob else H[u]?
 free:H.l<=v\/H[v]? = bb .lT
 len:H.l<=H'.l
def xN.last(H:gd)(ob:Ob):xN H H.l ob (H ++ [ob]) where
 get u:=by
  split
  .rename_i h;subst h;simp
  .rename_i h;rcases bB u H.l with h1|h1
   .rw[ah h1]
   .rw[cy gL,cy h1]
 free:=.inl (dx _)
 len:=fZ
theorem xN.lT{H:gd}{v:Nat}(h:H[v]? = bb .lT)(ob:Ob):xN H v ob (H.set v ob) where
 get u:=by
  have:=(ae.1 h).1;rw[bT];split
  .rename_i e;subst e;simp[this]
  .rename_i e;rw[if_neg (cz e)]
 free:=.inr h
 len:=fZ
def np(H:gd)(al:Al):Prop:=∀ob,xN H al.1 ob (al.2 ob)
theorem np.last(H:gd):np H (Al.last H):=λob=>xN.last H ob
theorem np.lT{H:gd}{v:Nat}(h:H[v]? = bb .lT):np H (Al.lT H v):=λob=>xN.lT h ob
structure ko(w w':bs):Prop where
 os:w'.os=w.os/\w.drawn<=w'.drawn
 tape:w'.tape=w.tape
 output:w'.output=w.output
 size:w.heap.size<=w'.heap.size
 kept:∀b,b<w.heap.size->w'.heap[b]? = w.heap[b]?
def ko.refl(w:bs):ko w w:=⟨⟨rfl,dx _⟩,rfl,rfl,dx _,λ_ _=>rfl⟩
theorem ko.alloc(w:bs)(o:Obj):ko w (w.alloc o):=
 ⟨⟨rfl,dx _⟩,rfl,rfl,fZ,λb h=>by simp only[World.alloc,eH];rw[if_neg U]⟩
theorem ko.trans{a b c:bs}(h:ko a b)(k:ko b c):ko a c:=
 ⟨⟨k.os.1.trans h.os.1,eB h.os.2 k.os.2⟩,k.tape.trans h.tape,k.output.trans h.output,eB h.size k.size,λi hi=>(k.kept i (aO hi h.size)).trans (h.kept i hi)⟩
theorem ko.drew(w:bs):ko w w.drew:=⟨⟨rfl,Nat.le_succ _⟩,rfl,rfl,dx _,λ_ _=>rfl⟩
def CS(n:Nat){c:Ctx}{H:gd}{w w':bs}(hg:ko w w'):Step n c H w c H w':=
 ⟨hg.os,hg.tape,hg.output,hg.size,rfl,λ_ h=>h,λ_ h=>.inl h,λb a _=>hg.kept b a,λ_ _ _ _ h=>h,λ_ h=>.inr h⟩
def FX.mono{c c':Ctx}{w w':bs}(j:∀v d,gj c w v d->gj c' w' v d){arr:Array hY}{f:Nat}{es:List (aE×D)}(h:FX c w arr f es):FX c' w' arr f es:=
 ⟨h.1,λi e x k g=>let ⟨a,b,d⟩:=h.2.1 i e x k g;⟨a,j _ _ b,d⟩,h.2.2⟩
def ik.keep{c c':Ctx}{w w':bs}(u:c'.RT=c.RT)(q:∀v d,gj c w v d->gj c' w' v d){L:Option Loc}{o:Ob}
  (f:∀l,L=bb l->l.jN=cp->o.alive=dr->w'.heap[l.b]? = w.heap[l.b]?) (h:ik c w L o):ik c' w' L o:=by
 cases o with
 | dead=>simp[ik]
 | lT=>simpa[ik]using h
 | row t g cs=>
  cases L with
  | none=>simp[ik]at h
  | some l=>
   simp only[ik]at h ⊢;split
   .rename_i a;simpa[a]using h
   .rename_i a;simp only[a]at h;obtain⟨arr,h1,b,n,j⟩:=h;refine⟨arr,by rw[f l rfl (by simpa using a) rfl];exact h1,b,n,λi d A=>?_⟩;obtain⟨v,y,x,C⟩:=j i d A;exact⟨v,y,x,q _ _ C⟩
 | map kk es=>
  cases L with
  | none=>simp[ik]at h
  | some l=>
   simp only[ik]at h ⊢;obtain⟨a,z,arr,e,h1,b⟩:=h;exact⟨a,z,arr,e,by rw[f l rfl a rfl];exact h1,b.mono q⟩
 | iu rf env st=>
  cases L with
  | none=>simp[ik]at h
  | some l=>
   simp only[ik]at h ⊢;obtain⟨a,r,h1,b,n,j⟩:=h;exact⟨a,r,by rw[f l rfl a rfl];exact h1,λk=>q _ _ (b k),by rw[u];exact n,j⟩
 | sh s p=>
  cases L with
  | none=>simp[ik]at h
  | some l=>
   simp only[ik]at h ⊢;exact⟨h.1,h.2.1,by rw[f l rfl h.1 rfl];exact h.2.2⟩
 | jo m since seen=>
  cases L with
  | none=>simp[ik]at h
  | some l=>
   simp only[ik]at h ⊢;obtain⟨h1,b,B,n,j⟩:=h;exact⟨h1,b,B,q _ _ n,by rw[f l rfl h1 rfl];exact j⟩
 | jH=>
  cases L with
  | none=>simp[ik]at h
  | some l=>
   simp only[ik]at h ⊢
   by_cases a:l.jN=dr
   .exact .inl a
   .exact .inr (by rw[f l rfl (by simpa using a) rfl];exact h.resolve_left a)
def gI.pP{G:GT}{c:Ctx}{H:gd}{w w':bs}(h:gI G c H w)(hg:ko w w'):gI G c H w':=by
 have hs:=CS H.l (c:=c) (H:=H) hg;have i:∀v d,gj c w v d->gj c w' v d:=λv d e=>e.p8 h.toHeapOK hs
 exact{
  inj:=h.inj
  lt:=λb f=>aO (h.lt b f) hg.size
  nF:=h.nF
  kO:=λb f=>aO (h.kO b f) hg.size
  out:=h.out
  mB:=h.mB
  ob:=λv o j=>(h.ob v o j).keep rfl i λl hl m e=>hg.kept _ (h.lt _ ⟨v,l,⟨o,j,e,hl⟩,m,rfl⟩)
  gl:=λg cs k=>let ⟨a,b⟩:=h.gl g cs k;⟨a,i _ _ b⟩
  rt:=h.rt }
structure zm(H:gd)(v:Nat)(ob:Ob)(H':gd):Prop where
 get:∀u,H'[u]? = if u=v then bb ob else H[u]?
 free:H.l<=v\/H[v]? = bb .lT\/∃o,H[v]? = bb o/\o.alive=dr/\o.gen<ob.gen
 len:H.l<=H'.l
def xN.uv{H:gd}{v:Nat}{ob:Ob}{H':gd}(h:xN H v ob H'):zm H v ob H':=⟨h.get,h.free.imp id .inl,h.len⟩
def Fj{c:Ctx}{H H':gd}{v:Nat}{ob:Ob}{L:Loc}(d:zm H v ob H'){u:Nat}{l:Loc}(h:lM (c.set v ob.gen L) H' u l) :
  (u=v/\l=L)\/(u≠v/\lM c H u l):=by
 obtain⟨o,a,f,b⟩:=h;rw[d.get]at a;split at a
 .rename_i e;cases a;subst e;rw[Ctx.sP]at b;cases b;exact .inl ⟨rfl,rfl⟩
 .rename_i e;rw[Ctx.wz _ _ (λh=>e h.1)]at b;exact .inr ⟨e,o,a,f,b⟩
def abh{G:GT}{c:Ctx}{H H':gd}{w:bs}{v:Nat}{ob:Ob}(h:gI G c H w)(b:zm H v ob H')(k:Nat)(f:ob.gen<=k):c.ι v k=none:=by
 rcases b.free with a|a|⟨o,d,e,hg⟩
 .exact h.out v k a
 .exact h.mB v _ k a (.inl rfl)
 .exact h.mB v o k d (.inr ⟨e,U⟩)
def abi{G:GT}{c:Ctx}{H H':gd}{w:bs}{v:Nat}{ob:Ob}{L:Loc}(h:gI G c H w)(b:zm H v ob H')(u k:Nat)(l:Loc)(a:c.ι u k=bb l):(c.set v ob.gen L).ι u k=bb l:=by
 rw[Ctx.wz]
 .exact a
 .rintro⟨rfl,rfl⟩;rw[abh h b _ (dx _)]at a;cases a
def Pp{G:GT}{c:Ctx}{H H':gd}{w w':bs}{v:Nat}{ob:Ob}(h:gI G c H w)(d:zm H v ob H')(hg:ko w w')(L:Loc)
  (f:L.jN=cp->w.heap.size<=L.b/\L.b<w'.heap.size):Step H.l c H w (c.set v ob.gen L) H' w' where
 os:=hg.os
 tape:=hg.tape
 output:=hg.output
 size:=hg.size
 RT:=rfl
 Fm _ h:=h
 Fn _ h:=.inl h
 kept b hb _:=hg.kept b hb
 old u k l _ gv:=abi h d u k l gv
 own b hb:=by
  obtain⟨u,l,hl,a,e⟩:=hb;rcases Fj d hl with⟨_,rfl⟩|⟨_,hl⟩
  .exact .inl (e▸(f a).1)
  .exact .inr ⟨u,l,hl,a,e⟩
def TV{G:GT}{c:Ctx}{H H':gd}{w w':bs}{v:Nat}{ob:Ob}(h:gI G c H w)(f:zm H v ob H')(hg:ko w w')(L:Loc)
  (n:L.jN=cp->w.heap.size<=L.b/\L.b<w'.heap.size) (D:ob.alive=dr) (E:ik (c.set v ob.gen L) w' (bb L) ob):gI G (c.set v ob.gen L) H' w':=by
 have hs:=Pp h f hg L n;have x:∀u d,gj c w u d->gj (c.set v ob.gen L) w' u d:=λu d r=>r.p8 h.toHeapOK hs;have p:∀u l,lM c H u l->l.jN=cp->l.b<w.heap.size:=λu l hl j=>h.lt _ ⟨u,l,hl,j,rfl⟩
 have K:v<H'.l:=by have:=f.get v;rw[if_pos rfl]at this;exact(ae.1 this).1
 exact{
  inj:=by
   intro u B l C h1 J t s I;rcases Fj f h1 with⟨rfl,rfl⟩|⟨_,b⟩<;>rcases Fj f J with⟨rfl,rfl⟩|⟨_,z⟩
   .rfl
   .have:=(n t).1;have:=p _ _ z s;omega
   .have:=(n s).1;have:=p _ _ b t;omega
   .exact h.inj u B l C b z t s I
  lt:=λb m=>by
   obtain⟨u,l,hl,j,e⟩:=m;rcases Fj f hl with⟨_,rfl⟩|⟨_,hl⟩
   .exact e▸(n j).2
   .exact e▸aO (p u l hl j) hg.size
  nF:=λb m y=>by
   obtain⟨u,l,hl,j,e⟩:=m;rcases Fj f hl with⟨_,rfl⟩|⟨_,hl⟩
   .have:=h.kO b y;have:=(n j).1;omega
   .exact h.nF b ⟨u,l,hl,j,e⟩ y
  kO:=λb m=>aO (h.kO b m) hg.size
  out:=λu k F=>by rw[Ctx.wz _ _ (by rintro⟨rfl,_⟩;omega)];exact h.out u k (eB f.len F)
  mB:=λu o k i q=>by
   rw[f.get]at i;split at i
   .rename_i e;cases i;subst e;rcases q with rfl|⟨_,q⟩
    .cases D
    .rw[Ctx.wz _ _ (by rintro⟨_,rfl⟩;omega)];exact abh h f k U
   .rename_i e;rw[Ctx.wz _ _ (λh=>e h.1)];exact h.mB u o k i q
  ob:=λu o i=>by
   rw[f.get]at i;split at i
   .rename_i e;cases i;subst e;rw[Ctx.sP];exact E
   .rename_i e;rw[Ctx.wz _ _ (λh=>e h.1)];exact ik.keep (c:=c) (c':=c.set v ob.gen L) rfl x (λl hl j r=>hg.kept _ (p u l ⟨o,i,r,hl⟩ j)) (h.ob u o i)
  gl:=λg cs A=>let ⟨a,b⟩:=h.gl g cs A;⟨a,x _ _ b⟩
  rt:=h.rt }
structure Cells(c:Ctx)(w:bs)(vs:List aE)(cs:List D):Prop where
 len:vs.l=cs.l
 one:∀v∈vs,v.oneCell'=dr
 rep:∀(i:Nat) (v:aE) (d:D),vs[i]? = bb v->cs[i]? = bb d->gj c w v d
def ES{G:GT}{c:Ctx}{H H':gd}{v gen:Nat}{w:bs}(h:gI G c H w)(a:bs)(hg:ko w a)(t:b4)(vs:List aE)(cs:List D)(n:Nat)(arr:Array aE)
  (l:zm H v (.row t gen cs) H') (f:Cells c w vs cs) (g:arr.toList.take n=vs) (p:n<=arr.size) :
  ∃L:Loc,L.jN=cp/\L.b=a.heap.size/\L.base=0/\L.top=arr.size /\
   gI G (c.set v gen L) H' (a.alloc (.cells arr t))/\Step H.l c H w (c.set v gen L) H' (a.alloc (.cells arr t)):=by
 have k:=hg.trans (ko.alloc a (.cells arr t));refine⟨⟨a.heap.size,0,arr.size,cp⟩,rfl,rfl,rfl,rfl,?_⟩;have m:(⟨a.heap.size,0,arr.size,cp⟩:Loc).jN=cp->w.heap.size<=(⟨a.heap.size,0,arr.size,cp⟩:Loc).b/\(⟨a.heap.size,0,arr.size,cp⟩:Loc).b<(a.alloc (.cells arr t)).heap.size:=λ_=>⟨hg.size,fZ⟩;have hs:=Pp h l k ⟨a.heap.size,0,arr.size,cp⟩ m;refine⟨TV h l k _ m rfl ?_,hs⟩;have o:∀u d,gj c w u d->gj (c.set v gen ⟨a.heap.size,0,arr.size,cp⟩) (a.alloc (.cells arr t)) u d:=λu d e=>e.p8 h.toHeapOK hs;have b:cs.l=n:=by rw[<-f.len,<-g];simp;omega
 simp only[ik,Ob.gen];refine⟨arr,heap_alloc_new _ _,rfl,gL,λi d e=>?_⟩;have hi:i<cs.l:=(ae.1 e).1;have j:i<arr.size:=U;refine⟨arr[i],by simp[j],?_,?_⟩
 .exact f.one _ (by rw[<-g];exact List.mem_of_getElem? (i:=i) (by rw[aG];simp[b▸hi,j]))
 .exact o _ _ (f.rep i _ d (by rw[<-g,aG];simp[b▸hi,j]) e)
def sO{H:gd}{v:Nat}{ob:Ob}(a:v<H.l)(u:Nat):(H.set v ob)[u]? = if u=v then bb ob else H[u]? := by
 rw[bT];split
 .rename_i e;subst e;simp[a]
 .rename_i e;rw[if_neg (cz e)]
def anG{c:Ctx}{H:gd}{v:Nat}{ob ob':Ob}(b:H[v]? = bb ob)(g:ob.alive=dr)(hg:ob'.gen=ob.gen){u:Nat}{l:Loc}(h:lM c (H.set v ob') u l):lM c H u l:=by
 obtain⟨o,a,f,d⟩:=h;rw[sO (ae.1 b).1]at a;split at a
 .rename_i e;cases a;subst e;exact⟨ob,b,g,by rw[<-hg];exact d⟩
 .exact⟨o,a,f,d⟩
def abD{G:GT}{c:Ctx}{H:gd}{w:bs}(h:gI G c H w){v:Nat}{ob ob':Ob}(j:H[v]? = bb ob)(s:ob.alive=dr)(J:ob'.alive=dr)(B:ob'.gen=ob.gen){L:Loc}(A:c.ι v ob.gen=bb L)(z:L.jN=cp)
  {w':bs} (I:w'.os=w.os/\w.drawn<=w'.drawn) (T:w'.tape=w.tape) (K:w'.output=w.output) (C:w'.heap.size=w.heap.size)
  (y:∀b,b≠L.b->w'.heap[b]? = w.heap[b]?) (P:(∀u d,gj c w u d->gj c w' u d)->ik c w' (bb L) ob') :
  gI G c (H.set v ob') w'/\Step H.l c H w c (H.set v ob') w':=by
 have x:lM c H v L:=⟨ob,j,s,A⟩;have F:l3 c H L.b:=⟨v,L,x,z,rfl⟩;have t:∀u l,lM c (H.set v ob') u l->lM c H u l:=λu l hl=>anG j s B hl;have m:∀b,l3 c (H.set v ob') b->l3 c H b:=λb ⟨u,l,hl,r⟩=>⟨u,l,t u l hl,r⟩
 have hs:Step H.l c H w c (H.set v ob') w':=
  ⟨I,T,K,U,rfl,λ_ h=>h,λ_ h=>.inl h,λb _ R=>y b (λe=>R (e▸F)),λ_ _ _ _ h=>h,λb i=>.inr (m b i)⟩
 have n:∀u d,gj c w u d->gj c w' u d:=λu d q=>q.p8 h.toHeapOK hs
 refine⟨{
  inj:=λu E l N h1 S=>h.inj u E l N (t _ _ h1) (t _ _ S)
  lt:=λb i=>by rw[C];exact h.lt b (m b i)
  nF:=λb i=>h.nF b (m b i)
  kO:=λb i=>by rw[C];exact h.kO b i
  out:=λu k Q=>h.out u k (by simpa using Q)
  mB:=λu o k f p=>by
   rw[sO (ae.1 j).1]at f;split at f
   .rename_i e;cases f;subst e;rcases p with rfl|⟨_,p⟩
    .cases J
    .exact h.mB u ob k j (.inr ⟨s,U⟩)
   .exact h.mB u o k f p
  ob:=λu o f=>by
   rw[sO (ae.1 j).1]at f;split at f
   .rename_i e;cases f;subst e;rw[B,A];exact P n
   .rename_i O;exact(h.ob u o f).keep rfl n λl hl M q=>y _ λe=>O (h.inj u v l L ⟨o,f,q,hl⟩ x M z e)
  gl:=λg cs D=>let ⟨a,b⟩:=h.gl g cs D;⟨a,n _ _ b⟩
  rt:=h.rt },hs⟩
def Ft{G:GT}{c:Ctx}{H:gd}{w:bs}(h:gI G c H w){v g:Nat}{t:b4}{cs:List D}(p:H[v]? = bb (.row t g cs)){L:Loc}(z:c.ι v g=bb L)(j:L.jN=cp)
  {arr:Array aE} (l:w.heap[L.b]? = bb (.cells arr t (0,0))) (a:Array aE) (o:a.size=arr.size) (k:L.top=arr.size) (e:List D) (f:L.base+e.l<=L.top)
  (s:∀(i:Nat) (d:D),e[i]? = bb d->∃u,a[L.base+i]? = bb u/\u.oneCell'=dr/\gj c w u d) :
  gI G c (H.set v (.row t g e)) (w.setRow L.b a)/\Step H.l c H w c (H.set v (.row t g e)) (w.setRow L.b a):=by
 refine abD (w':=w.setRow L.b a) (ob':=.row t g e) h p rfl rfl rfl z j ⟨rfl,dx _⟩ rfl rfl (by simp[World.setRow]) (λb y=>by simp only[World.setRow,bh];rw[if_neg (cz y)]) λq=>?_;simp only[ik,j];refine⟨a,setRow_heap w L.b arr _ t _ l,by rw[k,o],f,λi d r=>?_⟩;obtain⟨x,m,n,A⟩:=s i d r;exact⟨x,m,n,q _ _ A⟩
def tA:aE->D
 | .slice cc 0 0=>.gi
 | v=>.val v
def ML:aE->Option D
 | .slice cc 0 0=>bb .gi
 | .agg cs=>if cs.all (·.oneCell')then bb (.agg (cs.toList.map tA))else cc
 | .tuple _=>cc
 | v=>bb (.val v)
def cX(G:GT):eh->Option X
 | .tmp t=>bb (.t t)
 | .const v=>(ML v).map .c
 | .global g=>(G g).map λcs=>.c (.gC cs)
 | .func f=>bb (.c (.fn (.func f) [] []))
def xV(G:GT):List eh->Option (List X)
 | []=>bb []
 | x::r=>match cX G x,xV G r with
  | some a,bb l=>bb (a::l)
  | _,_=>cc
def zt(G:GT):List (Nat×eh)->Option (List (Nat×X))
 | []=>bb []
 | (i,x)::r=>match cX G x,zt G r with
  | some a,bb l=>bb ((i,a)::l)
  | _,_=>cc
def sv(G:GT):Option eh->Option (Option X)
 | none=>bb cc
 | some x=>(cX G x).map bb
def kG(P:di)(t:b4):Option Nat:=(P.info? t).map (·.size)
def rH(P:di)(t:b4):Option (List D):=match (P.info? t).bind (·.zero)with
 | some z=>if z.cells.all (·.oneCell')then bb (z.cells.toList.map tA)else cc
 | none=>cc
def pj(P:di)(t:b4):Option Bool:=match P.underlying t with
 | some (.struct _)|some (.array _ _)=>bb dr
 | some _=>bb cp
 | none=>cc
def YS(P:di)(t:b4):Bool:=match P.underlying t with
 | some (.int _)|some .string|some .bool=>dr
 | _=>cp
def Mq(P:di)(t:b4):Bool:=match P.underlying t with
 | some .bool=>dr
 | _=>cp
def yF(P:di)(t:b4):Option mQ:=match P.underlying t with
 | some (.int _)=>bb .int
 | some .string=>bb .str
 | some .bool=>bb .bool
 | _=>cc
def M3(P:di):Nat->List e8->Option (List mQ)
 | _,[]=>bb []
 | i,f::r=>match yF P f.type,M3 P (i+1) r with
  | some l,bb ls=>if f.offset=i/\f.name≠ "_" then bb (l::ls)else cc
  | _,_=>cc
def M4(P:di)(t:b4):Option (List mQ):=match P.underlying t with
 | some (.struct fs)=>if P.stoodInHeld t=cp/\P.eqGuardType P.depth t=cp then M3 P 0 fs.toList else cc
 | some (.array n e)=>if P.eqGuardType P.depth t=cp/\P.cellsOf e=1/\(P.info? e).isSome=dr then(yF P e).map (ga n)else cc
 | _=>cc
def IH(P:di)(fs:Array e8):List (Nat×X)->Option (List (Nat×Nat×X))
 | []=>bb []
 | (i,x)::r=>match fs[i]?,IH P fs r with
  | some f,bb l=>(kG P f.type).map λn=>(f.offset,n,x)::l
  | _,_=>cc
def WA(P:di)(fs:Array e8):Bool:=fs.all λf=>(kG P f.type).isSome
def vq(P:di)(f:hI):Bool:=match P.funcs[f]? with
 | some fn=>fn.name != "runtime.NumGoroutine" && fn.body.isSome
 | none=>cp
def Cd(P:di):Nat->List e8->Option (List ep)
 | _,[]=>bb []
 | i,f::r=>match P.underlying f.type,Cd P (i+1) r with
  | some (.int k),bb ks=>if f.offset=i/\f.name≠ "_" then bb (k::ks)else cc
  | _,_=>cc
def uW(P:di)(t:b4):Option KK:=match P.underlying t with
 | some (.struct fs)=>if P.stoodInHeld t=cp then(Cd P 0 fs.toList).map .ints else cc
 | some (.int k)=>bb (.int k)
 | some .string=>bb .str
 | some .bool=>bb .bool
 | _=>cc
def Fu(P:di)(t:b4):Option D:=(P.info? t).bind λi=>i.zero.bind ML
def nO(P:di)(G:GT)(o:Oper):Option iT:=
 match o.op with
 | .move x=>do let a <-cX G x;pure (.mv a)
 | .assign x=>do let a <-cX G x;pure (.mv a)
 | .pick c a b=>do pure (.pick (<-cX G c) (<-cX G a) (<-cX G b))
 | .box e x=>do pure (.box e (<-cX G x))
 | .alloc e=>do pure (.alloc e (<-rH P e))
 | .build t ps=>do
  let z <-rH P t
  let l <-zt G ps.toList
  match P.underlying t with
  | some (.struct fs)=>if WA P fs then do pure (.build z (<-IH P fs l))else cc
  | some (.array _ e)=>do
   let sz <-kG P e
   pure (.build z (l.map λp=>(p.1*sz,sz,p.2)))
  | _=>cc
 | .buildSlice t n ps=>do
  let .slice e <-P.underlying t|none
  let z <-rH P e
  let sz <-kG P e
  let l <-zt G ps.toList
  if z.l=sz/\0<sz/\n*sz<=16777216 then pure (.buildSl e sz z n l)else cc
 | .load t a=>do
  let x <-cX G a
  let n <-kG P t
  if <-pj P t then pure (.ldN n x)else pure (.ld1 x)
 | .store t a v=>do
  let x <-cX G a
  let y <-cX G v
  let n <-kG P t
  if <-pj P t then pure (.stN n x y)else if n=1 then pure (.st1 x y)else cc
 | .nilCheck x=>do pure (.nilck (<-cX G x))
 | .binOp op t x y _=>do
  let a <-cX G x
  let b <-cX G y
  match op with
  | .eql=>if Mq P t then pure (.eqS cp [.bool] cp a b)else if YS P t then pure (.arith .eql a b)else do pure (.eqS dr (<-M4 P t) cp a b)
  | .neq=>if Mq P t then pure (.eqS cp [.bool] dr a b)else if YS P t then pure (.arith .neq a b)else do pure (.eqS dr (<-M4 P t) dr a b)
  | op=>pure (.arith op a b)
 | .unOp op _ x=>do pure (.un op (<-cX G x))
 | .convert s d x=>do
  let a <-cX G x
  let _ <-P.underlying s
  match P.underlying d with
  | some (.int k)=>pure (.conv k a)
  | some .string=>do
   let .slice e <-P.underlying s|none
   let .int .u8 <-P.underlying e|none
   pure (.b2s a)
  | _=>cc
 | .makeFunc f first cap=>do pure (.mkfn f (<-xV G first.toList) (<-xV G cap.toList))
 | .makeMap t cc=>do
  let .map k _ <-P.underlying t|none
  pure (.mkmap (<-uW P k))
 | .lookup t x i ok=>do
  let .map k e <-P.underlying t|none
  let z <-Fu P e
  pure (.lookup (<-uW P k) z ok (<-cX G x) (<-cX G i))
 | .mapUpdate t m k v=>do
  let .map kt _ <-P.underlying t|none
  pure (.mapUpd (<-uW P kt) (<-cX G m) (<-cX G k) (<-cX G v))
 | .insert t m k v=>do
  let .map kt _ <-P.underlying t|none
  pure (.mapUpd (<-uW P kt) (<-cX G m) (<-cX G k) (<-cX G v))
 | .makeSlice t l c=>do
  let .slice e <-P.underlying t|none
  let z <-rH P e
  let i <-P.info? e
  if z.l=i.size/\0<i.size then pure (.mksl e i.size i.bytes z (<-cX G l) (<-cX G c))else cc
 | .slice t x lo hi cc=>do
  let a <-cX G x
  let l <-sv G lo
  let h <-sv G hi
  match P.underlying t with
  | some (.slice e)=>do pure (.slc (<-kG P e) a l h)
  | some .string=>pure (.slcS a l h)
  | some (.array n e)=>do pure (.slcArr (<-kG P e) n a l h)
  | _=>cc
 | .slice t x lo (bb hi) (bb mx)=>do
  let a <-cX G x
  let l <-sv G lo
  let h <-cX G hi
  let m <-cX G mx
  let .slice e <-P.underlying t|none
  pure (.slc3 (<-kG P e) a l h m)
 | .fieldAddr t x f=>do
  let a <-cX G x
  let .struct fs <-P.underlying t|none
  let g <-fs[f]?
  let n <-kG P g.type
  if 0<n then pure (.fieldA g.offset a)else cc
 | .field t x f=>do
  let a <-cX G x
  let .struct fs <-P.underlying t|none
  let g <-fs[f]?
  let n <-kG P g.type
  pure (.field g.offset n (<-pj P g.type) a)
 | .indexAddr t x i=>do
  let a <-cX G x
  let j <-cX G i
  match P.underlying t with
  | some (.slice e)=>do
   let n <-kG P e
   if 0<n then pure (.idxA n a j)else cc
  | some (.array n e)=>do pure (.idxArr (<-kG P e) n a j)
  | _=>cc
 | .index t x i=>do
  let a <-cX G x
  let j <-cX G i
  match P.underlying t with
  | some (.array n e)=>do pure (.idx (<-kG P e) n (<-pj P e) a j)
  | some .string=>pure (.idxStr a j)
  | _=>cc
 | .extract x i=>do pure (.ext (<-cX G x) i)
 | .call c=>do
  let args <-xV G c.args.toList
  match c.callee with
  | .value (.func f)=>if vq P f then pure (if G.nw f then .callN f args else .call f args)else cc
  | .value f=>do pure (.callv (<-cX G f) args)
  | .builtin .append=>match c.argTypes.toList,args with
   | [t,u],[x,y]=>do
    let .slice e <-P.underlying t|none
    let i <-P.info? e
    let z <-rH P e
    let .slice _ <-P.underlying u|none
    if z.l=i.size/\0<i.size then pure (.app e i.size i.bytes x y)else cc
   | _,_=>cc
  | .builtin .copy=>match c.argTypes.toList,args with
   | [t,u],[x,y]=>do
    let .slice e <-P.underlying t|none
    let .slice _ <-P.underlying u|none
    let n <-kG P e
    if 0<n then pure (.copy n x y)else cc
   | _,_=>cc
  | .builtin .len=>match c.argTypes.toList,args with
   | [t],[x]=>match P.underlying t with
    | some (.slice _)=>pure (.len .slice x)
    | some .string=>pure (.len .string x)
    | some (.map _ _)=>pure (.len .map x)
    | _=>cc
   | _,_=>cc
  | .builtin .max=>pure (.minmax dr args)
  | .builtin .min=>pure (.minmax cp args)
  | _=>cc
 | _=>cc
def lj(c:Ctx)(w:bs)(env:gZ)(a:Act):Prop:=∀k,gj c w (a.tmps.getD k undef) (env k)
def ju(G:GT)(c:Ctx)(H:gd)(w:bs)(K:jO)(v:aE)(w':bs):Prop:=
 ∃d H' c',K d H'/\gI G c' H' w'/\gj c' w' v d/\Step H.l c H w c' H' w'
section
variable{P:di}{G:GT}{c:Ctx}{H:gd}{w:bs}{K:jO}{env:gZ}{a:Act}
theorem ju.plain(h:gI G c H w){v:aE}{d:D}(b:K d H)(a:gj c w v d):ju G c H w K v w:=
 ⟨d,H,c,b,h,a,Step.refl _ _ _ _⟩
theorem aaB(v:aE):gj c w v (tA v):=by
 unfold tA;split
 .exact .gi
 .exact .val _
theorem Tp{v:aE}{d:D}(h:ML v=bb d):gj c w v d:=by
 unfold ML at h;split at h
 .cases h;exact .gi
 .rename_i cs;split at h
  .rename_i e;cases h
   have:=gj.agg (c:=c) (w:=w) cs.toList (cs.toList.map tA) fZ (λv a=>by
    have:=cJ.1 e v (by simpa using a)
    exact this) (λi v d a b=>by
    simp only[ax,a,aH,ar]at b;subst b
    exact aaB v)
   simpa using this
  .cases h
 .cases h
 .cases h;exact .val _
theorem iU(h:gI G c H w)(i:lj c w env a){x:eh}{X:X}(b:cX G x=bb X):gj c w (a.eval x) (ev env X):=by
 cases x with
 | tmp t=>cases b;exact i t
 | const v=>
  simp only[cX,ao]at b;obtain⟨d,j,rfl⟩:=b;exact Tp j
 | global g=>
  simp only[cX,ao]at b;obtain⟨cs,e,rfl⟩:=b;exact(h.gl g cs e).2
 | func f=>cases b;exact .fn (.func f) [] [] [] [] rfl rfl fZ fZ
theorem A8(h:gI G c H w)(b:lj c w env a):∀(l:List eh) {xs:List X},xV G l=bb xs->jK c w (l.map a.eval) (xs.map (ev env))
 | [],xs,hx=>by cases hx;exact .nil
 | x::r,xs,hx=>by
  simp only[xV]at hx;split at hx
  .rename_i X l hX hl;cases hx;exact .cons (iU h b hX) (A8 h b r hl)
  .cases hx
theorem jK.l{vs:List aE}{ds:List D}(h:jK c w vs ds):vs.l=ds.l:=by
 induction h with
 | nil=>rfl
 | cons _ _ a=>simp[a]
theorem jK.get{vs:List aE}{ds:List D}(h:jK c w vs ds):∀(i:Nat) (v:aE) (d:D),vs[i]? = bb v->ds[i]? = bb d->gj c w v d:=by
 induction h with
 | nil=>intro i v d a;simp at a
 | cons h _ e=>
  intro i v d a b
  cases i with
  | zero=>simp at a b;subst a;subst b;exact h
  | succ i=>simp at a b;exact e i v d a b
theorem jK.append{vs us:List aE}{ds es:List D}(h:jK c w vs ds)(k:jK c w us es):jK c w (vs++us) (ds++es):=by
 induction h with
 | nil=>exact k
 | cons h _ a=>exact .cons h a
theorem jK.ID:∀ {vs:List aE} {ds:List D},vs.l=ds.l->(∀(i:Nat) (v:aE) (d:D),vs[i]? = bb v->ds[i]? = bb d->gj c w v d)->jK c w vs ds
 | [],[],_,_=>.nil
 | v::vs,d::ds,hl,h=>.cons (h 0 v d rfl rfl) (jK.ID (by simpa using hl) λi v d a b=>h (i+1) v d (by simpa using a) (by simpa using b))
theorem Cells.agg{vs:List aE}{cs:List D}(h:Cells c w vs cs):gj c w (.agg vs.toArray) (.agg cs):=.agg vs cs h.len h.one h.rep
theorem Cells.drop{vs:List aE}{cs:List D}(h:Cells c w vs cs)(n:Nat):Cells c w (vs.drop n) (cs.drop n):=
 ⟨by simp[h.len],λv a=>h.one v (bt a),λi v d a b=>h.rep (n+i) v d (by simpa using a) (by simpa using b)⟩
theorem Cells.take{vs:List aE}{cs:List D}(h:Cells c w vs cs)(n:Nat):Cells c w (vs.take n) (cs.take n):=
 ⟨by simp[h.len],λv a=>h.one v (aX a),λi v d a b=>by
  rw[aG]at a b;split at a
  .rename_i hi;rw[if_pos hi]at b;exact h.rep i v d a b
  .cases a⟩
theorem Cells.append{vs us:List aE}{cs ds:List D}(h:Cells c w vs cs)(k:Cells c w us ds):Cells c w (vs++us) (cs++ds):=
 ⟨by simp[h.len,k.len],λv a=>by
  rcases aj.1 a with a|a
  .exact h.one v a
  .exact k.one v a,λi v d a b=>by
  rw[List.getElem?_append]at a b;split at a
  .rename_i hi;rw[if_pos (by rw[<-h.len];exact hi)]at b;exact h.rep i v d a b
  .rename_i hi;rw[if_neg (by rw[<-h.len];exact hi)]at b;rw[<-h.len]at b;exact k.rep _ v d a b⟩
theorem Cells.nil:Cells c w [] []:=⟨rfl,fZ,fZ⟩
theorem Cells.get{vs:List aE}{cs:List D}(h:Cells c w vs cs){i:Nat}{d:D}(a:cs[i]? = bb d):∃v,vs[i]? = bb v/\v.oneCell'=dr/\gj c w v d:=by
 have hi:i<vs.l:=by rw[h.len];exact(ae.1 a).1
 exact⟨vs[i],by simp[hi],h.one _ (bP hi),h.rep i _ d (by simp[hi]) a⟩
def uA(c:Ctx)(w:bs)(b o:Nat)(cs:List D):Prop:=∃vs,Cells c w vs cs/\∀(j:Nat) (v:aE),vs[j]? = bb v->w.cell? ⟨b,o+j,cc⟩=bb v
theorem uA.drop{b o:Nat}{cs:List D}(h:uA c w b o cs)(n:Nat):uA c w b (o+n) (cs.drop n):=by obtain⟨vs,e,d⟩:=h;exact⟨vs.drop n,e.drop n,λj v a=>by rw[aK]at a;have:=d _ _ a;rwa [a8]⟩
theorem uA.take{b o:Nat}{cs:List D}(h:uA c w b o cs)(n:Nat):uA c w b o (cs.take n):=by
 obtain⟨vs,e,d⟩:=h;refine⟨vs.take n,e.take n,λj v a=>?_⟩;rw[aG]at a;split at a
 .exact d _ _ a
 .cases a
theorem yU(h:gI G c H w){v g:Nat}{t:b4}{cs:List D}(j:H[v]? = bb (.row t g cs)){L:Loc}(p:c.ι v g=bb L)(f:L.jN=cp) :
  ∃arr:Array aE,w.heap[L.b]? = bb (.cells arr t (0,0))/\L.top=arr.size/\L.base+cs.l<=L.top/\Cells c w ((arr.toList.drop L.base).take cs.l) cs:=by
 have h0:=h.ob v _ j;simp only[Ob.gen]at h0;rw[p]at h0;simp only[ik,f]at h0;obtain⟨arr,h1,o,n,e⟩:=h0;refine⟨arr,h1,o,n,⟨gL,λu a=>?_,λi u d a k=>?_⟩⟩
 .obtain⟨i,hi⟩:=aD.1 a;rw[aG]at hi;split at hi
  .rename_i q;rw[aK]at hi;obtain⟨x,b,m,_⟩:=e i cs[i] (by simp[q]);have:arr[L.base+i]? = bb u:=by simpa using hi
   rw[b]at this;cases this;exact m
  .cases hi
 .rw[aG]at a;split at a
  .rw[aK]at a;obtain⟨x,b,_,l⟩:=e i d k;have:arr[L.base+i]? = bb u:=by simpa using a
   rw[b]at this;cases this;exact l
  .cases a
theorem My(h:gI G c H w){v g o:Nat}{t:b4}{cs:List D}(e:H[v]? = bb (.row t g cs)){u:aE}(f:gj c w u (.ptr v g o)) :
  ∃b p,u = .pointer (bb ⟨b,p,cc⟩)/\uA c w b p (cs.drop o):=by
 cases f with
 | ptr _ _ _ L k d=>
  obtain⟨arr,h1,m,l,i⟩:=yU h e k d;refine⟨L.b,L.base+o,rfl,?_⟩;refine uA.drop ⟨_,i,λj x a=>?_⟩ o;rw[aG]at a;split at a
  .rw[aK]at a;simp[World.cell?,h1];simpa using a
  .cases a
theorem zu{u:aE}{cs:List D}(h:gj c w u (.gC cs)):∃b p,u = .pointer (bb ⟨b,p,cc⟩)/\c.F b/\uA c w b p cs:=by
 cases h with
 | gC b o _ g m l h=>
  refine⟨b,o,rfl,m,(List.range cs.l).map g,⟨fZ,λv a=>?_,λi v d a k=>?_⟩,λj v a=>?_⟩
  .simp only[az,bp]at a;obtain⟨j,f,rfl⟩:=a;exact(l j cs[j] (by simp[f])).2
  .simp only[ax,ao,bS (ae.1 k).1]at a;obtain⟨_,e,rfl⟩:=a;cases e;exact h i d k
  .have f:j<cs.l:=by have:=(ae.1 a).1;simpa using this
   simp only[ax,bS f,aH,ar]at a;subst a;exact(l j cs[j] (by simp[f])).1
theorem Qy{b o:Nat}{cs:List D}(i:c.F b)(h:uA c w b o cs):gj c w (.pointer (bb ⟨b,o,cc⟩)) (.gC cs):=by
 obtain⟨vs,f,g⟩:=h;refine .gC b o cs (λj=>vs.getD j undef) i (λj d e=>?_) (λj d e=>?_)
 .obtain⟨u,a,h1,_⟩:=f.get e;simp only[kJ,a,aZ];exact⟨g j u a,h1⟩
 .obtain⟨u,a,_,h1⟩:=f.get e;simp only[kJ,a,aZ];exact h1
theorem CF{t:b4}{b:Bool}(h:pj P t=bb b)(w:bs):(isAgg t).run P w = .ok b w:=by
 unfold pj at h;unfold isAgg
 cases a:P.underlying t with
 | none=>simp[a]at h
 | some d=>cases d<;>simp[a]at h<;>subst h<;>simp[fx a]
theorem rA{t:b4}{n:Nat}(h:kG P t=bb n)(w:bs):(hU t).run P w = .ok n w:=by simp only[kG,ao]at h;obtain⟨i,hi,rfl⟩:=h;simp[hU,iK,hi]
theorem run_typeInfo{t:b4}{i:TypeInfo}(h:P.info? t=bb i)(w:bs):(iK t).run P w = .ok i w:=by simp[iK,h]
theorem AO{t:b4}{z:List D}(h:rH P t=bb z)(w:bs):∃v:aE,(zeroValue t).run P w = .ok v w/\(P.info? t).bind (·.zero)=bb v /\
  ∀c w,Cells c w v.cells.toList z:=by
 unfold rH at h
 cases hi:P.info? t with
 | none=>simp[hi]at h
 | some i=>
  simp only[hi,Option.bind_some]at h
  cases a:i.zero with
  | none=>simp[a]at h
  | some v=>
   simp only[a]at h;split at h
   .rename_i f;cases h;refine⟨v,by simp[zeroValue,run_typeInfo hi,a],by simp[a],λc w=>⟨fZ,λu b=>?_,λi u d b e=>?_⟩⟩
    .exact cJ.1 f u (by simpa using b)
    .simp only[ax,b,aH,ar]at e;subst e;exact aaB u
   .cases h
theorem O6{t:b4}(i:pj P t=bb cp){b o:Nat}{cs:List D}(h:uA c w b o cs){d:D}(g:cs[0]? = bb d) :
  ∃u,(en t (.pointer (bb ⟨b,o,cc⟩))).run P w = .ok u w/\u.oneCell'=dr/\gj c w u d:=by
 obtain⟨vs,a,e⟩:=h;obtain⟨u,f,h1,j⟩:=a.get g;have:=e 0 u f;exact⟨u,by simp[en,hh,loadVar,CF i];simp at this;simp[this],h1,j⟩
theorem O7{t:b4}{n:Nat}(g:pj P t=bb dr)(hs:kG P t=bb n){b o:Nat}{cs:List D}(f:uA c w b o cs)(h:n<=cs.l) :
  ∃u,(en t (.pointer (bb ⟨b,o,cc⟩))).run P w = .ok u w/\gj c w u (.agg (cs.take n)):=by
 obtain⟨vs,a,d⟩:=f.take n;have hl:vs.l=n:=by rw[a.len];simp;omega
 have:=run_loadCells_list (P:=P) w ⟨b,o,cc⟩ vs (λj v e=>by rw[Addr.add_lit];exact d j v e);rw[hl]at this;exact⟨.agg vs.toArray,by simp[en,hh,loadVar,CF g,rA hs,this],a.agg⟩
theorem uo{v g:Nat}{x:b4×List D}(h:rowAt H v g=bb x):H[v]? = bb (.row x.1 g x.2):=by
 unfold rowAt at h;split at h
 .split at h
  .rename_i e;subst e;cases h;assumption
  .cases h
 .cases h
theorem ame(h:gI G c H w){t:b4}(l:pj P t=bb cp){x:D}{u:aE}(k:gj c w u x)(a:Ih x H K) :
  ∃v,(en t u).run P w = .ok v w/\ju G c H w K v w:=by
 unfold Ih at a;split at a
 .rename_i v g o;split at a
  .rename_i q cs m;have n:=uo m;split at a
   .rename_i d f;obtain⟨b,p,rfl,i⟩:=My h n k;obtain⟨u,e,_,j⟩:=O6 l i (d:=d) (by simpa using f);exact⟨u,e,.plain h a j⟩
   .exact a.elim
  .exact a.elim
 .rename_i cs;split at a
  .rename_i d f;obtain⟨b,p,rfl,_,i⟩:=zu k;obtain⟨u,e,_,j⟩:=O6 l i f;exact⟨u,e,.plain h a j⟩
  .exact a.elim
 .exact a.elim
theorem amf(h:gI G c H w){t:b4}{n:Nat}(j:pj P t=bb dr)(hs:kG P t=bb n){x:D}{u:aE}(i:gj c w u x)(a:Ii n x H K) :
  ∃v,(en t u).run P w = .ok v w/\ju G c H w K v w:=by
 unfold Ii at a;split at a
 .rename_i v g o;split at a
  .rename_i m cs k;have l:=uo k;obtain⟨b,p,rfl,e⟩:=My h l i;obtain⟨u,d,f⟩:=O7 (n:=n) j hs e gL;exact⟨u,d,.plain h a.2 f⟩
  .exact a.elim
 .rename_i cs;obtain⟨b,p,rfl,_,e⟩:=zu i;obtain⟨u,d,f⟩:=O7 (n:=n) j hs e a.1;exact⟨u,d,.plain h a.2 f⟩
 .exact a.elim
theorem amn(h:gI G c H w){x y z:D}{u v t:aE}(h1:gj c w u x)(e:gj c w v y)(d:gj c w t z)(a:IG x y z H K) :
  ∃b,u = .bool b/\ju G c H w K (if b then v else t) w:=by
 unfold IG at a;split at a
 .rename_i b;cases h1;refine⟨b,rfl,.plain h a ?_⟩;cases b
  .exact d
  .exact e
 .exact a.elim
end
section
variable{P:di}{G:GT}{c:Ctx}{H:gd}{w:bs}{K:jO}{env:gZ}{a:Act}
theorem wrap_i64{n:Int}(h:nX n):IntKind.i64.wrap n=n:=by unfold nX at h;simp only[IntKind.wrap,IntKind.signed,IntKind.bits];simp;omega
theorem ju.val(h:gI G c H w){v:aE}(a:K (.val v) H):ju G c H w K v w:=.plain h a (.val _)
theorem alV(h:gI G c H w){op:fb}{k:ep}{x y:Int}(a:F6 op k x y H K)(hs:op≠.shl/\op≠.shr)(t:b4)(xo b:eh) :
  ∃v,(do er op t xo b (.int k x) (.int k y);binOp op t (.int k x) (.int k y)).run P w = .ok v w/\ju G c H w K v w:=by
 have hg:(er op t xo b (.int k x) (.int k y)).run P w = .ok () w:=by cases op<;>simp[er]
 simp only[fa,hg,ez];cases op<;>simp only[F6]at a
 case add=>
  by_cases e:k = .i64
  .subst e;simp only[if_true]at a;exact⟨_,by simp[binOp,ek,wrap_i64 a.1]<;>rfl,.val h a.2⟩
  .rw[if_neg e]at a;exact⟨_,by simp[binOp,ek]<;>rfl,.val h a⟩
 case sub=>
  by_cases e:k = .i64
  .subst e;simp only[if_true]at a;exact⟨_,by simp[binOp,ek,wrap_i64 a.1]<;>rfl,.val h a.2⟩
  .rw[if_neg e]at a;exact⟨_,by simp[binOp,ek]<;>rfl,.val h a⟩
 case mul=>
  by_cases e:k = .i64
  .subst e;simp only[if_true]at a;exact⟨_,by simp[binOp,ek,wrap_i64 a.1]<;>rfl,.val h a.2⟩
  .rw[if_neg e]at a;exact⟨_,by simp[binOp,ek]<;>rfl,.val h a⟩
 case quo=>exact⟨_,by simp[binOp,jm,a.1]<;>rfl,.val h a.2⟩
 case rem=>exact⟨_,by simp[binOp,jm,a.1]<;>rfl,.val h a.2⟩
 case and=>exact⟨_,by simp[binOp,eL]<;>rfl,.val h (by simpa[bits]using a)⟩
 case or=>exact⟨_,by simp[binOp,eL]<;>rfl,.val h (by simpa[bits]using a)⟩
 case xor=>exact⟨_,by simp[binOp,eL]<;>rfl,.val h (by simpa[bits]using a)⟩
 case andNot=>exact⟨_,by simp[binOp,eL]<;>rfl,.val h (by simpa[bits]using a)⟩
 case eql=>exact⟨_,by simp[binOp,eK]<;>rfl,.val h a⟩
 case neq=>exact⟨_,by simp[binOp,eK]<;>rfl,.val h a⟩
 case lss=>exact⟨_,by simp[binOp,eK]<;>rfl,.val h a⟩
 case leq=>exact⟨_,by simp[binOp,eK]<;>rfl,.val h a⟩
 case gtr=>exact⟨_,by simp[binOp,eK]<;>rfl,.val h a⟩
 case geq=>exact⟨_,by simp[binOp,eK]<;>rfl,.val h a⟩
 all_goals exact absurd rfl (by first|exact hs.1|exact hs.2)
theorem S7(h:gI G c H w){op:fb}{x y:D}{u v:aE}(h1:gj c w u x)(f:gj c w v y)(a:F' op x y H K)(t:b4)(xo d:eh) :
  ∃r,(do er op t xo d u v;binOp op t u v).run P w = .ok r w/\ju G c H w K r w:=by
 unfold F' at a;split at a
 .cases h1;cases f;split at a
  .have key:∀op,pY op=dr->op = .shl\/op = .shr:=λop g=>by cases op<;>simp[pY]at g<;>simp
   rename_i hs;rcases key op hs with rfl|rfl
   .simp only[I3]at a;have b:=a.1;exact⟨_,by simp[er,binOp,ku,fO.2 b]<;>rfl,.val h a.2⟩
   .simp only[I3]at a;have b:=a.1;exact⟨_,by simp[er,binOp,ku,fO.2 b]<;>rfl,.val h a.2⟩
  .rename_i hs;obtain⟨rfl,a⟩:=a;exact alV h a ⟨λe=>by subst e;exact hs rfl,λe=>by subst e;exact hs rfl⟩ t xo d
 .cases h1;cases f;rename_i p q;cases op<;>simp only[Pj]at a
  case add=>exact⟨.string (p++q),by simp[er,binOp,run_string_add_sum w p q (by have:=a.1;omega)],.val h a.2⟩
  case eql=>exact⟨_,by simp[er,binOp,iN,ByteArray.toList_eq]<;>rfl,.val h (by simpa using a)⟩
  case neq=>exact⟨_,by simp[er,binOp,iN,ByteArray.toList_eq]<;>rfl,.val h (by simpa using a)⟩
 .grind
theorem amv(h:gI G c H w){op:UnOp}{x:D}{u:aE}(h1:gj c w u x)(a:Jk op x H K) :
  ∃r,(gb op u).run P w = .ok r w/\ju G c H w K r w:=by
 unfold Jk at a;split at a
 .cases h1;exact⟨_,by simp[gb]<;>rfl,.val h a⟩
 .cases h1;rename_i n;have:(0-n) = -n:=U;exact⟨_,by simp[gb,ek,wrap_i64 a.1]<;>rfl,.val h a.2⟩
 .cases h1;exact⟨_,by simp[gb,eL]<;>rfl,.val h (by simpa[bits]using a)⟩
 .grind
theorem Dv{d:D}{v:aE}{cs:List D}(r:gj c w v d)(j:cellsOf d=bb cs):Cells c w v.cells.toList cs:=by
 have key:∀ {v:aE} {d:D},gj c w v d->v.oneCell'=dr->v.cells = #[v]->Cells c w v.cells.toList [d]:=λ{v d} r h1 p=>by rw[p];exact⟨rfl,by simpa using h1,λi u e A B=>jS⟩
 cases r with
 | any v=>simp[cellsOf]at j
 | val v=>
  simp only[cellsOf]at j;split at j
  .rename_i h1;cases j;refine key (.val v) h1 ?_;cases v<;>first|rfl|(simp[Value.oneCell']at h1)
  .cases j
 | agg vs ds hl h1 h=>
  simp only[cellsOf,ar]at j;subst j;exact⟨by simpa[Value.cells]using hl,by simpa[Value.cells]using h1,λi v d p s=>h i v d (by simpa[Value.cells]using p) s⟩
 | tup=>simp[cellsOf]at j
 | sl a len cap sz es g h1 l m n q x t=>simp only[cellsOf,ar]at j;subst j;exact key (.sl a len cap sz es g h1 l m n q x t) rfl rfl
 | gi=>simp only[cellsOf,ar]at j;subst j;exact key .gi rfl rfl
 | kW a vs h1 l m=>simp only[cellsOf,ar]at j;subst j;exact key (.kW a vs h1 l m) rfl rfl
 | gf v k sz off len cap L h1 l m n q=>simp only[cellsOf,ar]at j;subst j;exact key (.gf v k sz off len cap L h1 l m n q) rfl rfl
 | lB v k sz off L h1 a=>simp only[cellsOf,ar]at j;subst j;exact key (.lB v k sz off L h1 a) rfl rfl
 | ptr v k off L h1 l=>simp only[cellsOf,ar]at j;subst j;exact key (.ptr v k off L h1 l) rfl rfl
 | gC b o cs g h1 l m=>simp only[cellsOf,ar]at j;subst j;exact key (.gC b o cs g h1 l m) rfl rfl
 | gH v L h1 l=>simp only[cellsOf,ar]at j;subst j;exact key (.gH v L h1 l) rfl rfl
 | fn f fs cs y z h1 l m n=>simp only[cellsOf,ar]at j;subst j;exact key (.fn f fs cs y z h1 l m n) rfl rfl
 | iQ v L h1 l=>simp only[cellsOf,ar]at j;subst j;exact key (.iQ v L h1 l) rfl rfl
theorem amw{d:D}(h:one d=dr):cellsOf d=bb [d]:=by
 cases d<;>first|rfl|(simp[one]at h;done)|skip
 rename_i v;simp only[one]at h;simp[cellsOf,h]
theorem amM{L:Loc}(a:L.jN=cp)(h0:L.base=0)(v g:Nat):gj (c.set v g L) w (.pointer (bb ⟨L.b,0,cc⟩)) (.ptr v g 0):=by have:=gj.ptr (c:=c.set v g L) (w:=w) v g 0 L (Ctx.sP _ _ _ _) a;simpa[h0]using this
theorem Z7(h:gI G c H w){al:Al}(b:np H al)(t:b4){v:aE}{cs:List D}(e:Cells c w v.cells.toList cs)(d:K (.ptr al.1 0 0) (al.2 (.row t 0 cs))) :
  ∃w',(newVar t v).run P w = .ok ⟨w.heap.size,0,cc⟩ w'/\ju G c H w K (.pointer (bb ⟨w.heap.size,0,cc⟩)) w':=by
 obtain⟨L,h1,j,i,k,g,f⟩:=ES h w (ko.refl w) t v.cells.toList cs v.cells.size v.cells (b _).uv e (by rw[<-dj,db]) (dx _);refine⟨w.alloc (.cells v.cells t),by simp[newVar,newRow],?_⟩;have a:=amM (c:=c) (w:=w.alloc (.cells v.cells t)) h1 i al.1 0;rw[j]at a;exact⟨_,_,_,d,g,a,f⟩
theorem alX(h:gI G c H w){al:Al}(d:np H al)(t:b4){x:D}{u:aE}(h1:gj c w u x)(a:Gb t x al K) :
  ∃r w',(j' t u).run P w = .ok r w'/\ju G c H w K r w':=by
 unfold Gb at a;split at a
 .rename_i cs b;obtain⟨w',e,f⟩:=Z7 (P:=P) h d t (Dv h1 b) a;exact⟨_,w',by simp[j',e],f⟩
 .grind
theorem alS(h:gI G c H w){al:Al}(a:np H al){t:b4}{z:List D}(b:rH P t=bb z)(g:K (.ptr al.1 0 0) (al.2 (.row t 0 z))) :
  ∃r w',(iV t dr (.tuple #[])).run P w = .ok r w'/\ju G c H w K r w':=by
 obtain⟨v,d,_,i⟩:=AO b w;obtain⟨w',e,f⟩:=Z7 (P:=P) h a t (i c w) g;exact⟨_,w',by simp[iV,d,e],f⟩
theorem Cells.sQ{vs us:List aE}{cs ds:List D}(h:Cells c w vs cs)(k:Cells c w us ds)(o:Nat):Cells c w (vs.take o++us++vs.drop (o+us.l)) (cs.take o++ds++cs.drop (o+ds.l)):=by rw[k.len];exact((h.take o).append k).append (h.drop _)
theorem afh(l:List aE):∀(off:Nat) (cs:Array aE),off+l.l<=cs.size ->
  ((l.zipIdx off).foldl (λ(cs:Array aE) (x:aE×Nat)=>cs.setIfInBounds x.2 x.1) cs).toList=cs.toList.take off++l++cs.toList.drop (off+l.l):=by
 induction l with
 | nil=>intro off cs _;simp
 | cons v r a=>
  intro off cs h;simp only[aI]at h;simp only[List.zipIdx_cons,cj];rw[a (off+1) _ gL];simp only[Array.toList_setIfInBounds];have:=list_seg_step cs.toList off v r gL;simpa[a8,dw 1]using this
theorem afb(cs:Array aE)(l:Array aE)(off:Nat)(h:off+l.size<=cs.size) :
  (l.zipIdx.foldl (λ(cs:Array aE) (x:aE×Nat)=>match x with|(c,j)=>cs.setIfInBounds (off+j) c) cs).toList=cs.toList.take off++l.toList++cs.toList.drop (off+l.size):=by
 have:=afh l.toList off cs (by simpa using h);rw[<-Array.foldl_toList,Array.toList_zipIdx]
 have e:(l.toList.zipIdx off)=(l.toList.zipIdx 0).map λx=>(x.1,off+x.2):=by
  rw[List.zipIdx_eq_map_add]
  first|done|(simp only[dw])
 rw[e,List.foldl_map]at this;exact this
theorem Na(a:Nat->Option (Nat×Nat)):∀(vs:List (Nat×aE)) (ps:List (Nat×Nat×List D)) (arr:Array aE) (cs rs:List D),
  Cells c w arr.toList cs->vs.l=ps.l ->
  (∀(i:Nat) (v:Nat×aE) (p:Nat×Nat×List D),vs[i]? = bb v->ps[i]? = bb p->a v.1=bb (p.1,p.2.1)/\Cells c w v.2.cells.toList p.2.2) ->
  lay ps cs=bb rs->∃d,jk a arr vs=bb d/\Cells c w d.toList rs
 | [],[],arr,cs,rs,hc,_,_,hl=>by simp[lay]at hl;subst hl;exact⟨arr,rfl,hc⟩
 | (i,v)::vs,(o,n,xs)::ps,arr,cs,rs,hc,hlen,h,hl=>by
  obtain⟨b,g⟩:=h 0 (i,v) (o,n,xs) rfl rfl;simp only[lay]at hl;split at hl
  .rename_i e;have f:v.cells.size=n:=by rw[<-e.1,<-g.len];simp
   have k:o+v.cells.size<=arr.size:=by rw[f];have:=hc.len;simp at this;omega
   simp only[jk,b];rw[if_neg gL];have j:=afb arr v.cells o k;refine Na a vs ps _ _ rs ?_ (by simpa using hlen) (λi v p l b=>h (i+1) v p (by simpa using l) (by simpa using b)) hl;rw[j];have:=hc.sQ g o;rw[e.1]at this;simpa[f]using this
  .cases hl
theorem Mt(h:gI G c H w)(e:lj c w env a):∀(l:List (Nat×eh)) {ps:List (Nat×X)},zt G l=bb ps ->
  ps.l=l.l/\∀(i:Nat) (x:Nat×eh) (p:Nat×X),l[i]? = bb x->ps[i]? = bb p->p.1=x.1/\gj c w (a.eval x.2) (ev env p.2)
 | [],ps,hx=>by cases hx;simp
 | (i,x)::r,ps,hx=>by
  simp only[zt]at hx;split at hx
  .rename_i X l hX hl;cases hx;obtain⟨g,f⟩:=Mt h e r hl;refine⟨by simp[g],λj y p b d=>?_⟩
   cases j with
   | zero=>simp at b d;subst b;subst d;exact⟨rfl,iU h e hX⟩
   | succ j=>simp at b d;exact f j y p b d
  .cases hx
theorem aam{fs:Array e8}:∀ {ps:List (Nat×X)} {a:List (Nat×Nat×X)},IH P fs ps=bb a ->
  a.l=ps.l/\∀(i:Nat) (p:Nat×X) (q:Nat×Nat×X),ps[i]? = bb p->a[i]? = bb q->q.2.2=p.2/\∃f,fs[p.1]? = bb f/\q.1=f.offset/\kG P f.type=bb q.2.1
 | [],a,h=>by cases h;simp
 | (i,x)::r,a,h=>by
  simp only[IH]at h;split at h
  .rename_i f l k hl;simp only[ao]at h;obtain⟨n,g,rfl⟩:=h;obtain⟨e,d⟩:=aam hl;refine⟨by simp[e],λj p q c b=>?_⟩
   cases j with
   | zero=>simp at c b;subst c;subst b;exact⟨rfl,f,k,rfl,g⟩
   | succ j=>simp at c b;exact d j p q c b
  .cases h
theorem Tc{l:List (Nat×Nat×X)}{r:List (Nat×Nat×List D)}(h:partsOf env l=bb r) :
  r.l=l.l/\∀(i:Nat) (p:Nat×Nat×X) (q:Nat×Nat×List D),l[i]? = bb p->r[i]? = bb q->q.1=p.1/\q.2.1=p.2.1/\cellsOf (ev env p.2.2)=bb q.2.2:=by
 induction l generalizing r with
 | nil=>simp[partsOf]at h;subst h;simp
 | cons p l a=>
  obtain⟨o,n,x⟩:=p;simp only[partsOf]at h;split at h
  .grind
  .cases h
theorem Nj{α:Type}{l:List α}{n i:Nat}(hl:l.l=n)(hi:i<n):∃x,l[i]? = bb x:=⟨l[i],by simp[hl▸hi]⟩
theorem alY(h:gI G c H w)(he:lj c w env a){t:b4}{z:List D}{ops:Array (Nat×eh)}{ps:List (Nat×X)}{C:List (Nat×Nat×X)}{fs:Array e8}
  (V:rH P t=bb z) (hp:zt G ops.toList=bb ps) (Y:P.underlying t=bb (.struct fs)) (hf:WA P fs=dr) (Z:IH P fs ps=bb C)
  (e:A6 env z C H K):∃r,(fp t (ops.map λ(i,x)=>(i,a.eval x))).run P w = .ok r w/\ju G c H w K r w:=by
 unfold A6 at e;split at e
 .rename_i l hl;split at e
  .rename_i cs T;obtain⟨v,W,_,hc⟩:=AO V w;obtain⟨j,R⟩:=Mt h he ops.toList hp;obtain⟨q1,q2⟩:=aam Z;obtain⟨O,N⟩:=Tc hl
   have A:∃b:Array (Nat×Nat),(fs.mapM λf=>do pure (f.offset,<-hU f.type):Sem (Array (Nat×Nat))).run P w = .ok b w/\∀(i:Nat) (f:e8) (n:Nat),fs[i]? = bb f->kG P f.type=bb n->b[i]? = bb (f.offset,n):=by
    have key:∀(l:List e8),(∀f∈l,(kG P f.type).isSome=dr)->∃pl:List (Nat×Nat),(l.mapM λf=>do pure (f.offset,<-hU f.type):Sem (List (Nat×Nat))).run P w = .ok pl w/\∀(i:Nat) (f:e8) (n:Nat),l[i]? = bb f->kG P f.type=bb n->pl[i]? = bb (f.offset,n):=by
     intro l
     induction l with
     | nil=>intro _;exact⟨[],fZ,fZ⟩
     | cons f l U=>
      intro E;obtain⟨pl,d,k⟩:=U (λg hg=>E g (by simp[hg]));obtain⟨n,o⟩:=de.1 (E f fZ);refine⟨(f.offset,n)::pl,?_,λi g m hg hm=>?_⟩
      .simp only[eO,fa,rA o,ez,Sem.run_pure,d]
      .grind
    obtain⟨pl,d,k⟩:=key fs.toList (λf u=>cJ.1 hf f (by simpa using u));refine⟨pl.toArray,?_,λi f n hi o=>by simpa using k i f n (by simpa using hi) o⟩;rw[e9,Sem.run_map,d];rfl
   obtain⟨b,d,k⟩:=A
   obtain⟨S,M,Q⟩:=Na (c:=c) (w:=w) (b[·]?) (ops.toList.map λx=>(x.1,a.eval x.2)) l v.cells z cs (hc c w) (by simp[O,q1,j]) (λi x q I HN=>by
    simp only[ax,ao]at I;obtain⟨y,F,rfl⟩:=I;have hi:i<ops.toList.l:=(ae.1 F).1;obtain⟨p,B⟩:=Nj j hi;obtain⟨s,L⟩:=Nj (q1.trans j) hi;obtain⟨e1,e2⟩:=R i y p F B;obtain⟨e3,f,a2,a1,a0⟩:=q2 i p s B L;obtain⟨e4,e5,J⟩:=N i s q L HN;refine⟨?_,?_⟩
    .grind
    .rw[e3]at J
     exact Dv e2 J) T
   refine⟨.agg S,?_,?_⟩
   .simp only[fp,fa,W,ez,fx Y,d];have:(Array.map (λx=>(x.fst,a.eval x.snd)) ops).toList=ops.toList.map λx=>(x.1,a.eval x.2):=fZ;simp only[this,M];rfl
   .have:=Q.agg;exact .plain h e (by simpa using this)
  .exact e.elim
 .grind
theorem alZ(h:gI G c H w)(J:lj c w env a){t e:b4}{n sz:Nat}{z:List D}{ops:Array (Nat×eh)}{ps:List (Nat×X)}
  (C:rH P t=bb z) (I:zt G ops.toList=bb ps) (F:P.underlying t=bb (.array n e)) (hs:kG P e=bb sz)
  (b:A6 env z (ps.map λp=>(p.1*sz,sz,p.2)) H K):∃r,(fp t (ops.map λ(i,x)=>(i,a.eval x))).run P w = .ok r w/\ju G c H w K r w:=by
 unfold A6 at b;split at b
 .rename_i l hl;split at b
  .rename_i cs B;obtain⟨v,E,_,L⟩:=AO C w;obtain⟨f,u⟩:=Mt h J ops.toList I;obtain⟨o,m⟩:=Tc hl
   obtain⟨A,k,s⟩:=Na (c:=c) (w:=w) (λi=>bb (i*sz,sz)) (ops.toList.map λx=>(x.1,a.eval x.2)) l v.cells z cs (L c w) (by simp[o,f]) (λi x q j S=>by
    simp only[ax,ao]at j;obtain⟨y,g,rfl⟩:=j;have hi:i<ops.toList.l:=(ae.1 g).1;obtain⟨p,d⟩:=Nj f hi;obtain⟨R,Q⟩:=u i y p g d;obtain⟨O,N,M⟩:=m i (p.1*sz,sz,p.2) q (by simp[d]) S
    exact⟨by simp[O,N,R],Dv Q M⟩) B
   refine⟨.agg A,?_,?_⟩
   .simp only[fp,fa,E,ez,fx F,rA hs];have:(Array.map (λx=>(x.fst,a.eval x.snd)) ops).toList=ops.toList.map λx=>(x.1,a.eval x.2):=fZ;simp only[this,k];rfl
   .have:=s.agg;exact .plain h b (by simpa using this)
  .exact b.elim
 .exact b.elim
