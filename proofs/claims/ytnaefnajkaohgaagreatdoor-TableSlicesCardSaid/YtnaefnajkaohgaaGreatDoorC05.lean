/- Part 5 of the proof of skewer.skewerlaw15.TableSlices. -/
import Derived.Test.YtnaefnajkaohgaaGreatDoorC04
import Derived.Shelf.SlSortCmp.NoneTotal
import Derived.Test.YtnaefnajkaohgaaGreatDoorC02
import Derived.Test.YtnaefnajkaohgaaGreatDoorC03
set_option linter.all false
namespace Go.AL
open Go
def edgesOK(A:Array Oper):Bool:=(List.range A.size).all fun i=>match A[i]? with
 | some o=>o.after.all fun e => !Region.binds .any e||decide (e.on<i)
 | none=>true
def ordOK(A:Array Oper)(ord:List (List Nat)):Bool:=(List.range A.size).all fun i=>match A[i]? with
 | some o=>(ord.getD i []).all fun k=>o.after.any fun e=>Region.binds .any e&&(e.on == k||(ord.getD e.on []).contains k)
 | none=>true
def pairsOK(l:List IEnt)(ord:List (List Nat))(prs:List (Nat×Nat)):Bool:=(List.range l.length).all fun i=>(List.range i).all fun k=>
 (ord.getD i []).contains k||(match l[k]?,l[i]? with
  | some a,some b=>slotsApart a b&&(prs.contains (k,i)||stillApart a.op b.op)
  | _,_=>false)
section
variable{P:Program}{G:GT}{A:Array Oper}{ord:List (List Nat)}
theorem edges_spec(h:edgesOK A=true){i:Nat}{o:Oper}(hi:A[i]? = some o){e:Edge}(he:e∈o.after)(hb:Region.binds .any e=true):e.on<i:=by
 have:=List.all_eq_true.1 h i (List.mem_range.2 (Array.getElem?_eq_some_iff.1 hi).1)
 simp only[hi]at this
 have:=Array.all_eq_true_iff_forall_mem.1 this e he
 simpa[hb]using this
theorem ord_spec(h:ordOK A ord=true){i:Nat}{o:Oper}(hi:A[i]? = some o){k:Nat}(hk:k∈ord.getD i []):∃ e∈o.after,Region.binds .any e=true∧(e.on=k∨k∈ord.getD e.on []):=by
 have:=List.all_eq_true.1 h i (List.mem_range.2 (Array.getElem?_eq_some_iff.1 hi).1)
 simp only[hi]at this
 have:=List.all_eq_true.1 this k hk
 obtain⟨e,he,h2⟩:=Array.any_eq_true'.1 this
 simp only[Bool.and_eq_true,Bool.or_eq_true,beq_iff_eq,List.contains_iff_mem]at h2
 exact⟨e,he,h2.1,h2.2⟩
structure Left(A:Array Oper)(ord:List (List Nat))(rem:List TItem)(listed:Array Bool):Prop where
 size:listed.size=A.size
 iff:∀ j,j<A.size→(listed.getD j true=false↔∃ it∈rem,it.k=j)
 sorted:rem.Pairwise fun p q=>p.k<q.k
 lt:∀ it∈rem,it.k<A.size
 down:∀ i,i<A.size→listed.getD i false=true→∀ k∈ord.getD i [],listed.getD k false=true
theorem listed_cases{rem:List TItem}{listed:Array Bool}(h:Left A ord rem listed){j:Nat}(hj:j<A.size):listed.getD j false=true∨∃ it∈rem,it.k=j:=by
 have hjl:j<listed.size:=by rw[h.size];exact hj
 cases hb:listed.getD j true with
 | false=>exact .inr ((h.iff j hj).1 hb)
 | true=>left;simp[hjl]at hb ⊢;exact hb
theorem not_listed{rem:List TItem}{listed:Array Bool}(h:Left A ord rem listed){it:TItem}(hit:it∈rem):listed.getD it.k false=false:=by
 have hlt:=h.lt it hit
 have:=(h.iff it.k hlt).2 ⟨it,hit,rfl⟩
 have hjl:it.k<listed.size:=by rw[h.size];exact hlt
 simp[hjl]at this ⊢;exact this
theorem ready_first(he:edgesOK A=true){it:TItem}{rem:List TItem}{listed:Array Bool}(h:Left A ord (it::rem) listed):it.k∈Region.ready .any A listed:=by
 rw[mem_ready]
 have hlt:=h.lt it (by simp)
 refine⟨(h.iff it.k hlt).2 ⟨it,by simp,rfl⟩,A[it.k],by simp[hlt],fun e hm hb=>?_⟩
 have hel:=edges_spec he (i:=it.k) (o:=A[it.k]) (by simp[hlt]) hm hb
 rcases listed_cases h (show e.on<A.size by omega)with hl|⟨q,hq,hqk⟩
 ·exact hl
 ·exfalso
  rcases List.mem_cons.1 hq with rfl|hq
  ·omega
  ·have:=(List.pairwise_cons.1 h.sorted).1 q hq
   omega
theorem ready_free(ho:ordOK A ord=true){rem:List TItem}{listed:Array Bool}(h:Left A ord rem listed){i:Nat}(hi:i∈Region.ready .any A listed){q:TItem}(hq:q∈rem):q.k ∉ ord.getD i []:=by
 intro hk
 obtain⟨_,o,hoi,hall⟩:=mem_ready.1 hi
 obtain⟨e,hm,hb,hc⟩:=ord_spec ho hoi hk
 have hel:=hall e hm hb
 have hn:=not_listed h hq
 rcases hc with hc|hc
 ·rw[hc]at hel;rw[hel]at hn;cases hn
 ·have hlt:e.on<A.size:=by
   rcases Nat.lt_or_ge e.on A.size with h'|h'
   ·exact h'
   ·have:listed.getD e.on false=false:=by
     have:listed.size≤e.on:=by rw[h.size];exact h'
     simp[Array.getElem?_eq_none this]
    rw[this]at hel;cases hel
  have:=h.down e.on hlt hel q.k hc
  rw[this]at hn;cases hn
theorem left_next(ho:ordOK A ord=true){pre post:List TItem}{it:TItem}{listed:Array Bool}(h:Left A ord (pre++it::post) listed)(hi:it.k∈Region.ready .any A listed) :
  Left A ord (pre++post) (listed.setIfInBounds it.k true):=by
 have hsub:(pre++post).Sublist (pre++it::post):=List.Sublist.append_left (List.sublist_cons_self it post) pre
 have hne:∀ q∈pre++post,q.k≠it.k:=by
  intro q hq
  have:=List.pairwise_append.1 h.sorted
  rcases List.mem_append.1 hq with hq|hq
  ·have:=this.2.2 q hq it (by simp);omega
  ·have:=(List.pairwise_cons.1 this.2.1).1 q hq;omega
 have hlt:=h.lt it (by simp)
 refine⟨by simp[h.size],fun j hj=>?_,h.sorted.sublist hsub,fun q hq=>h.lt q (hsub.subset hq),fun i hia hl k hk=>?_⟩
 ·by_cases e:it.k=j
  ·subst e
   have:(listed.setIfInBounds it.k true).getD it.k true=true:=by
    have:it.k<listed.size:=by rw[h.size];exact hlt
    simp[this]
   rw[this]
   constructor
   ·intro h;cases h
   ·rintro⟨q,hq,e⟩
    exact absurd e (hne q hq)
  ·rw[getD_set_ne true e,h.iff j hj]
   constructor
   ·rintro⟨q,hq,rfl⟩
    rcases List.mem_append.1 hq with hq|hq
    ·exact⟨q,List.mem_append_left _ hq,rfl⟩
    ·rcases List.mem_cons.1 hq with rfl|hq
     ·exact absurd rfl e
     ·exact⟨q,List.mem_append_right _ hq,rfl⟩
   ·rintro⟨q,hq,rfl⟩
    exact⟨q,hsub.subset hq,rfl⟩
 ·by_cases e:it.k=i
  ·subst e
   obtain⟨_,o,hoi,hall⟩:=mem_ready.1 hi
   obtain⟨e,hm,hb,hc⟩:=ord_spec ho hoi hk
   have hel:=hall e hm hb
   rcases hc with rfl|hc
   ·exact getD_set_true hel
   ·have hlt:e.on<A.size:=by
     rcases Nat.lt_or_ge e.on A.size with h'|h'
     ·exact h'
     ·have:listed.getD e.on false=false:=by
       have:listed.size≤e.on:=by rw[h.size];exact h'
       simp[Array.getElem?_eq_none this]
      rw[this]at hel;cases hel
    exact getD_set_true (h.down e.on hlt hel k hc)
  ·rw[getD_set_ne false e]at hl
   exact getD_set_true (h.down i hia hl k hk)
variable{C:FuncId→List D→D→Heap→Prop}{N:Nat}
theorem appH_len(n:Nat)(δ:Dl)(H:Heap):(appH n δ H).length=H.length:=by
 cases δ with
 | no=>rfl
 | cells v o xs=>simp only[appH,Dl.app];split<;>simp
 | obj v ob=>simp[appH,Dl.app]
 | new ob=>simp[appH,Dl.app,Al.hole]
theorem any_ok(hC:∀ g args d Hn,C g args d Hn→entersB P g=true∧CallOK P G g args [] d Hn)(he:edgesOK A=true)(ho:ordOK A ord=true){ro:Option Nat}{m:Nat}{Q:Exit→Act→World→Prop}{ms:List Nat}{f':EnvF}{H':Heap} :
  ∀ (fuel:Nat) (rem:List TItem) (listed:Array Bool) (c:Ctx) (w:World) (f:EnvF) (H:Heap) (a:Act),rem.length=fuel→Left A ord rem listed→SX G N c w f H ms a→Tx C f H rem f' H' →
   (∀ it∈rem,∃ o,A[it.k]? = some o∧compileOper P G N A o=some it.e) →
   (∀ p∈rem,∀ q∈rem,p.k<q.k→p.k∈ord.getD q.k []∨(slotsApart p.e q.e=true∧rcApart p.rc q.rc=true)) →
   (∀ c' w' a',SX G N c' w' f' H' ms a'→Step H.length c H w c' H' w'→Q .normal a' w')→wpAnyIn (FW ro) m P .any A Q fuel listed a w
 | 0,rem,listed,c,w,f,H,a,hl,hleft,hs,ht,_,_,hQ=>by
  have:rem = []:=List.eq_nil_of_length_eq_zero hl
  subst this
  cases ht
  refine⟨?_,hQ c w a hs (Step.refl _ _ _ _)⟩
  refine List.eq_nil_iff_forall_not_mem.2 fun j hj=>?_
  obtain⟨h1,o,h2,_⟩:=mem_ready.1 hj
  obtain⟨it,hit,_⟩:=(hleft.iff j (Array.getElem?_eq_some_iff.1 h2).1).1 h1
  cases hit
 | fuel+1,rem,listed,c,w,f,H,a,hl,hleft,hs,ht,hcomp,hpairs,hQ=>by
  refine⟨fun h0=>?_,fun i hi=>?_⟩
  ·cases rem with
   | nil=>cases hl
   | cons it rem=>
    have:=ready_first he hleft
    rw[h0]at this
    cases this
  ·obtain⟨h1,o,h2,_⟩:=mem_ready.1 hi
   obtain⟨it,hit,rfl⟩:=(hleft.iff i (Array.getElem?_eq_some_iff.1 h2).1).1 h1
   obtain⟨pre,post,rfl⟩:=List.append_of_mem hit
   have hpre:∀ p∈pre,slotsApart p.e it.e=true∧rcApart p.rc it.rc=true:=by
    intro p hp
    have hlt:p.k<it.k:=(List.pairwise_append.1 hleft.sorted).2.2 p hp it (by simp)
    rcases hpairs p (List.mem_append_left _ hp) it (by simp) hlt with h|h
    ·exact absurd h (ready_free ho hleft hi (List.mem_append_left _ hp))
    ·exact h
   obtain⟨d,δ,hE,hT⟩:=ht.front hpre
   obtain⟨o',ho',hco⟩:=hcomp it (by simp)
   have hsub:∀ q∈pre++post,q∈pre++it::post:=fun q hq=>(List.Sublist.append_left (List.sublist_cons_self it post) pre).subset hq
   refine ef_wp hC hs ho' hco hE fun c' w' a' hs' hst=>?_
   refine any_ok hC he ho fuel (pre++post) _ c' w' _ _ a' (by simp at hl ⊢;omega) (left_next ho hleft hi) hs' hT (fun q hq=>hcomp q (hsub q hq)) (fun p hp q hq=>hpairs p (hsub p hp) q (hsub q hq)) fun c2 w2 a2 hs2 hst2=>?_
   rw[appH_len]at hst2
   exact hQ c2 w2 a2 hs2 (hst.trans hst2 (Nat.le_refl _))
theorem any_tail(he:edgesOK A=true)(ho:ordOK A ord=true){F:Fence}{m:Nat}{Q:Exit→Act→World→Prop} :
  ∀ (lasts:List TItem) (ops:List Oper) (listed:Array Bool) (a:Act) (w:World),Left A ord lasts listed→(∀ q∈lasts,∀ k,k<q.k→k∈ord.getD q.k [])→lasts.map (fun q=>A[q.k]?)=ops.map some →
   wpListIn F m P A Q ops a w→wpAnyIn F m P .any A Q lasts.length listed a w
 | [],ops,listed,a,w,hleft,_,hops,h=>by
  have:ops = []:=by simpa using hops.symm
  subst this
  refine⟨List.eq_nil_iff_forall_not_mem.2 fun j hj=>?_,h⟩
  obtain⟨h1,o,h2,_⟩:=mem_ready.1 hj
  obtain⟨it,hit,_⟩:=(hleft.iff j (Array.getElem?_eq_some_iff.1 h2).1).1 h1
  cases hit
 | q::lasts,ops,listed,a,w,hleft,hl,hops,h=>by
  cases ops with
  | nil=>simp at hops
  | cons o ops=>
   simp only[List.map_cons,List.cons.injEq]at hops
   refine⟨fun h0=>?_,fun i hi=>?_⟩
   ·have:=ready_first he hleft
    rw[h0]at this
    cases this
   ·obtain⟨h1,o',h2,_⟩:=mem_ready.1 hi
    obtain⟨it,hit,rfl⟩:=(hleft.iff i (Array.getElem?_eq_some_iff.1 h2).1).1 h1
    have hit:it=q:=by
     rcases List.mem_cons.1 hit with h|h
     ·exact h
     ·have hlt:q.k<it.k:=(List.pairwise_cons.1 hleft.sorted).1 it h
      exact absurd (hl it (List.mem_cons_of_mem _ h) q.k hlt) (ready_free ho hleft hi (q:=q) (by simp))
    subst hit
    have hn:=left_next (pre:=[]) (post:=lasts) ho hleft hi
    have ih:∀ a w,wpListIn F m P A Q ops a w→wpAnyIn F m P .any A Q lasts.length (listed.setIfInBounds it.k true) a w:=fun a w h=>
     any_tail he ho lasts ops _ a w hn (fun q hq=>hl q (List.mem_cons_of_mem _ hq)) hops.2 h
    unfold wpOpIn
    simp only[hops.1]
    simp only[wpListIn]at h
    split
    ·rename_i hw
     simp only[hw,if_true]at h
     exact Oper.wpIn_mono ih h
    ·rename_i hw
     simp only[hw]at h
     exact⟨h.1,ih _ _ h.2⟩
theorem any_okL(hC:∀ g args d Hn,C g args d Hn→entersB P g=true∧CallOK P G g args [] d Hn)(he:edgesOK A=true)(ho:ordOK A ord=true){ro:Option Nat}{m:Nat}{Q:Exit→Act→World→Prop}{ms:List Nat}{f':EnvF}{H':Heap}{lasts:List TItem}{ops:List Oper}
  (hlast:∀ q∈lasts,∀ k,k<q.k→k∈ord.getD q.k []) (hops:lasts.map (fun q=>A[q.k]?)=ops.map some) :
  ∀ (fuel:Nat) (rem:List TItem) (listed:Array Bool) (c:Ctx) (w:World) (f:EnvF) (H:Heap) (a:Act),rem.length=fuel→Left A ord (rem++lasts) listed→SX G N c w f H ms a→Tx C f H rem f' H' →
   (∀ it∈rem,∃ o,A[it.k]? = some o∧compileOper P G N A o=some it.e) →
   (∀ p∈rem,∀ q∈rem,p.k<q.k→p.k∈ord.getD q.k []∨(slotsApart p.e q.e=true∧rcApart p.rc q.rc=true)) →
   (∀ c' w' a',SX G N c' w' f' H' ms a'→Step H.length c H w c' H' w'→wpListIn (FW ro) m P A Q ops a' w')→wpAnyIn (FW ro) m P .any A Q (fuel+lasts.length) listed a w
 | 0,rem,listed,c,w,f,H,a,hl,hleft,hs,ht,_,_,hQ=>by
  have:rem = []:=List.eq_nil_of_length_eq_zero hl
  subst this
  cases ht
  rw[Nat.zero_add]
  exact any_tail he ho lasts ops listed a w hleft hlast hops (hQ c w a hs (Step.refl _ _ _ _))
 | fuel+1,rem,listed,c,w,f,H,a,hl,hleft,hs,ht,hcomp,hpairs,hQ=>by
  have hmem:∀ q∈rem,∀ l∈lasts,q.k<l.k:=fun q hq l hl=>(List.pairwise_append.1 hleft.sorted).2.2 q hq l hl
  rw[show fuel+1+lasts.length=(fuel+lasts.length)+1 by omega]
  refine⟨fun h0=>?_,fun i hi=>?_⟩
  ·cases rem with
   | nil=>cases hl
   | cons it rem=>
    have:=ready_first (rem:=rem++lasts) he hleft
    rw[h0]at this
    cases this
  ·obtain⟨h1,o,h2,_⟩:=mem_ready.1 hi
   obtain⟨it,hit,rfl⟩:=(hleft.iff i (Array.getElem?_eq_some_iff.1 h2).1).1 h1
   have hit:it∈rem:=by
    rcases List.mem_append.1 hit with h|h
    ·exact h
    ·cases rem with
     | nil=>cases hl
     | cons q rem=>exact absurd (hlast it h q.k (hmem q (by simp) it h)) (ready_free ho hleft hi (q:=q) (by simp))
   obtain⟨pre,post,rfl⟩:=List.append_of_mem hit
   have hleft2:Left A ord (pre++it::(post++lasts)) listed:=by simpa using hleft
   have hpre:∀ p∈pre,slotsApart p.e it.e=true∧rcApart p.rc it.rc=true:=by
    intro p hp
    have hlt:p.k<it.k:=(List.pairwise_append.1 hleft2.sorted).2.2 p hp it (by simp)
    rcases hpairs p (List.mem_append_left _ hp) it (by simp) hlt with h|h
    ·exact absurd h (ready_free ho hleft2 hi (List.mem_append_left _ hp))
    ·exact h
   obtain⟨d,δ,hE,hT⟩:=ht.front hpre
   obtain⟨o',ho',hco⟩:=hcomp it (by simp)
   have hsub:∀ q∈pre++post,q∈pre++it::post:=fun q hq=>(List.Sublist.append_left (List.sublist_cons_self it post) pre).subset hq
   refine ef_wp hC hs ho' hco hE fun c' w' a' hs' hst=>?_
   refine any_okL hC he ho hlast hops fuel (pre++post) _ c' w' _ _ a' (by simp at hl ⊢;omega) (by simpa using left_next ho hleft2 hi) hs' hT (fun q hq=>hcomp q (hsub q hq)) (fun p hp q hq=>hpairs p (hsub p hp) q (hsub q hq)) fun c2 w2 a2 hs2 hst2=>?_
   rw[appH_len]at hst2
   exact hQ c2 w2 a2 hs2 (hst.trans hst2 (Nat.le_refl _))
end
end Go.AL
namespace Go.AL
open Go
abbrev room(k:Nat):Heap:=List.replicate k .hole
section
variable{f:EnvF}{H:Heap}{r:Nat}
theorem get_room(v:Nat)(o:Ob)(ho:o≠.hole):(H++room r)[v]? = some o↔H[v]? = some o:=by
 rcases Nat.lt_or_ge v H.length with h|h
 ·rw[List.getElem?_append_left h]
 ·rw[List.getElem?_append_right h,List.getElem?_eq_none h]
  constructor
  ·intro h1
   rw[List.getElem?_replicate]at h1
   split at h1
   ·cases h1;exact absurd rfl ho
   ·cases h1
  ·intro h1;cases h1
theorem rows_room(v:Nat):rowsOf (H++room r) v=rowsOf H v:=by
 unfold rowsOf
 cases h:H[v]? with
 | none=>
  cases h2:(H++room r)[v]? with
  | none=>rfl
  | some o=>
   cases o<;>first|rfl|skip
   rw[get_room v _ (by simp)]at h2
   rw[h]at h2;cases h2
 | some o=>
  have:(H++room r)[v]? = some o:=by
   rw[List.getElem?_append_left (List.getElem?_eq_some_iff.1 h).1];exact h
  rw[this]
theorem rowAt_room(v g:Nat):rowAt (H++room r) v g=rowAt H v g:=by rw[rowAt_rows,rowAt_rows,rows_room]
theorem mapAt_room(v:Nat):mapAt (H++room r) v=mapAt H v:=by
 unfold mapAt
 cases h:H[v]? with
 | none=>
  cases h2:(H++room r)[v]? with
  | none=>rfl
  | some o=>
   cases o<;>first|rfl|skip
   rw[get_room v _ (by simp)]at h2
   rw[h]at h2;cases h2
 | some o=>
  have:(H++room r)[v]? = some o:=by
   rw[List.getElem?_append_left (List.getElem?_eq_some_iff.1 h).1];exact h
  rw[this]
theorem sliceCells_room(sz:Nat)(d:D):sliceCells sz (H++room r) d=sliceCells sz H d:=by
 cases d<;>first|rfl|skip
 simp only[sliceCells,rowAt_room]
theorem aopO_room(n:Nat)(op:IOp):aopO f (H++room r) n op=aopO f H n op:=by
 cases op<;>simp only[aopO]<;>first|rfl|skip
 case ld1=>simp only[ld1O,rowAt_room]
 case ldN=>simp only[ldNO,rowAt_room]
 case st1=>simp only[st1O,rowAt_room]
 case stN=>simp only[stNO,rowAt_room]
 case lookup=>simp only[lookupO,mapAt_room]
 case mapUpd=>simp only[mapUpdO,mapAt_room]
 case len=>simp only[lenO,mapAt_room]
 case b2s=>simp only[b2sO,sliceCells_room]
 case app=>simp only[appO,sliceCells_room,rowAt_room]
 case copy=>simp only[copyO,sliceCells_room,rowAt_room]
theorem refs_room(k:Nat)(d:D):refsD (H++room r) k d=refsD H k d∧shed (fun _=>none) (H++room r) k d=shed (fun _=>none) H k d:=
 refs_local (H1:=H) (H2:=H++room r) k d fun v _=>(rows_room v).symm
theorem fpR_room(op:IOp):fpR f (H++room r) op=fpR f H op:=by
 have key:∀ args:List D,args.map (refsD (H++room r) 40)=args.map (refsD H 40):=fun args=>List.map_congr_left fun d _=>(refs_room 40 d).1
 cases op<;>first|rfl|skip
 case call g args=>simp only[fpR,key]
 case callN g args=>simp only[fpR,key]
 case callv g args=>simp only[fpR,key]
 case len k x=>cases k<;>rfl
theorem rowAt_lt{v g:Nat}{x:TypeId×List D}(h:rowAt H v g=some x):v<H.length:=(List.getElem?_eq_some_iff.1 (rowAt_get h)).1
theorem mapAt_lt{v:Nat}{x:KK×List (Value×D)}(h:mapAt H v=some x):v<H.length:=(List.getElem?_eq_some_iff.1 (mapAt_some h)).1
def Safe(H:Heap):Dl→Prop
 | .no=>True
 | .cells v o xs=>∃ t g cs,H[v]? = some (.row t g cs)∧o+xs.length≤cs.length
 | .obj v _=>v<H.length
 | .new _=>True
theorem aopO_safe{op:IOp}{n:Nat}{d:D}{δ:Dl}(h:aopO f H n op=some (d,δ)):Safe H δ:=by
 have hl:∀ {o:Option D},lift o=some (d,δ)→Safe H δ:=fun h=>by rw[(lift_some h).2];trivial
 cases op<;>simp only[aopO]at h<;>first|exact hl h|(cases h;done)|skip
 case box=>unfold boxO at h;split at h<;>cases h;trivial
 case alloc=>cases h;trivial
 case mkmap=>cases h;trivial
 case buildSl=>
  unfold buildSlO at h
  split at h
  ·split at h<;>cases h;trivial
  ·cases h
 case mksl=>
  unfold mkslO at h
  split at h
  ·split at h<;>cases h;trivial
  ·cases h
 case st1=>
  unfold st1O at h
  split at h
  ·split at h
   ·rename_i v g o _ t cs hrow
    split at h
    ·rename_i hc;cases h;exact⟨_,_,_,rowAt_get hrow,by simp;omega⟩
    ·cases h
   ·cases h
  ·cases h
 case stN=>
  unfold stNO at h
  split at h
  ·split at h
   ·rename_i v g o xs _ _ t cs hrow
    split at h
    ·rename_i hc;cases h;exact⟨_,_,_,rowAt_get hrow,by simp;omega⟩
    ·cases h
   ·cases h
  ·cases h
 case mapUpd=>
  unfold mapUpdO at h
  split at h
  ·split at h
   ·rename_i hm
    split at h
    ·cases h;exact mapAt_lt hm
    ·cases h
   ·cases h
  ·cases h
 case app=>
  unfold appO at h
  split at h
  ·split at h
   ·split at h
    ·rename_i hrow
     split at h
     ·cases h;exact rowAt_lt hrow
     ·cases h
    ·cases h
   ·split at h
    ·cases h;trivial
    ·split at h
     ·cases h;trivial
     ·cases h
   ·cases h
  ·cases h
 case copy=>
  unfold copyO at h
  split at h
  ·split at h
   ·rename_i hrow
    split at h
    ·cases h;exact rowAt_lt hrow
    ·cases h
   ·cases h
  ·cases h;trivial
  ·cases h
theorem app_room{δ:Dl}(hs:Safe H δ)(k:Nat)(hk:(δ.app H (Al.last H)).length≤k) :
  appH H.length δ (H++room (k-H.length))=δ.app H (Al.last H)++room (k-(δ.app H (Al.last H)).length)∧Fits H.length δ (H++room (k-H.length)):=by
 cases δ with
 | no=>exact⟨rfl,trivial⟩
 | cells v o xs=>
  obtain⟨t,g,cs,h1,h2⟩:=hs
  have hlt:=(List.getElem?_eq_some_iff.1 h1).1
  have h3:(H++room (k-H.length))[v]? = some (.row t g cs):=by rw[List.getElem?_append_left hlt];exact h1
  refine⟨?_,t,g,cs,h3,h2⟩
  simp only[appH,Dl.app,h3,h1,List.length_set]
  rw[List.set_append_left _ _ hlt]
 | obj v ob=>
  refine⟨?_,trivial⟩
  simp only[appH,Dl.app,List.length_set]
  rw[List.set_append_left _ _ hs]
 | new ob=>
  simp only[Dl.app,Al.last,List.length_append,List.length_cons,List.length_nil,Nat.zero_add]at hk ⊢
  have e:k-H.length=(k-(H.length+1))+1:=by omega
  refine⟨?_,?_⟩
  ·simp only[appH,Dl.app,Al.hole]
   rw[e,room,List.replicate_succ,List.set_append_right _ _ (Nat.le_refl _)]
   simp[List.append_assoc]
  ·show(H++room (k-H.length))[H.length]? = some .hole
   rw[e,List.getElem?_append_right (Nat.le_refl _)]
   simp[List.replicate_succ]
end
section
variable{G:GT}{c:Ctx}{w:World}{H:Heap}
theorem lies_room{r v:Nat}{L:Loc}:Lies c (H++room r) v L↔Lies c H v L:=by
 constructor
 ·rintro⟨o,ho,ha,hι⟩
  rw[get_room v o (by rintro rfl;cases ha)]at ho
  exact⟨o,ho,ha,hι⟩
 ·rintro⟨o,ho,ha,hι⟩
  exact⟨o,(get_room v o (by rintro rfl;cases ha)).2 ho,ha,hι⟩
theorem owned_room{r b:Nat}:Owned c (H++room r) b↔Owned c H b:=by
 constructor
 ·rintro⟨v,L,hl,r⟩;exact⟨v,L,lies_room.1 hl,r⟩
 ·rintro⟨v,L,hl,r⟩;exact⟨v,L,lies_room.2 hl,r⟩
theorem room_ok(h:HOK G c H w)(r:Nat):HOK G c (H++room r) w where
 inj v v' L L' h1 h2:=h.inj v v' L L' (lies_room.1 h1) (lies_room.1 h2)
 lt b hb:=h.lt b (owned_room.1 hb)
 nF b hb:=h.nF b (owned_room.1 hb)
 Flt:=h.Flt
 out v k hv:=h.out v k (by simp at hv;omega)
 fut v o k ho hk:=by
  rcases Nat.lt_or_ge v H.length with hv|hv
  ·rw[List.getElem?_append_left hv]at ho;exact h.fut v o k ho hk
  ·exact h.out v k hv
 ob v o ho:=by
  rcases Nat.lt_or_ge v H.length with hv|hv
  ·rw[List.getElem?_append_left hv]at ho;exact h.ob v o ho
  ·rw[List.getElem?_append_right hv,List.getElem?_replicate]at ho
   split at ho
   ·cases ho
    simp only[ObOK]
    exact h.out v _ hv
   ·cases ho
 gl:=h.gl
 rt:=h.rt
theorem room_step(r n:Nat):Step n c H w c (H++room r) w:=
 ⟨⟨rfl,Nat.le_refl _⟩,rfl,rfl,Nat.le_refl _,rfl,fun _ h=>h,fun _ h=>.inl h,fun _ _ _=>rfl,fun _ _ _ _ h=>h,fun _ h=>.inr (owned_room.1 h)⟩
end
end Go.AL
namespace Go.AL
open Go Go.Proofs Go.Shelf Go.RowKit Go.Lib Go.Sort
structure SortOK(P:Program)(f:FuncId)(sz:Nat):Prop where
 pos:0<sz
 full:∀ (α:Type) [Inhabited α] (enc:α→List Value) (_:∀ x,(enc x).length=sz) (_:∀ x,∀ v∈enc x,v.oneCell'=true) (cf:α→α→Int) (_:SWO (ltOf cf)) (g blk off cap:Nat) (d:Array α) (w:World)
  (_:∀ args w,(callFunc g args).run P w = .ok (.enter g args) w) (_:CmpLays P g #[] enc sz cf blk off d.size w) (_:HoldsK enc sz w blk off d) (_:blk<w.heap.size) (_:d.size<4611686018427387904),
  Calls P f #[.slice (some ⟨blk,off,none⟩) d.size cap,.func (.func g) #[] #[]] w fun e w'=>e = .returned (.tuple #[])∧∃ d' n os,PermIn 0 d.size d d'∧SortedIn (ltOf cf) 0 d.size d'∧w'=sortWorldK enc sz w blk off n d' os
 none:∀ (p:Option Addr) (cap:Nat) (fv:Value) (w:World),Calls P f #[.slice p 0 cap,fv] w fun e w'=>e = .returned (.tuple #[])∧w'=w
theorem SortOK.of{P:Program}{ρ:Ren}(L:SlLaysF0.n6 P ρ){k:Nat}(hk:0<k)(aE:∀ w,(isAgg (ρ.t 24)).run P w = .ok true w)(zE:∀ w,(Go.sizeOf (ρ.t 24)).run P w = .ok k w):SortOK P (ρ.f 6) k where
 pos:=hk
 full α _ enc h1 h2 cf hO g blk off cap d w eg hc hH hb hs:=AnyQ.slices_SortFunc L k aE zE enc h1 h2 cf hO g #[] blk off cap d w eg hc hH hb hs
 none:=AnyF.slices_SortFunc_none L
section
variable{P:Program}{G:GT}{c:Ctx}{H:Heap}{w:World}{α:Type}
structure El(c:Ctx)(w:World)(fc:α→List D)(l:List α) where
 vs:List Value
 a:α
 mem:a∈l
 cells:Cells (c.data c.F) w vs (fc a)
theorem sortW_kept{β:Type}[Inhabited β](enc:β→List Value)(k blk off m:Nat)(dk:Array β)(os:Array Obj){b:Nat}(hb:b<w.heap.size)(hn:b≠blk):(sortWorldK enc k w blk off m dk os).heap[b]? = w.heap[b]? := by
 simp only[sortWorldK,grow,putRowK,putRow,mapBlock,Go.Sort.ahead]
 rw[Array.getElem?_append_left (by simpa using hb),Array.getElem?_modify,if_neg (Ne.symm hn)]
theorem data_other(h:HOK G c H w){W:World}(hs:w.heap.size≤W.heap.size)(hk:∀ b,c.F b→W.heap[b]? = w.heap[b]?):HOK G (c.data c.F) [] W where
 inj v v' L L' h1:=by obtain⟨o,ho,_⟩:=h1;simp at ho
 lt b hb:=by obtain⟨v,L,⟨o,ho,_⟩,_⟩:=hb;simp at ho
 nF b hb:=by obtain⟨v,L,⟨o,ho,_⟩,_⟩:=hb;simp at ho
 Flt b hb:=Nat.lt_of_lt_of_le (h.Flt b hb) hs
 out _ _ _:=rfl
 fut _ _ _ _ _:=rfl
 ob v o ho:=by simp at ho
 gl g cs hg:=by
  obtain⟨h1,h2⟩:=(data_ok h).gl g cs hg
  exact⟨h1,Rep.carry (c:=c.data c.F) (c':=c.data c.F) (fun _ _ _ h=>h) (fun _ h=>h) (fun b o hF=>cell?_of_heap (hk b hF)) h2⟩
 rt:=h.rt
theorem world_ext{W w':World}(h:Grew W w'):∃ q os',w'=grow (W.drewN q) os':=by
 obtain⟨⟨h1,h2⟩,h3,h4,h5,h6⟩:=h
 refine⟨w'.drawn-W.drawn,w'.heap.extract W.heap.size w'.heap.size,?_⟩
 cases w' with
 | mk hp tp dr o ou=>
  cases W with
  | mk hp' tp' dr' o' ou'=>
   simp only at *
   subst h1 h3 h4
   simp only[grow,World.drewN]
   congr 1
   ·apply Array.ext_getElem?
    intro i
    rcases Nat.lt_or_ge i hp'.size with hi|hi
    ·rw[Array.getElem?_append_left hi,h6 i hi]
    ·rw[Array.getElem?_append_right hi,Array.getElem?_extract]
     split
     ·congr 1;omega
     ·exact Array.getElem?_eq_none (by omega)
   ·omega
theorem RepL.two{c:Ctx}{w:World}{vs:List Value}{d e:D}(h:RepL c w vs [d,e]):∃ u v,vs = [u,v]∧Rep c w u d∧Rep c w v e:=by
 cases h with
 | cons h1 h=>cases h with
  | cons h2 h=>cases h;exact⟨_,_,rfl,h1,h2⟩
theorem sort_none{f g:FuncId}{sz:Nat}(hS:SortOK P f sz){x:D}{R:D→Heap→Prop}(k:R (.tup []) H):CallR P G f [.emp,x] H R:=by
 intro c w vs hok hr
 obtain⟨u,v,rfl,h1,h2⟩:=RepL.two hr
 cases h1
 refine(hS.none none 0 v w).mono ?_
 rintro e w' ⟨rfl,rfl⟩
 exact⟨_,c,_,H,rfl,k,Nat.le_refl _,hok,.tup [] [] rfl (fun i v d hv=>by simp at hv),Step.refl _ _ _ _⟩
theorem sort_ok{f g:FuncId}{sz:Nat}(hS:SortOK P f sz)(hg:entersB P g=true)(fc:α→List D)(l:List α)(hl:∀ a∈l,(fc a).length=sz)(hcl:∀ a∈l,closedL (fc a)=true)(h0:0<l.length)(h62:l.length<4611686018427387904)
  (cf:α→α→Int) (irr:∀ x∈l,¬ cf x x<0) (tr:∀ x∈l,∀ y∈l,∀ z∈l,cf x y<0→cf y z<0→cf x z<0) (nt:∀ x∈l,∀ y∈l,∀ z∈l,¬ cf x y<0→¬ cf y z<0→¬ cf x z<0)
  (hc:∀ x∈l,∀ y∈l,CallR P G g [.agg (fc x),.agg (fc y)] [] fun d _=>d = .i (cf x y)) {v gen:Nat} {t:TypeId} (hv:H[v]? = some (.row t gen (l.map fc).flatten)) {R:D→Heap→Prop}
  (k:∀ l':List α,l'.Perm l→l'.Pairwise (fun x y=>¬ cf y x<0)→R (.tup []) (H.set v (.row t gen (l'.map fc).flatten))) :
  CallR P G f [.osl v gen sz 0 l.length,.fn (.func g) [] []] H R:=by
 have hpos:=hS.pos
 intro c w vs hok hr
 obtain⟨u,v1,rfl,h1,h2⟩:=RepL.two hr
 clear hr
 have hn:l.length=l.length:=rfl
 revert hn
 generalize hN:l.length=N at h1
 intro hn
 have hv1:v1 = .func (.func g) #[] #[]:=by
  cases h2 with
  | fn _ fs cs df dc hl1 hl2 _ _=>
   have e1:fs = []:=List.length_eq_zero_iff.1 hl1
   have e2:cs = []:=List.length_eq_zero_iff.1 hl2
   subst e1;subst e2;rfl
 subst hv1
 clear h2
 cases h1 with
 | oslz=>omega
 | osl _ _ _ _ _ cap L hι hvirt hcap hmax htop=>
 have hob:=hok.ob v _ hv
 simp only[Ob.gen]at hob
 rw[hι]at hob
 simp only[ObOK,hvirt]at hob
 obtain⟨arr,harr,htp,hlen,hcells⟩:=hob
 have hfl:(l.map fc).flatten.length=N*sz:=by
  rw[flatten_len sz _ (by simpa using hl),List.length_map,hN]
 rw[hfl]at hlen
 have hown:Owned c H L.b:=⟨v,L,⟨_,hv,rfl,hι⟩,hvirt,rfl⟩
 have hblk:=hok.lt _ hown
 have hmul:∀ i,i<N→L.base+i*sz+sz≤arr.size:=fun i hi=>by
  have:(i+1)*sz≤N*sz:=Nat.mul_le_mul_right _ hi
  rw[Nat.succ_mul]at this
  omega
 let mk:Fin l.length→El c w fc l:=fun i=>{
  vs:=(arr.toList.drop (L.base+i.val*sz)).take sz
  a:=l[i.val]
  mem:=List.getElem_mem _
  cells:=by
   have hi:i.val<N:=by rw[← hN];exact i.isLt
   have hm:=hmul _ hi
   have hla:(fc l[i.val]).length=sz:=hl _ (List.getElem_mem _)
   have hget:∀ r,r<sz→∃ y d,((arr.toList.drop (L.base+i.val*sz)).take sz)[r]? = some y∧(fc l[i.val])[r]? = some d∧y.oneCell'=true∧Rep c w y d:=fun r hr=>by
    have hd:(l.map fc).flatten[i.val*sz+r]? = (fc l[i.val])[r]? := by
     rw[flatten_get sz hpos _ (by simpa using hl),show(i.val*sz+r) / sz=i.val from by rw[Nat.mul_comm,Nat.mul_add_div hpos,Nat.div_eq_of_lt hr];rfl,show(i.val*sz+r) % sz=r from by rw[Nat.mul_comm,Nat.mul_add_mod,Nat.mod_eq_of_lt hr]]
     simp
    have hx:(fc l[i.val])[r]? = some (fc l[i.val])[r]:=List.getElem?_eq_getElem (by omega)
    obtain⟨y,hy1,hy2,hy3⟩:=hcells (i.val*sz+r) _ (hd.trans hx)
    refine⟨y,_,?_,hx,hy2,hy3⟩
    rw[List.getElem?_take,if_pos hr,List.getElem?_drop,Array.getElem?_toList,← hy1]
    congr 1;omega
   have hlv:((arr.toList.drop (L.base+i.val*sz)).take sz).length=sz:=by simp;omega
   refine⟨by rw[hlv,hla],fun y hy=>?_,fun r y d hy hd=>?_⟩
   ·obtain⟨r,hr⟩:=List.mem_iff_getElem?.1 hy
    have hr':r<sz:=by have:=(List.getElem?_eq_some_iff.1 hr).1;omega
    obtain⟨y',d,e1,_,e3,_⟩:=hget r hr'
    rw[hr]at e1;cases e1;exact e3
   ·have hr':r<sz:=by have:=(List.getElem?_eq_some_iff.1 hy).1;omega
    obtain⟨y',d',e1,e2,_,e4⟩:=hget r hr'
    rw[hy]at e1;cases e1
    rw[hd]at e2;cases e2
    exact Rep.closed (c:=c) (c':=c.data c.F) (fun b hb=>hb) e4 (closedL_get (hcl _ (List.getElem_mem _)) hd) }
 haveI:Inhabited (El c w fc l):=⟨mk ⟨0,h0⟩⟩
 let enc:El c w fc l→List Value:=fun e=>e.vs
 let d:Array (El c w fc l):=Array.ofFn mk
 have hds:d.size=N:=by simp[d,hN]
 have hsz:∀ x:El c w fc l,(enc x).length=sz:=fun x=>by rw[show enc x=x.vs from rfl,x.cells.len,hl _ x.mem]
 have hone:∀ x:El c w fc l,∀ y∈enc x,y.oneCell'=true:=fun x y hy=>x.cells.one y hy
 have hda:d.toList.map (fun e=>e.a)=l:=by
  apply List.ext_getElem?
  intro i
  simp only[d,List.getElem?_map,Array.getElem?_toList,Array.getElem?_ofFn]
  by_cases hi:i<l.length
  ·simp[hi,mk]
  ·simp[hi]
 have hO:SWO (ltOf fun x y:El c w fc l=>cf x.a y.a):=by
  refine⟨fun x=>?_,fun x y z=>?_,fun x y z=>?_⟩
  ·simpa[ltOf]using irr x.a x.mem
  ·simpa[ltOf]using tr x.a x.mem y.a y.mem z.a z.mem
  ·simpa[ltOf]using nt x.a x.mem y.a y.mem z.a z.mem
 have hcell:∀ j,w.cell? ⟨L.b,j,none⟩=arr[j]? := fun j=>by simp[World.cell?,harr]
 have hH:HoldsK enc sz w L.b (L.base+0*sz) d:=by
  intro j hj
  have hj':j<N*sz:=by simpa[hds]using hj
  have hq:j / sz<N:=Nat.div_lt_of_lt_mul (by rw[Nat.mul_comm];exact hj')
  have hr:j % sz<sz:=Nat.mod_lt _ hpos
  have hm:=hmul _ hq
  have hjj:j / sz*sz+j % sz=j:=by rw[Nat.mul_comm];exact Nat.div_add_mod j sz
  rw[get_flatK _ _ _ _ (by rw[hds];exact hj')]
  refine⟨?_,?_⟩
  ·have e1:d[j / sz]! = mk ⟨j / sz,by omega⟩:=by
    rw[getElem!_pos d (j / sz) (by omega)];simp[d]
   rw[hcell,e1]
   show _=some (id ((arr.toList.drop (L.base+j / sz*sz)).take sz)[j % sz]!)
   rw[getElem!_pos _ (j % sz) (by simp;omega),List.getElem_take,List.getElem_drop,Array.getElem_toList,Array.getElem?_eq_getElem (by omega)]
   simp only[id]
   congr 2;omega
  ·simp[World.frozen?,harr]
 have hcmp:CmpLays P g #[] enc sz (fun x y:El c w fc l=>cf x.a y.a) L.b (L.base+0*sz) d.size w:=by
  intro m os dk _ x y
  have hW:∀ b,c.F b→(sortWorldK enc sz w L.b (L.base+0*sz) m dk os).heap[b]? = w.heap[b]? := fun b hb=>sortW_kept _ _ _ _ _ _ _ (hok.Flt b hb) fun e=>hok.nF _ hown (e▸hb)
  have hok':HOK G (c.data c.F) [] (sortWorldK enc sz w L.b (L.base+0*sz) m dk os):=data_other hok (size_sortWorldK_c _ _ _ _ _ _ _ _) hW
  have hrep:∀ x:El c w fc l,Rep (c.data c.F) (sortWorldK enc sz w L.b (L.base+0*sz) m dk os) (.agg (enc x).toArray) (.agg (fc x.a)):=fun x=>
   .agg _ _ x.cells.len x.cells.one fun i y d hy hd=>Rep.carry (c:=c.data c.F) (c':=c.data c.F) (fun _ _ _ h=>h) (fun _ h=>h) (fun b o hF=>cell?_of_heap (hW b hF)) (x.cells.rep i y d hy hd)
  have:=hc x.a x.mem y.a y.mem _ _ _ hok' (.cons (hrep x) (.cons (hrep y) .nil))
  rw[show(#[Value.agg (enc x).toArray,Value.agg (enc y).toArray] ++ #[]:Array Value) = [Value.agg (enc x).toArray,Value.agg (enc y).toArray].toArray by simp]
  refine Calls.mono this ?_
  rintro e w' ⟨u,c',d',H',he,rfl,_,_,hu,hst⟩
  cases hu
  exact⟨he,world_ext (grew_of_step hst)⟩
 have eg:∀ args w,(callFunc g args).run P w = .ok (.enter g args) w:=run_enters hg
 have hcall:=hS.full (El c w fc l) enc hsz hone _ hO g L.b (L.base+0*sz) cap d w eg hcmp hH hblk (by omega)
 rw[hds]at hcall
 refine hcall.mono ?_
 rintro e w' ⟨rfl,d',n,os,⟨hp1,_,hp2⟩,hsort,rfl⟩
 have hd':d'.size=N:=by rw[hp1,hds]
 have hperm:(d'.toList.map fun e=>e.a).Perm l:=by
  refine List.Perm.trans (List.Perm.map _ ?_) (List.Perm.of_eq hda)
  have e1:(d'.extract 0 N).toList=d'.toList:=by rw[← hd'];simp
  have e2:(d.extract 0 N).toList=d.toList:=by rw[← hds];simp
  rw[e1,e2]at hp2
  exact hp2
 have hpw:(d'.toList.map fun e=>e.a).Pairwise fun x y=>¬ cf y x<0:=by
  rw[List.pairwise_map,List.pairwise_iff_getElem]
  intro i j hi hj hij
  have hi':i<d'.size:=by simpa using hi
  have hj':j<d'.size:=by simpa using hj
  have:=hsort i j (Nat.zero_le _) hij (by omega)
  rw[getElem!_pos d' j hj',getElem!_pos d' i hi']at this
  simpa[ltOf]using this
 have hlen':((d'.toList.map fun e=>e.a).map fc).flatten.length=N*sz:=by
  rw[flatten_len sz _ (fun x hx=>?_)]
  ·simp[hd']
  ·simp only[List.mem_map]at hx
   obtain⟨a,⟨e,_,rfl⟩,rfl⟩:=hx
   exact hl _ e.mem
 have hF:(flatK enc sz d').size=N*sz:=by rw[size_flatK,hd']
 have hF2:N*sz≤arr.size-L.base:=by omega
 obtain⟨w1,w2⟩:=write_row hok hv hι hvirt harr (putCells id (L.base+0*sz) (flatK enc sz d') arr) (by simp[putCells]) htp ((d'.toList.map fun e=>e.a).map fc).flatten (by rw[hlen'];exact hlen) (fun i dd hi=>by
  have hi':i<N*sz:=by rw[← hlen'];exact(List.getElem?_eq_some_iff.1 hi).1
  have hq:i / sz<N:=Nat.div_lt_of_lt_mul (by rw[Nat.mul_comm];exact hi')
  have hr:i % sz<sz:=Nat.mod_lt _ hpos
  have hx:=d'[i / sz].cells
  rw[flatten_get sz hpos _ (fun x hx=>by
   simp only[List.mem_map]at hx
   obtain⟨a,⟨e,_,rfl⟩,rfl⟩:=hx
   exact hl _ e.mem)]at hi
  have e1:(List.map fc (List.map (fun e=>e.a) d'.toList))[i / sz]? = some (fc d'[i / sz].a):=by
   simp only[List.getElem?_map,Array.getElem?_toList]
   rw[Array.getElem?_eq_getElem (by omega)];rfl
  rw[e1,Option.bind_some]at hi
  have hvl:(d'[i / sz].vs).length=sz:=hsz d'[i / sz]
  have e2:(d'[i / sz].vs)[i % sz]? = some (d'[i / sz].vs)[i % sz]:=List.getElem?_eq_getElem (by omega)
  refine⟨(d'[i / sz].vs)[i % sz],?_,hx.one _ (List.getElem_mem _),Rep.closed (c:=c.data c.F) (c':=c) (fun b hb=>hb) (hx.rep _ _ _ e2 hi) (closedL_get (hcl _ d'[i / sz].mem) hi)⟩
  rw[putCells,Array.getElem?_mapIdx,Array.getElem?_eq_getElem (by omega),Option.map_some,if_pos ⟨by omega,by rw[hF];omega⟩]
  rw[show L.base+i-(L.base+0*sz)=i by omega,get_flatK _ _ _ _ (by rw[hd'];exact hi'),getElem!_pos d' (i / sz) (by omega)]
  show some (id (d'[i / sz].vs)[i % sz]!)=_
  rw[getElem!_pos _ (i % sz) (by omega)];rfl)
 have hg2:Grew (w.setRow L.b (putCells id (L.base+0*sz) (flatK enc sz d') arr)) (sortWorldK enc sz w L.b (L.base+0*sz) n d' os):=by
  refine⟨⟨rfl,Nat.le_add_right _ _⟩,rfl,rfl,?_,fun b hb=>?_⟩
  ·simp[World.setRow,sortWorldK,grow,putRowK,putRow,mapBlock,Go.Sort.ahead]
  ·have hb':b<w.heap.size:=by simpa[World.setRow]using hb
   by_cases hbb:b=L.b
   ·subst hbb
    rw[setRow_heap w L.b arr _ t _ harr]
    simp only[sortWorldK,grow,putRowK,putRow,mapBlock,Go.Sort.ahead]
    rw[Array.getElem?_append_left (by simpa using hb'),Array.getElem?_modify,if_pos rfl,harr]
    rfl
   ·rw[sortW_kept _ _ _ _ _ _ _ hb' hbb]
    simp only[World.setRow,Array.getElem?_modify]
    rw[if_neg (Ne.symm hbb)]
 exact⟨_,c,_,_,rfl,k _ hperm hpw,by simp,w1.grew hg2,.tup [] [] rfl (fun i v d hv=>by simp at hv),w2.trans (step_grew _ hg2) (Nat.le_refl _)⟩
end
end Go.AL
namespace Go.AL
open Go Go.Proofs Go.Shelf Go.RowKit Go.Lib Go.Sort
structure SortIOK(P:Program)(f:FuncId):Prop where
 full:∀ (blk off cap:Nat) (zs:List Int) (w:World) (_:Holds (Value.int .i64) w blk off zs.toArray) (_:blk<w.heap.size) (_:zs.length<4611686018427387904),
  Calls P f #[.slice (some ⟨blk,off,none⟩) zs.length cap] w fun e w'=>e = .returned (.tuple #[])∧∃ n os,w'=grow (putRow (Value.int .i64) (Go.Sort.ahead w n) blk off (zs.mergeSort fun x y=>decide (x≤y)).toArray) os
section
variable{P:Program}{G:GT}{c:Ctx}{H:Heap}{w:World}
theorem sorti_ok{f:FuncId}(hS:SortIOK P f)(l:List Int)(h0:0<l.length)(h62:l.length<4611686018427387904){v gen:Nat}{t:TypeId}(hv:H[v]? = some (.row t gen (l.map fun n=>D.i n))){R:D→Heap→Prop}
  (k:R (.tup []) (H.set v (.row t gen ((l.mergeSort fun x y=>decide (x≤y)).map fun n=>D.i n)))):CallR P G f [.osl v gen 1 0 l.length] H R:=by
 intro c w vs hok hr
 cases hr with
 | @cons u _ _ _ h1 hr=>
 cases hr
 have hn:l.length=l.length:=rfl
 revert hn
 generalize hN:l.length=N at h1
 intro hn
 cases h1 with
 | oslz=>omega
 | osl _ _ _ _ _ cap L hι hvirt hcap hmax htop=>
 have hob:=hok.ob v _ hv
 simp only[Ob.gen]at hob
 rw[hι]at hob
 simp only[ObOK,hvirt]at hob
 obtain⟨arr,harr,htp,hlen,hcells⟩:=hob
 rw[List.length_map,hN]at hlen
 have hown:Owned c H L.b:=⟨v,L,⟨_,hv,rfl,hι⟩,hvirt,rfl⟩
 have hblk:=hok.lt _ hown
 have hcell:∀ j,w.cell? ⟨L.b,j,none⟩=arr[j]? := fun j=>by simp[World.cell?,harr]
 have hH:Holds (Value.int .i64) w L.b (L.base+0*1) l.toArray:=by
  intro j hj
  have hj':j<l.length:=by simpa using hj
  obtain⟨y,h1,h2,h3⟩:=hcells j (.i l[j]) (by simp[hj'])
  cases h3
  refine⟨?_,by simp[World.frozen?,harr]⟩
  rw[hcell,show L.base+0*1+j=L.base+j by omega,h1]
  simp[hj']
 have hcall:=hS.full L.b (L.base+0*1) cap l w hH hblk h62
 rw[hN]at hcall
 refine hcall.mono ?_
 rintro e w' ⟨rfl,n,os,rfl⟩
 generalize hl':(l.mergeSort fun x y=>decide (x≤y))=l' at k ⊢
 have hlen':l'.length=N:=by rw[← hl',List.length_mergeSort,hN]
 obtain⟨w1,w2⟩:=write_row hok hv hι hvirt harr (putCells (Value.int .i64) (L.base+0*1) l'.toArray arr) (by simp[putCells]) htp (l'.map fun n=>D.i n) (by rw[List.length_map,hlen'];exact hlen) (fun i dd hi=>by
  rw[List.getElem?_map]at hi
  obtain⟨a,ha,rfl⟩:=Option.map_eq_some_iff.1 hi
  have hi':i<l'.length:=(List.getElem?_eq_some_iff.1 ha).1
  refine⟨.int .i64 a,?_,rfl,.val _⟩
  rw[putCells,Array.getElem?_mapIdx,Array.getElem?_eq_getElem (by omega),Option.map_some,if_pos ⟨by omega,by simp;omega⟩]
  rw[show L.base+i-(L.base+0*1)=i by omega,getElem!_pos l'.toArray i (by simpa using hi')]
  have:=(List.getElem?_eq_some_iff.1 ha).2
  simp[this])
 have hg2:Grew (w.setRow L.b (putCells (Value.int .i64) (L.base+0*1) l'.toArray arr)) (grow (putRow (Value.int .i64) (Go.Sort.ahead w n) L.b (L.base+0*1) l'.toArray) os):=by
  refine⟨⟨rfl,Nat.le_add_right _ _⟩,rfl,rfl,?_,fun b hb=>?_⟩
  ·simp[World.setRow,grow,putRow,mapBlock,Go.Sort.ahead]
  ·have hb':b<w.heap.size:=by simpa[World.setRow]using hb
   simp only[grow,putRow,mapBlock,Go.Sort.ahead]
   rw[Array.getElem?_append_left (by simpa using hb'),Array.getElem?_modify]
   by_cases hbb:L.b=b
   ·subst hbb
    rw[setRow_heap w L.b arr _ t _ harr,if_pos rfl,harr]
    rfl
   ·simp only[World.setRow,Array.getElem?_modify]
    rw[if_neg hbb,if_neg hbb]
 exact⟨_,c,_,_,rfl,k,by simp,w1.grew hg2,.tup [] [] rfl (fun i v d hv=>by simp at hv),w2.trans (step_grew _ hg2) (Nat.le_refl _)⟩
end
end Go.AL
namespace Go.AL
open Go
def Out.ex:Out→Exit
 | .norm _=>.normal
 | .exit id _=>.exit id
 | .ret _=>.ret
def ordOf(A:Array Oper):List (List Nat):=A.toList.foldl (init:=[]) fun acc o=>
 acc ++ [dedup ((o.after.toList.filter fun e=>Region.binds .any e).flatMap fun e=>e.on::acc.getD e.on [])]
def prsOf(l:List IEnt)(ord:List (List Nat)):List (Nat×Nat):=(List.range l.length).flatMap fun i=>(List.range i).filterMap fun k=>
 if (ord.getD i []).contains k then none else match l[k]?,l[i]? with
  | some a,some b=>if stillApart a.op b.op then none else some (k,i)
  | _,_=>none
def lastFns:List FuncId:=[227]
def isLast:IOp→Bool
 | .call f _=>lastFns.contains f
 | .callN f _=>lastFns.contains f
 | _=>false
def lastOK(l:List IEnt)(ord:List (List Nat))(n:Nat):Bool:=n<l.length&&(List.range l.length).all fun i=>decide (i<n)||(List.range i).all fun k=>(ord.getD i []).contains k
def drawOf(prs:List (Nat×Nat))(l:List IEnt)(ord:List (List Nat)):IR:=
 let n:=l.findIdx fun e=>isLast e.op
 if lastOK l ord n then .drawL prs (l.take n) (l.drop n)else .draw prs l
def rcs:Code→List (Array Tmp×Code×Code)
 | .seq a b=>rcs a++rcs b
 | .cond _ a b=>rcs a++rcs b
 | .block _ a=>rcs a
 | .loop a=>rcs a
 | .rangeFunc _ ps a b=>(ps,a,b)::(rcs a++rcs b)
 | _=>[]
def cC(P:Program)(G:GT)(N:Nat)(rf:Nat):List (List Nat)→Code→Option (IR×List (List Nat))
 | hs,.skip=>some (.skip,hs)
 | hs,.region _ ops false=>match compileOpers P G N ops ops.toList with
  | some l=>some (.ops l,hs)
  | none=>some (.bad,hs)
 | hs,.region _ ops true=>match compileOpers P G N ops ops.toList with
  | some l=>
   let ord:=ordOf ops
   let prs:=prsOf l ord
   if edgesOK ops&&ordOK ops ord&&pairsOK l ord prs then some (drawOf prs l ord,hs)else some (.bad,hs)
  | none=>some (.bad,hs)
 | hs,.seq a b=>match cC P G N rf hs a with
  | some (x,hs1)=>match cC P G N (rf+(rcs a).length) hs1 b with
   | some (y,hs2)=>some (.seq x y,hs2)
   | none=>none
  | none=>none
 | hs,.cond c a b=>match cX G c with
  | some x=>match cC P G N rf hs a with
   | some (y,hs1)=>match cC P G N (rf+(rcs a).length) hs1 b with
    | some (z,hs2)=>some (.cond x y z,hs2)
    | none=>none
   | none=>none
  | none=>some (.bad,hs)
 | hs,.block id a=>match hs with
  | l::hs=>match cC P G N rf hs a with
   | some (x,hs1)=>some (.block id l x,hs1)
   | none=>none
  | []=>none
 | hs,.loop a=>match hs with
  | l::hs=>match cC P G N rf hs a with
   | some (x,hs1)=>some (.loop l x,hs1)
   | none=>none
  | []=>none
 | hs,.rangeFunc g _ _ _=>match cX G g,hs with
  | some x,l::hs=>some (.rangeF rf l x,hs)
  | _,_=>some (.bad,hs)
 | hs,.exit id=>some (.exit id,hs)
 | hs,.ret=>some (.ret,hs)
 | hs,_=>some (.bad,hs)
inductive CRel(P:Program)(G:GT)(N:Nat):IR→Code→Prop
 | skip:CRel P G N .skip .skip
 | ops {l id A} (h:compileOpers P G N A A.toList=some l):CRel P G N (.ops l) (.region id A false)
 | draw {prs l id A} (ord:List (List Nat)) (h:compileOpers P G N A A.toList=some l) (he:edgesOK A=true) (ho:ordOK A ord=true) (hp:pairsOK l ord prs=true):CRel P G N (.draw prs l) (.region id A true)
 | drawL {prs l es id A} (ord:List (List Nat)) (h:compileOpers P G N A A.toList=some (l++es)) (he:edgesOK A=true) (ho:ordOK A ord=true) (hp:pairsOK (l++es) ord prs=true) (hla:∀ i,l.length≤i→i<(l++es).length→∀ k,k<i→k∈ord.getD i []):CRel P G N (.drawL prs l es) (.region id A true)
 | seq {a b x y} (h1:CRel P G N x a) (h2:CRel P G N y b):CRel P G N (.seq x y) (.seq a b)
 | cond {c a b x y z} (hc:cX G c=some x) (h1:CRel P G N y a) (h2:CRel P G N z b):CRel P G N (.cond x y z) (.cond c a b)
 | block {id l a x} (h:CRel P G N x a):CRel P G N (.block id l x) (.block id a)
 | loop {l a x} (h:CRel P G N x a):CRel P G N (.loop l x) (.loop a)
 | rangeF {rf l x g ps ac bc} (hx:cX G g=some x) (h:G.rt rf=some (N,ps,ac,bc)):CRel P G N (.rangeF rf l x) (.rangeFunc g ps ac bc)
 | exit {id}:CRel P G N (.exit id) (.exit id)
 | ret:CRel P G N .ret .ret
 | bad {c}:CRel P G N .bad c
def RcOK(G:GT)(N rf:Nat)(code:Code):Prop:=∀ (i:Nat) (x:Array Tmp×Code×Code),(rcs code)[i]? = some x→G.rt (rf+i)=some (N,x)
theorem RcOK.left{G:GT}{N rf:Nat}{a b:Code}{l:List (Array Tmp×Code×Code)}(hl:l=rcs a++rcs b)(h:∀ (i:Nat) (x:Array Tmp×Code×Code),l[i]? = some x→G.rt (rf+i)=some (N,x)):RcOK G N rf a∧RcOK G N (rf+(rcs a).length) b:=by
 subst hl
 refine⟨fun i x hx=>h i x ?_,fun i x hx=>?_⟩
 ·rw[List.getElem?_append_left (List.getElem?_eq_some_iff.1 hx).1];exact hx
 ·rw[Nat.add_assoc]
  exact h _ x (by rw[List.getElem?_append_right (by omega)];simpa using hx)
theorem cC_rel{P:Program}{G:GT}{N:Nat}:∀ {code:Code} {rf:Nat} {hs hs':List (List Nat)} {ir:IR},RcOK G N rf code→cC P G N rf hs code=some (ir,hs')→CRel P G N ir code:=by
 intro code
 induction code with
 | skip=>intro rf hs hs' ir hR h;simp only[cC]at h;cases h;exact .skip
 | region id A draw=>
  intro rf hs hs' ir hR h
  cases draw
  ·simp only[cC]at h
   split at h
   ·rename_i l hl;cases h;exact .ops hl
   ·cases h;exact .bad
  ·simp only[cC]at h
   split at h
   ·rename_i l hl
    split at h
    ·rename_i hc
     cases h
     simp only[Bool.and_eq_true]at hc
     unfold drawOf
     dsimp only
     split
     ·rename_i hL
      unfold lastOK at hL
      simp only[Bool.and_eq_true,Bool.or_eq_true,decide_eq_true_eq,List.all_eq_true,List.mem_range,List.contains_iff_mem]at hL
      refine .drawL _ (by rw[List.take_append_drop];exact hl) hc.1.1 hc.1.2 (by rw[List.take_append_drop];exact hc.2) fun i hi hi2 k hk=>?_
      rw[List.take_append_drop]at hi2
      rw[List.length_take]at hi
      rcases hL.2 i hi2 with h|h
      ·omega
      ·exact h k hk
     ·exact .draw _ hl hc.1.1 hc.1.2 hc.2
    ·cases h;exact .bad
   ·cases h;exact .bad
 | seq a b iha ihb=>
  intro rf hs hs' ir hR h
  obtain⟨hRa,hRb⟩:=RcOK.left rfl hR
  simp only[cC]at h
  split at h
  ·rename_i x hs1 ha
   split at h
   ·rename_i y hs2 hb;cases h;exact .seq (iha hRa ha) (ihb hRb hb)
   ·cases h
  ·cases h
 | cond c a b iha ihb=>
  intro rf hs hs' ir hR h
  obtain⟨hRa,hRb⟩:=RcOK.left rfl hR
  simp only[cC]at h
  split at h
  ·rename_i x hx
   split at h
   ·rename_i y hs1 ha
    split at h
    ·rename_i z hs2 hb;cases h;exact .cond hx (iha hRa ha) (ihb hRb hb)
    ·cases h
   ·cases h
  ·cases h;exact .bad
 | block id a iha=>
  intro rf hs hs' ir hR h
  simp only[cC]at h
  split at h
  ·split at h
   ·rename_i x hs1 ha;cases h;exact .block (iha hR ha)
   ·cases h
  ·cases h
 | loop a iha=>
  intro rf hs hs' ir hR h
  simp only[cC]at h
  split at h
  ·split at h
   ·rename_i x hs1 ha;cases h;exact .loop (iha hR ha)
   ·cases h
  ·cases h
 | rangeFunc g ps a b iha ihb=>
  intro rf hs hs' ir hR h
  simp only[cC]at h
  split at h
  ·rename_i x l hs1 hx
   cases h
   exact .rangeF hx (hR 0 _ rfl)
  ·cases h;exact .bad
 | exit id=>intro rf hs hs' ir hR h;simp only[cC]at h;cases h;exact .exit
 | ret=>intro rf hs hs' ir hR h;simp only[cC]at h;cases h;exact .ret
 | _=>intro rf hs hs' ir hR h;simp only[cC]at h;cases h;exact .bad
def cR(P:Program):ResultVar→Option ResX
 | .tmp t=>some (.tmp t)
 | .cell a t=>match aggT P t,sizeT P t with
  | some false,some _=>some (.cell1 a)
  | some true,some n=>some (.cellN n a)
  | _,_=>none
def cRs(P:Program):List ResultVar→Option (List ResX)
 | []=>some []
 | x::r=>match cR P x,cRs P r with
  | some a,some l=>some (a::l)
  | _,_=>none
def rtOf(P:Program)(k:Nat):Option (Nat×Array Tmp×Code×Code):=match P.funcs[k / 64]? with
 | some fn=>match fn.body with
  | some code=>(rcs code)[k % 64]?.map fun x=>(fn.ntmps,x)
  | none=>none
 | none=>none
theorem rcOK_of{P:Program}{G:GT}(hG:G.rt=rtOf P){f:Nat}{fn:Func}{code:Code}(hf:P.funcs[f]? = some fn)(hb:fn.body=some code)(hl:(rcs code).length≤64):RcOK G fn.ntmps (64*f) code:=by
 intro i x hx
 have hi:i<64:=Nat.lt_of_lt_of_le (List.getElem?_eq_some_iff.1 hx).1 hl
 rw[hG]
 unfold rtOf
 rw[show(64*f+i) / 64=f by omega,show(64*f+i) % 64=i by omega,hf]
 simp[hb,hx]
structure FnOK(P:Program)(G:GT)(f:FuncId)(fn:FnA):Prop where
 ex:∃ func code hs hs',P.funcs[f]? = some func∧func.body=some code∧entersB P f=true∧(rcs code).length≤64∧cC P G fn.ntmps (64*f) hs code=some (fn.body,hs')∧func.ntmps=fn.ntmps∧cRs P func.results.toList=some fn.results
structure RoundOK(P:Program)(G:GT)(rf:Nat)(R:RoundA):Prop where
 ex:∃ N ps ac bc,G.rt rf=some (N,ps,ac,bc)∧ps.toList=R.params∧(R.params.all fun p=>decide (p<N))=true∧CRel P G N R.a ac∧CRel P G N R.b bc
structure TabOK(P:Program)(G:GT)(T:Tab):Prop where
 rt:G.rt=rtOf P
 fn:∀ f fn,T.fn f=some fn→FnOK P G f fn
 round:∀ rf R,T.round rf=some R→RoundOK P G rf R
 sort:∀ f sz,T.sort f=some sz→SortOK P f sz
 sortI:∀ f,T.sortI f=true→SortIOK P f
def LoopIn(F:Fence)(n:Nat)(P:Program)(c:Code)(Q:Exit→Act→World→Prop)(a:Act)(w:World):Prop:=
 ∀ (b:Frame) (k:List Item) (cs:List Frame),b.roundOf=F.round→F.fn b.fn→F.room (cs.length+1+n) →
  ∃ e a' w',Q e a' w'∧ArrivesIn (Machine.fenced P F) P (lone (b.atR a (.code c :: .inLoop c::k)) cs w) b k cs e a' w'
section
variable{F:Fence}{n:Nat}{P:Program}{Q:Exit→Act→World→Prop}{a:Act}{w:World}
theorem loopIn_of{c:Code}(h:c.wpIn F n P (Exit.then (LoopIn F n P c Q) Q) a w):LoopIn F n P c Q a w:=by
 intro b k cs hro hb hr
 obtain⟨e,a₁,w₁,hq,harr⟩:=h b (.inLoop c::k) cs hro hb hr
 cases e with
 | normal=>
  obtain⟨e₂,a₂,w₂,hq₂,harr₂⟩:=hq b k cs hro hb hr
  exact⟨e₂,a₂,w₂,hq₂,.of_steps (StepsIn.trans harr (.one (fenced_calm hb hr rfl) stepR_inLoop)) harr₂⟩
 | exit id=>exact⟨_,a₁,w₁,hq,.pass (x:=.inLoop c) rfl (fun _ _=>.inl (by simp)) harr⟩
 | goto l=>exact⟨_,a₁,w₁,hq,.pass (x:=.inLoop c) rfl (fun _ _=>.inl (by simp)) harr⟩
 | ret=>exact⟨_,a₁,w₁,hq,.pass (x:=.inLoop c) rfl (fun _ _=>.inl (by simp)) harr⟩
 | panic ch=>exact⟨_,a₁,w₁,hq,.pass (x:=.inLoop c) rfl (fun _ _=>.inl (by simp)) harr⟩
 | outgrown=>exact⟨_,a₁,w₁,hq,.pass (x:=.inLoop c) rfl (fun _ _=>.inl (by simp)) harr⟩
theorem wpIn_loopIn{c:Code}(h:LoopIn F n P c Q a w):(Code.loop c).wpIn F n P Q a w:=by
 intro b k cs hro hb hr
 obtain⟨e,a',w',hq,harr⟩:=h b k cs hro hb hr
 exact⟨e,a',w',hq,.of_steps (.one (fenced_calm hb hr rfl) stepR_loop) harr⟩
end
section
variable{P:Program}{G:GT}{c:Ctx}{w:World}{a:Act}{N:Nat}
theorem app_len(δ:Dl)(H:Heap):H.length≤(δ.app H (Al.last H)).length:=by
 cases δ with
 | no=>exact Nat.le_refl _
 | cells v o xs=>simp only[Dl.app];split<;>simp
 | obj v ob=>simp[Dl.app]
 | new ob=>simp[Dl.app,Al.last]
theorem shedH_len(ks:Keep)(H:Heap):(shedH ks H).length=ks.length:=by simp[shedH]
theorem mok_shed{ks:Keep}{H:Heap}{f:Nat→Nat}:∀ {vs:List Nat} {ds:List Deferred},MOK c vs ds→(∀ v∈vs,∀ L,c.ι v 0=some L→(c.shed ks H).ι (f v) 0=some L)→MOK (c.shed ks H) (vs.map f) ds:=by
 intro vs ds h
 induction h with
 | nil=>intro _;exact .nil
 | cons L h1 h2 _ ih=>intro hf;exact .cons L (hf _ (by simp) L h1) h2 (ih fun v hv=>hf v (by simp[hv]))
theorem topRef_ge{n:Nat}{d:D}{v:Nat}(hv:v∈topRef n d):n≤v:=by
 cases d<;>simp only[topRef]at hv<;>first|(split at hv<;>simp at hv;omega)|(simp at hv)
theorem obRefs_ge{n:Nat}{o:Ob}{v:Nat}(hv:v∈obRefs n o):n≤v:=by
 unfold obRefs at hv
 split at hv
 ·obtain⟨l2,hl2,hvl2⟩:=List.mem_flatten.1 hv
  obtain⟨d,_,rfl⟩:=List.mem_map.1 hl2
  exact topRef_ge hvl2
 ·obtain⟨l2,hl2,hvl2⟩:=List.mem_flatten.1 hv
  obtain⟨d,_,rfl⟩:=List.mem_map.1 hl2
  exact topRef_ge hvl2
 ·cases hv
theorem cut_ok{s:St}(hs:SOK G N c w s a){n:Nat}(hn:n≤s.H.length)(live:List Nat) :
  ∃ c',SOK G N c' w (cut n live s) a∧Step n c s.H w c' (cut n live s).H w∧n≤(cut n live s).H.length:=by
 unfold cut
 split
 ·exact⟨c,⟨hs.hok,env_forget hs.env live,hs.size,hs.marks⟩,Step.refl _ _ _ _,hn⟩
 ·dsimp only
  generalize hK:dedup _=K
  have hmem:∀ v∈K,v∈(((forget live s.env).map fun p=>topRef n p.2).flatten++((s.H.take n).map (obRefs n)).flatten++s.marks.filter (n≤·)).filter (· < s.H.length):=fun v hv=>by
   rw[← hK]at hv;exact mem_dedup hv
  have htop:∀ (d:D) (v:Nat),v∈topRef n d→n≤v:=by
   intro d v hv
   cases d<;>simp only[topRef]at hv<;>first|(split at hv<;>simp at hv;omega)|(simp at hv)
  have hge:∀ v∈K,n≤v:=by
   intro v hv
   have:=(List.mem_filter.1 (hmem v hv)).1
   rcases List.mem_append.1 this with h|h
   ·rcases List.mem_append.1 h with h|h
    ·obtain⟨l,hl,hvl⟩:=List.mem_flatten.1 h
     obtain⟨p,_,rfl⟩:=List.mem_map.1 hl
     exact htop _ _ hvl
    ·obtain⟨l,hl,hvl⟩:=List.mem_flatten.1 h
     obtain⟨o,_,rfl⟩:=List.mem_map.1 hl
     exact obRefs_ge hvl
   ·simpa using (List.mem_filter.1 h).2
  have hkeep:KeepOK (keepOf n K):=keepOf_ok hge (by rw[← hK];exact nodup_dedup _)
  have hst:=shed_step (ks:=keepOf n K) hs.hok (n:=n) keepOf_low
  refine⟨c.shed (keepOf n K) s.H,⟨shed_ok hs.hok hkeep,env_shed hs.hok (env_forget hs.env live),hs.size,?_⟩,hst,?_⟩
  ·refine mok_shed hs.marks fun v hv L hL=>?_
   have hlt:v<s.H.length:=by
    rcases Nat.lt_or_ge v s.H.length with h|h
    ·exact h
    ·rw[hs.hok.out v 0 h]at hL;cases hL
   have:∃ i,rho (keepOf n K) v=some i:=by
    by_cases hvn:v<n
    ·refine⟨v,rho_of hkeep ?_⟩
     unfold keepOf
     rw[List.getElem?_append_left (by simpa using hvn)]
     simp[hvn]
    ·have hvK:v∈K:=by
      rw[← hK]
      refine dedup_mem (List.mem_filter.2 ⟨List.mem_append_right _ (List.mem_filter.2 ⟨hv,by simpa using Nat.not_lt.1 hvn⟩),by simpa using hlt⟩)
     obtain⟨i,hi⟩:=List.mem_iff_getElem?.1 hvK
     refine⟨n+i,rho_of hkeep ?_⟩
     unfold keepOf
     rw[List.getElem?_append_right (by simp)]
     simp[hi]
   obtain⟨i,hi⟩:=this
   rw[hi]
   simp only[Option.getD_some]
   rw[ι_shed hi]
   exact hL
  ·rw[shedH_len];simp[keepOf]
theorem frz_ok{s:St}(hs:SOK G N c w s a)(S:List Nat):∃ c',SOK G N c' w (frz S s) a∧Step s.H.length c s.H w c' (frz S s).H w∧(frz S s).H.length=s.H.length:=by
 refine⟨c.shed (freezeKs s.H S) s.H,⟨shed_ok hs.hok freezeKs_ok,env_shed hs.hok hs.env,hs.size,?_⟩,shed_step hs.hok freezeKs_low,freezeKs_len⟩
 have:=mok_shed (ks:=freezeKs s.H S) (H:=s.H) (f:=id) hs.marks fun v _ L hL=>by
  have hlt:v<s.H.length:=by
   rcases Nat.lt_or_ge v s.H.length with h|h
   ·exact h
   ·rw[hs.hok.out v 0 h]at hL;cases hL
  have hk:=freezeKs_low (S:=S) v hlt
  simp only[Option.map_eq_some_iff]at hk
  obtain⟨p,hp,e⟩:=hk
  simp only[Ctx.shed,id,hp,e]
  exact hL
 simpa[frz]using this
theorem ownRefs_ge{n:Nat}{d:D}{v:Nat}(hv:v∈ownRefs n d):n≤v:=by
 unfold ownRefs at hv
 split at hv
 ·split at hv
  ·simp at hv;omega
  ·simp at hv
 ·obtain⟨l,hl,hvl⟩:=List.mem_flatten.1 hv
  obtain⟨d,_,rfl⟩:=List.mem_map.1 hl
  split at hvl
  ·split at hvl
   ·simp at hvl;omega
   ·simp at hvl
  ·simp at hvl
 ·simp at hv
theorem leave_ok{H:Heap}(hok:HOK G c H w){n:Nat}(hn:n≤H.length)(own:Nat){u:Value}{d:D}(hr:Rep c w u d) :
  ∃ c',HOK G c' (leave own n H d).2 w∧Rep c' w u (leave own n H d).1∧Step n c H w c' (leave own n H d).2 w∧n≤(leave own n H d).2.length:=by
 unfold leave
 split
 ·exact⟨c,hok,hr,Step.refl _ _ _ _,hn⟩
 ·dsimp only
  generalize hK:dedup _=K
  have hge:∀ v∈K,n≤v:=by
   intro v hv
   rw[← hK]at hv
   have:=(List.mem_filter.1 (mem_dedup hv)).1
   rcases List.mem_append.1 this with h|h
   ·split at h
    ·simp at h
    ·exact ownRefs_ge h
    ·simpa using (List.mem_filter.1 (List.mem_of_mem_take h)).2
    ·simpa using (List.mem_filter.1 h).2
   ·obtain⟨l,hl,hvl⟩:=List.mem_flatten.1 h
    obtain⟨o,_,rfl⟩:=List.mem_map.1 hl
    exact obRefs_ge hvl
  have hkeep:KeepOK (keepOf n K):=keepOf_ok hge (by rw[← hK];exact nodup_dedup _)
  exact⟨c.shed (keepOf n K) H,shed_ok hok hkeep,rep_shed hok 40 hr,shed_step hok keepOf_low,by rw[shedH_len];simp[keepOf]⟩
theorem mkEnv_get(args:List D)(k:Nat):(mkEnv args).get k=(args[k]?).getD .any:=by
 have key:∀ (l:List D) (i k:Nat),Env.get ((l.zipIdx i).map fun p=>(p.2,p.1)) k=if k<i then .any else(l[k-i]?).getD .any:=by
  intro l
  induction l with
  | nil=>intro i k;simp[Env.get]
  | cons d l ih=>
   intro i k
   simp only[List.zipIdx_cons,List.map_cons,Env.get_cons]
   split
   ·rename_i e;subst e;simp
   ·rename_i e
    rw[ih (i+1) k]
    by_cases hk:k<i
    ·rw[if_pos (by omega),if_pos hk]
    ·rw[if_neg (by omega),if_neg hk]
     rw[show k-i=(k-(i+1))+1 by omega,List.getElem?_cons_succ]
 have:=key args 0 k
 simpa[mkEnv]using this
theorem env_enter{vs:List Value}{args:List D}(hr:RepL c w vs args)(n:Nat):RepEnv c w (mkEnv args).get { tmps:=vs.toArray++Array.replicate (n-vs.toArray.size) undef,defers:=[] }:=fun k=>by
 rw[mkEnv_get]
 have hl:=hr.length
 cases hk:args[k]? with
 | none=>exact .any _
 | some d=>
  have hlt:k<vs.length:=by rw[hl];exact(List.getElem?_eq_some_iff.1 hk).1
  have hv:vs[k]? = some vs[k]:=by simp[hlt]
  have:=hr.get k vs[k] d hv hk
  simp only[Option.getD_some]
  have e:(vs.toArray++Array.replicate (n-vs.toArray.size) undef).getD k undef=vs[k]:=by
   rw[Array.getD_eq_getD_getElem?,Array.getElem?_append_left (by simpa using hlt)]
   simp[hlt]
  rw[e];exact this
theorem load1_ok{H:Heap}(h:HOK G c H w){t:TypeId}(ha:aggT P t=some false){x d:D}{u:Value}(hr:Rep c w u x)(hk:ld1O x H=some d) :
  ∃ v,(Instr.loadAt t u).run P w = .ok v w∧Rep c w v d∧∃ b o,u = .pointer (some ⟨b,o,none⟩):=by
 unfold ld1O at hk
 split at hk
 ·rename_i v g o
  split at hk
  ·rename_i t' cs hrow
   have hv:=rowAt_some hrow
   obtain⟨b,p,rfl,hc⟩:=cellsAt_ptr h hv hr
   obtain⟨u,hu,_,h2⟩:=run_loadAt1 ha hc (d:=d) (by simpa using hk)
   exact⟨u,hu,h2,b,p,rfl⟩
  ·cases hk
 ·rename_i cs
  obtain⟨b,p,rfl,_,hc⟩:=cellsAt_fptr hr
  obtain⟨u,hu,_,h2⟩:=run_loadAt1 ha hc hk
  exact⟨u,hu,h2,b,p,rfl⟩
 ·cases hk
theorem loadN_ok{H:Heap}(h:HOK G c H w){t:TypeId}{n:Nat}(ha:aggT P t=some true)(hs:sizeT P t=some n){x d:D}{u:Value}(hr:Rep c w u x)(hk:ldNO n x H=some d) :
  ∃ v,(Instr.loadAt t u).run P w = .ok v w∧Rep c w v d∧∃ b o,u = .pointer (some ⟨b,o,none⟩):=by
 unfold ldNO at hk
 split at hk
 ·rename_i v g o
  split at hk
  ·rename_i t' cs hrow
   split at hk
   ·rename_i hle
    cases hk
    have hv:=rowAt_some hrow
    obtain⟨b,p,rfl,hc⟩:=cellsAt_ptr h hv hr
    obtain⟨u,hu,h2⟩:=run_loadAtN (n:=n) ha hs hc (by simp;omega)
    exact⟨u,hu,h2,b,p,rfl⟩
   ·cases hk
  ·cases hk
 ·rename_i cs
  split at hk
  ·rename_i hle
   cases hk
   obtain⟨b,p,rfl,_,hc⟩:=cellsAt_fptr hr
   obtain⟨u,hu,h2⟩:=run_loadAtN (n:=n) ha hs hc hle
   exact⟨u,hu,h2,b,p,rfl⟩
  ·cases hk
 ·cases hk
def resRun(tmps:Array Value):ResultVar→Sem Value
 | .tmp t=>pure (tmps.getD t undef)
 | .cell a t=>do loadVar t (← asAddr (tmps.getD a undef))
theorem resOf_ok{s:St}(hs:SOK G N c w s a){x:ResultVar}{X:ResX}(hx:cR P x=some X){d:D}(hd:resOf s X=some d) :
  ∃ v,(resRun a.tmps x).run P w = .ok v w∧Rep c w v d:=by
 cases x with
 | tmp t=>
  cases hx
  simp only[resOf,Option.some.injEq]at hd
  subst hd
  exact⟨_,rfl,hs.env t⟩
 | cell p t=>
  have hp:=hs.env p
  generalize hu:a.tmps.getD p undef=u at hp
  have key:∀ v,(Instr.loadAt t u).run P w = .ok v w→(∃ b o,u = .pointer (some ⟨b,o,none⟩))→(resRun a.tmps (.cell p t)).run P w = .ok v w:=by
   rintro v h ⟨b,o,rfl⟩
   simpa[Instr.loadAt,Instr.sureAddr,asAddr,resRun,hu]using h
  simp only[cR]at hx
  split at hx
  ·rename_i n hagg hsz
   cases hx
   obtain⟨v,hv,hr,hptr⟩:=load1_ok hs.hok hagg hp hd
   exact⟨v,key v hv hptr,hr⟩
  ·rename_i n hagg hsz
   cases hx
   obtain⟨v,hv,hr,hptr⟩:=loadN_ok hs.hok hagg hsz hp hd
   exact⟨v,key v hv hptr,hr⟩
  ·cases hx
theorem resAll_ok{s:St}(hs:SOK G N c w s a):∀ (l:List ResultVar) {xs:List ResX} {ds:List D},cRs P l=some xs→resAll s xs=some ds →
  ∃ vs:List Value,(l.mapM (resRun a.tmps)).run P w = .ok vs w∧RepL c w vs ds
 | [],xs,ds,h1,h2=>by
  cases h1;cases h2
  exact⟨[],rfl,.nil⟩
 | x::l,xs,ds,h1,h2=>by
  simp only[cRs]at h1
  split at h1
  ·rename_i X xs' hX hxs
   cases h1
   simp only[resAll]at h2
   split at h2
   ·rename_i d ds' hd hds
    cases h2
    obtain⟨v,hv,hr⟩:=resOf_ok hs hX hd
    obtain⟨vs,hvs,hrs⟩:=resAll_ok hs l hxs hds
    exact⟨v::vs,by simp[List.mapM_cons,hv,hvs],.cons hr hrs⟩
   ·cases h2
  ·cases h1
theorem results_ok{s:St}(hs:SOK G N c w s a){func:Func}{fn:FnA}(hx:cRs P func.results.toList=some fn.results){d:D}(hd:AL.results fn s=some d) :
  ∃ v,(Go.results func a.tmps).run P w = .ok v w∧Rep c w v d:=by
 have e:∀ vs:List Value,(func.results.toList.mapM (resRun a.tmps)).run P w = .ok vs w→(Go.results func a.tmps).run P w = .ok (if h:vs.toArray.size=1 then vs.toArray[0]else .tuple vs.toArray) w:=by
  intro vs hvs
  have h1:(func.results.mapM (resRun a.tmps)).run P w = .ok vs.toArray w:=by
   rw[Array.mapM_eq_mapM_toList,Sem.run_map,hvs];rfl
  have h2:Go.results func a.tmps=(do let vs ← func.results.mapM (resRun a.tmps);pure (if h:vs.size=1 then vs[0]else .tuple vs)):=rfl
  rw[h2,Sem.run_bind,h1]
  rfl
 unfold AL.results at hd
 split at hd
 ·rename_i d' hall
  cases hd
  obtain⟨vs,hvs,hr⟩:=resAll_ok hs _ hx hall
  cases hr with
  | cons h t=>
   cases t
   exact⟨_,e _ hvs,h⟩
 ·rename_i ds hne hall
  cases hd
  obtain⟨vs,hvs,hr⟩:=resAll_ok hs _ hx hall
  refine⟨_,e _ hvs,?_⟩
  have hl:vs.toArray.size≠1:=by
   intro h1
   have h2:ds.length=1:=by rw[← hr.length];simpa using h1
   match ds,h2 with
   | [d],_=>exact hne d rfl
  rw[dif_neg hl]
  exact .tup vs ds hr.length hr.get
 ·cases hd
end
end Go.AL
namespace Go.AL
open Go
section
variable{P:Program}{G:GT}{c:Ctx}{H:Heap}{w:World}{env:EnvF}{a:Act}{N:Nat}
theorem drop_obj(h:HOK G c H w){v:Nat}{ob:Ob}(hv:H[v]? = some ob)(ha:ob.alive=true){L:Loc}(hι:c.ι v ob.gen=some L)(hvirt:L.virt=false)
  {w':World} (hos:w'.os=w.os∧w.drawn≤w'.drawn) (htape:w'.tape=w.tape) (hout:w'.output=w.output) (hsize:w'.heap.size=w.heap.size) (hkeep:∀ b,b≠L.b→w'.heap[b]? = w.heap[b]?) :
  HOK G c (H.set v .dead) w'∧Step H.length c H w c (H.set v .dead) w':=by
 have hlt:=(List.getElem?_eq_some_iff.1 hv).1
 have hlies:Lies c H v L:=⟨ob,hv,ha,hι⟩
 have hown:Owned c H L.b:=⟨v,L,hlies,hvirt,rfl⟩
 have hL:∀ u l,Lies c (H.set v .dead) u l→u≠v∧Lies c H u l:=by
  rintro u l ⟨o,ho,hal,hi⟩
  rw[set_get hlt]at ho
  split at ho
  ·cases ho;cases hal
  ·rename_i hne;exact⟨hne,o,ho,hal,hi⟩
 have hOw:∀ b,Owned c (H.set v .dead) b→Owned c H b:=fun b ⟨u,l,hl,r⟩=>⟨u,l,(hL u l hl).2,r⟩
 have hs:Step H.length c H w c (H.set v .dead) w':=
  ⟨hos,htape,hout,by omega,rfl,fun _ h=>h,fun _ h=>.inl h,fun b _ hn=>hkeep b (fun e=>hn (e▸hown)),fun _ _ _ _ h=>h,fun b hb=>.inr (hOw b hb)⟩
 have hr:∀ u d,Rep c w u d→Rep c w' u d:=fun u d hd=>hd.step0 h.toHeapOK hs
 refine⟨{
  inj:=fun u u' l l' h1 h2=>h.inj u u' l l' (hL _ _ h1).2 (hL _ _ h2).2
  lt:=fun b hb=>by rw[hsize];exact h.lt b (hOw b hb)
  nF:=fun b hb=>h.nF b (hOw b hb)
  Flt:=fun b hb=>by rw[hsize];exact h.Flt b hb
  out:=fun u k hu=>h.out u k (by simpa using hu)
  fut:=fun u o k ho hk=>by
   rw[set_get hlt]at ho
   split at ho
   ·cases ho
    rcases hk with hk|⟨hk,_⟩<;>cases hk
   ·exact h.fut u o k ho hk
  ob:=fun u o ho=>by
   rw[set_get hlt]at ho
   split at ho
   ·cases ho;simp[ObOK]
   ·rename_i hne
    refine ObOK.keep (c:=c) (c':=c) rfl hr (fun l hl hv' hd=>hkeep _ fun e=>hne (h.inj u v l L ⟨o,ho,hd,hl⟩ hlies hv' hvirt e)) (h.ob u o ho)
  gl:=fun g cs hg=>let ⟨a,b⟩:=h.gl g cs hg;⟨a,hr _ _ b⟩
  rt:=h.rt },hs⟩
theorem leaves_marks{fn:Func}{tmps:Array Value}{R:Ending→World→Prop}:∀ {ms:List Nat} {ds:List Deferred} {H H1:Heap} {w:World},MOK c ms ds→HOK G c H w→kill ms H=some H1 →
  (∀ w1,HOK G c H1 w1→Step H.length c H w c H1 w1→H1.length=H.length→LeavesIn (FW none) 0 P fn tmps R [] .returning w1)→LeavesInM (FW none) 0 P fn tmps R ds .returning w:=by
 intro ms
 induction ms with
 | nil=>
  intro ds H H1 w hm hok hk k
  cases hm
  cases hk
  exact k w hok (Step.refl _ _ _ _) rfl
 | cons v ms ih=>
  intro ds H H1 w hm hok hk k
  cases hm with
  | @cons _ _ ds L h1 h2 hm=>
   simp only[kill]at hk
   split at hk
   ·rename_i hv
    have hob:=hok.ob v _ hv
    simp only[Ob.gen]at hob
    rw[h1]at hob
    simp only[ObOK]at hob
    have hblk:=hob.resolve_left (by simp[h2])
    have hlt:L.b<w.heap.size:=(Array.getElem?_eq_some_iff.1 hblk).1
    obtain⟨k1,k2⟩:=drop_obj (w':={ w with heap:=w.heap.setIfInBounds L.b (.deferred none) }) hok hv rfl h1 h2 ⟨rfl,Nat.le_refl _⟩ rfl rfl (by simp) (fun b hb=>by rw[Array.getElem?_setIfInBounds_ne (Ne.symm hb)])
    refine⟨by simp,.inl ⟨L.b,{ w with heap:=w.heap.setIfInBounds L.b (.deferred none) },rfl,?_,?_⟩⟩
    ·simp[Instr.takeDeferred,getObj,setObj,Sem.run,hblk]
    ·refine ih hm k1 hk fun w1 q1 q2 q3=>k w1 q1 (k2.trans q2 (by simp)) (by rw[q3];simp)
   ·cases hk
theorem run_yield(hok:HOK G c H w)(he:RepEnv c w env a){o:Oper}{io:IOp}(hc:compileOp P G o=some io){v:Nat}{args:List D}(hcal:yieldOf env io=some (v,args)){rf:Nat}{e0:Env}(hv:H[v]? = some (.rcd rf e0 .ready)) :
  ∃ (L:Loc) (r:Loop) (vs:List Value),c.ι v 0=some L∧L.virt=false∧w.heap[L.b]? = some (.loop r)∧RepL c w vs args ∧
   (vs.length=r.params.size→(execOp a.eval o).run P w = .ok (.round L.b r.fn ((r.params.zip vs.toArray).foldl (fun tmps (t,a)=>tmps.setIfInBounds t a) r.tmps) r.assign r.body) w):=by
 unfold yieldOf at hcal
 split at hcal
 ·rename_i fx axs
  split at hcal
  ·rename_i v' hev
   cases hcal
   obtain⟨cl,ho⟩:=compile_call hc rfl
   have hc0:=hc
   unfold compileOp at hc
   simp only[ho,Option.bind_eq_bind,Option.bind_eq_some_iff]at hc
   obtain⟨xs,hargs,hc⟩:=hc
   have hrl:=cXs_ok hok he cl.args.toList hargs
   have hfin:∃ x X,cl.callee = .value x∧cX G x=some X∧X=fx∧xs=axs:=by
    split at hc
    ·split at hc
     ·exfalso
      simp only[Option.pure_def,Option.some.injEq]at hc
      split at hc<;>cases hc
     ·cases hc
    ·rename_i x hne hcallee
     simp only[Option.bind_eq_some_iff,Option.pure_def,Option.some.injEq]at hc
     obtain⟨X,hX,hh⟩:=hc
     cases hh
     exact⟨x,fx,hcallee,hX,rfl,rfl⟩
    ·split at hc
     ·simp only[Option.bind_eq_some_iff]at hc
      obtain⟨td,_,hc⟩:=hc
      split at hc
      ·simp only[Option.bind_eq_some_iff]at hc
       obtain⟨i,_,z,_,ud,_,hc⟩:=hc
       split at hc
       ·split at hc
        ·cases hc
        ·cases hc
       ·cases hc
      ·cases hc
     ·cases hc
    ·split at hc
     ·simp only[Option.bind_eq_some_iff]at hc
      obtain⟨td,_,hc⟩:=hc
      split at hc
      ·simp only[Option.bind_eq_some_iff]at hc
       obtain⟨ud,_,hc⟩:=hc
       split at hc
       ·simp only[Option.bind_eq_some_iff]at hc
        obtain⟨n,_,hc⟩:=hc
        split at hc
        ·cases hc
        ·cases hc
       ·cases hc
      ·cases hc
     ·cases hc
    ·split at hc
     ·split at hc
      ·cases hc
      ·cases hc
      ·cases hc
      ·cases hc
     ·cases hc
    ·cases hc
    ·cases hc
    ·cases hc
   obtain⟨x,X,hcallee,hX,rfl,rfl⟩:=hfin
   have hr:=cX_ok hok he hX
   rw[hev]at hr
   generalize hu:a.eval x=u at hr
   cases hr with
   | yld _ L hι hvirt=>
    have hob:=hok.ob v _ hv
    simp only[Ob.gen]at hob
    rw[hι]at hob
    simp only[ObOK]at hob
    obtain⟨_,r,hblk,_⟩:=hob
    refine⟨L,r,_,hι,hvirt,hblk,hrl,fun hsz=>?_⟩
    have e:cl.args.map a.eval=(cl.args.toList.map a.eval).toArray:=by cases cl.args;simp
    have hsz':cl.args.size=r.params.size:=by simpa using hsz
    simp only[execOp,ho,resolve,hcallee,hu,Deferred.ofValue,Sem.run_bind,Sem.run_pure,Result.andThen_ok,invoke,Instr.yield,Instr.getLoop,getObj,Sem.run,hblk]
    simp[Sem.run,hblk,hsz',e]
  ·cases hcal
 ·cases hcal
theorem env_params:∀ (ps:List Tmp) (vs:List Value) (ds:List D) (tmps:Array Value) (e0:Env),RepL c w vs ds→(∀ p∈ps,p<tmps.size)→(∀ k,Rep c w (tmps.getD k undef) (e0.get k)) →
  ∀ k,Rep c w (((ps.zip vs).foldl (fun(tmps:Array Value) (p:Tmp×Value)=>tmps.setIfInBounds p.1 p.2) tmps).getD k undef) ((setParams ps ds e0).get k)
 | [],vs,ds,tmps,e0,_,_,h,k=>by simpa[setParams]using h k
 | p::ps,[],ds,tmps,e0,hr,_,h,k=>by cases hr;simpa[setParams]using h k
 | p::ps,v::vs,ds,tmps,e0,hr,hp,h,k=>by
  cases hr with
  | @cons _ d _ ds hd hr=>
   simp only[List.zip_cons_cons,List.foldl_cons,setParams]
   refine env_params ps vs ds (tmps.setIfInBounds p v) ((p,d)::e0) hr (fun q hq=>by simpa using hp q (by simp[hq])) (fun j=>?_) k
   have hlt:p<tmps.size:=hp p (by simp)
   simp only[Env.get_cons]
   split
   ·rename_i e;subst e
    have:(tmps.setIfInBounds p v).getD p undef=v:=by simp[Array.getD,hlt]
    rw[this];exact hd
   ·rename_i e
    have:(tmps.setIfInBounds p v).getD j undef=tmps.getD j undef:=by
     simp only[Array.getD_eq_getD_getElem?,Array.getElem?_setIfInBounds_ne e]
    rw[this];exact h j
theorem fold_size:∀ (l:List (Tmp×Value)) (tmps:Array Value),(l.foldl (fun(tmps:Array Value) (p:Tmp×Value)=>tmps.setIfInBounds p.1 p.2) tmps).size=tmps.size
 | [],_=>rfl
 | p::l,tmps=>by simp only[List.foldl_cons];rw[fold_size l];simp
def Goes(G:GT)(N n:Nat)(rnd:Bool)(c:Ctx)(H:Heap)(w:World)(R:Out→Prop)(Q:Exit→Act→World→Prop):Prop:=
 ∀ (o:Out) (c':Ctx) (w':World) (a':Act),R o→o.st.rnd=rnd→n≤o.st.H.length→SOK G N c' w' o.st a'→Step n c H w c' o.st.H w'→Q o.ex a' w'
theorem rcd_at{s:St}(hs:SOK G N c w s a){v rf:Nat}{e0:Env}{st:RSt}(hv:s.H[v]? = some (.rcd rf e0 st)){L:Loc}(hι:c.ι v 0=some L) :
  ∃ r:Loop,w.heap[L.b]? = some (.loop r)∧L.virt=false∧(∀ k,Rep c w (r.tmps.getD k undef) (e0.get k))∧(∃ M,G.rt rf=some (M,r.params,r.assign,r.body)∧M≤r.tmps.size)∧st.is r:=by
 have hob:=hs.hok.ob v _ hv
 simp only[Ob.gen]at hob
 rw[hι]at hob
 simp only[ObOK]at hob
 obtain⟨h1,r,h2,h3,h4,h5⟩:=hob
 rw[hs.hok.rt]at h4
 exact⟨r,h2,h1,h3,h4,h5⟩
theorem rcd_set{s:St}(hs:SOK G N c w s a){v rf:Nat}{e0:Env}{st st':RSt}(hv:s.H[v]? = some (.rcd rf e0 st)){L:Loc}(hι:c.ι v 0=some L){r:Loop}(hr:w.heap[L.b]? = some (.loop r))
  (r':Loop) (h1:r'.tmps=r.tmps) (h2:r'.params=r.params) (h3:r'.assign=r.assign) (h4:r'.body=r.body) (h5:st'.is r') :
  SOK G N c { w with heap:=w.heap.setIfInBounds L.b (.loop r') } { s with H:=s.H.set v (.rcd rf e0 st') } a∧Step s.H.length c s.H w c (s.H.set v (.rcd rf e0 st')) { w with heap:=w.heap.setIfInBounds L.b (.loop r') } ∧
   (setObj L.b (.loop r')).run P w = .ok () { w with heap:=w.heap.setIfInBounds L.b (.loop r') }:=by
 obtain⟨r0,a1,a2,a3,⟨M,a4,a6⟩,a5⟩:=rcd_at hs hv hι
 rw[hr]at a1
 cases a1
 obtain⟨k1,k2⟩:=write_at hs.hok hv rfl rfl (ob':=.rcd rf e0 st') rfl hι a2 (.loop r') (fun w' hw' hrep=>by
  simp only[ObOK]
  refine⟨a2,r',hw',fun k=>by rw[h1];exact hrep _ _ (a3 k),⟨M,?_,by rw[h1];exact a6⟩,h5⟩
  rw[hs.hok.rt,a4,h2,h3,h4])
 exact⟨⟨k1,fun k=>(hs.env k).step0 hs.hok.toHeapOK k2,hs.size,hs.marks⟩,k2,by simp[setObj,Sem.run,hr]⟩
theorem inRound_FW(ro:Option Nat)(l:Nat):(FW ro).inRound l=FW (some l):=rfl
theorem wp_yield{s:St}{ro:Option Nat}{n:Nat}{o:Oper}{io:IOp}{next:Act→World→Prop}{Q:Exit→Act→World→Prop}(hs:SOK G N c w s a)(hc:compileOp P G o=some io)
  (hd:dstOK N o.dst=true) {v rf:Nat} {args:List D} {e0:Env} (hcal:yieldOf s.env.get io=some (v,args)) (hv:s.H[v]? = some (.rcd rf e0 .ready)) {M:Nat} {ps:Array Tmp} {ac bc:Code} (hRT:G.rt rf=some (M,ps,ac,bc))
  (hlen:args.length=ps.size) (hps:∀ p∈ps.toList,p<M) {Ra Rb:Out→Prop}
  (hA:∀ (ro:Option Nat) (n:Nat) (Q:Exit→Act→World→Prop) (c:Ctx) (w:World) (a:Act),SOK G M c w { env:=setParams ps.toList args e0,H:=s.H,rnd:=true } a →
   Goes G M s.H.length true c s.H w Ra Q→ac.wpIn (FW ro) n P Q a w)
  (hn:∀ o,Ra o→o.stop=false∧∃ env1,o.st.H[v]? = some (.rcd rf env1 .ready))
  (hB:∀ s1 env1,Ra (.norm s1)→s1.rnd=true→s1.H[v]? = some (.rcd rf env1 .ready)→∀ (ro:Option Nat) (n:Nat) (Q:Exit→Act→World→Prop) (c:Ctx) (w:World) (a:Act),SOK G M c w { s1 with H:=s1.H.set v (.rcd rf env1 .busy) } a →
   Goes G M s1.H.length true c (s1.H.set v (.rcd rf env1 .busy)) w Rb Q→bc.wpIn (FW ro) n P Q a w)
  (hm:∀ o,Rb o→∃ env2,o.st.H[v]? = some (.rcd rf env2 .busy))
  (k:∀ (q:Out) (env2:Env) (c':Ctx) (w':World) (a':Act),Rb q→q.st.H[v]? = some (.rcd rf env2 .busy)→s.H.length≤q.st.H.length→SOK G N c' w' { s with env:=put s.env o.dst (.b !q.stop),H:=q.st.H.set v (.rcd rf env2 q.rst) } a' →
   Step s.H.length c s.H w c' (q.st.H.set v (.rcd rf env2 q.rst)) w'→next a' w'):o.wpIn (FW ro) n P a w next Q:=by
 obtain⟨L,r,vs,hι,hvirt,hblk,hrl,hrun⟩:=run_yield hs.hok hs.env hc hcal hv
 obtain⟨r0,a1,_,a3,⟨M',a4,a6⟩,a5⟩:=rcd_at hs hv hι
 rw[hblk]at a1
 cases a1
 rw[hRT]at a4
 cases a4
 have hvl:v<s.H.length:=(List.getElem?_eq_some_iff.1 hv).1
 have hsz:vs.length=r.params.size:=by rw[hrl.length];exact hlen
 refine⟨fun _ _=>trivial,?_⟩
 rw[Oper.semAt_plain (FW ro) a.eval o (no_defer hc),hrun hsz]
 refine⟨fun h=>by simp[Fence.wide]at h,roundIn_of_wpIn (F:=FW ro) trivial ?_⟩
 rw[inRound_FW]
 have hfold:(r.params.zip vs.toArray).foldl (fun tmps (t,a)=>tmps.setIfInBounds t a) r.tmps=(r.params.toList.zip vs).foldl (fun(tmps:Array Value) (p:Tmp×Value)=>tmps.setIfInBounds p.1 p.2) r.tmps:=by
  rw[← Array.foldl_toList];simp
 refine hA (some L.b) _ _ c w _ ⟨hs.hok,fun j=>?_,?_,.nil⟩ ?_
 ·show Rep c w (Array.getD ((r.params.zip vs.toArray).foldl (fun tmps (t,a)=>tmps.setIfInBounds t a) r.tmps) j undef) _
  rw[hfold]
  exact env_params _ _ _ _ _ hrl (fun p hp=>Nat.lt_of_lt_of_le (hps p hp) a6) a3 j
 ·show M≤Array.size ((r.params.zip vs.toArray).foldl (fun tmps (t,a)=>tmps.setIfInBounds t a) r.tmps)
  rw[hfold,fold_size];exact a6
 ·intro o1 c1 w1 a1 hRa hrnd1 hlen1 hs1 hst1
  obtain⟨hstop,env1,hv1⟩:=hn o1 hRa
  cases o1 with
  | exit=>cases hstop
  | ret=>cases hstop
  | norm s1=>
   have hι1:c1.ι v 0=some L:=hst1.old v 0 L hvl hι
   obtain⟨r1,b1,b2,b3,_,b5⟩:=rcd_at hs1 hv1 hι1
   have b5':r1.state = .ready∧r1.pending=none:=b5
   obtain⟨k1,k2,k3⟩:=rcd_set (P:=P) (st':=.busy) hs1 hv1 hι1 b1 { r1 with state:=.busy } rfl rfl rfl rfl rfl
   refine⟨{ w1 with heap:=w1.heap.setIfInBounds L.b (.loop { r1 with state:=.busy }) },?_,?_⟩
   ·have hg:(Instr.getLoop L.b).run P w1 = .ok r1 w1:=by simp[Instr.getLoop,getObj,Sem.run,b1]
    simp only[Instr.beginRound,Sem.run_bind,hg,Result.andThen_ok,k3,b5'.1]
    simp
   ·refine hB s1 env1 hRa hrnd1 hv1 (some L.b) _ _ c1 _ a1 k1 ?_
    intro o2 c2 w3 a3' hRb hrnd2 hlen2 hs3 hst3
    obtain⟨env2,hv2⟩:=hm o2 hRb
    have hvl1:v<s1.H.length:=Nat.lt_of_lt_of_le hvl hlen1
    have hι2:c2.ι v 0=some L:=hst3.old v 0 L hvl1 hι1
    obtain⟨r2,d1,d2,d3,_,d5⟩:=rcd_at hs3 hv2 hι2
    have key:∀ (j:Option Code),o2.rst.is { r2 with state:=if j.isNone then .ready else .done,pending:=j }→j.isNone = !o2.stop→∃ v w',(Instr.endRound L.b j).run P w3 = .ok v w'∧next (a.put o.dst v) w':=by
     intro j hj hjs
     obtain⟨e1,e2,e3⟩:=rcd_set (P:=P) (st':=o2.rst) hs3 hv2 hι2 d1 { r2 with state:=if j.isNone then .ready else .done,pending:=j } rfl rfl rfl rfl hj
     have hg:(Instr.getLoop L.b).run P w3 = .ok r2 w3:=by simp[Instr.getLoop,getObj,Sem.run,d1]
     refine⟨.bool j.isNone,{ w3 with heap:=w3.heap.setIfInBounds L.b (.loop { r2 with state:=if j.isNone then .ready else .done,pending:=j }) },?_,?_⟩
     ·simp only[Instr.endRound,Sem.run_bind,hg,Result.andThen_ok,e3]
      rfl
     ·have hbool:Rep c2 { w3 with heap:=w3.heap.setIfInBounds L.b (.loop { r2 with state:=if j.isNone then .ready else .done,pending:=j }) } (.bool j.isNone) (.b !o2.stop):=by
       have:D.b (!o2.stop)=D.val (.bool j.isNone):=by rw[hjs]
       rw[this];exact .val _
      have hst:Step s.H.length c s.H w c2 (o2.st.H.set v (.rcd rf env2 o2.rst)) { w3 with heap:=w3.heap.setIfInBounds L.b (.loop { r2 with state:=if j.isNone then .ready else .done,pending:=j }) }:=
       (hst1.trans (k2.trans (hst3.trans e2 hlen2) (Nat.le_refl _)) hlen1)
      refine k o2 env2 c2 _ _ hRb hv2 (Nat.le_trans hlen1 hlen2) (hs.next e1.hok hst hd hbool) hst
    cases o2 with
    | norm s2=>exact key none ⟨rfl,rfl⟩ rfl
    | ret s2=>exact key (some .ret) ⟨rfl,rfl⟩ rfl
    | exit id s2=>exact key (some (.exit id)) ⟨rfl,rfl⟩ rfl
theorem enter_ok{s:St}(hs:SOK G N c w s a){rf:Nat}{ps:Array Tmp}{ac bc:Code}(hRT:G.rt rf=some (N,ps,ac,bc))(live:List Nat)(fn:FuncId) :
  ∃ (c2:Ctx) (w2:World) (L1 L2:Loc),(Instr.enterLoop fn a.tmps ps ac bc none).run P w = .ok (L2.b,[{ target:=.collected L1.b,args:=#[] }]) w2∧L1.virt=false∧L2.virt=false ∧
   c2.ι s.H.length 0=some L1∧c2.ι (s.H.length+1) 0=some L2∧HOK G c2 (s.H ++ [.dfr,.rcd rf (forget live s.env) .ready]) w2∧Step s.H.length c s.H w c2 (s.H ++ [.dfr,.rcd rf (forget live s.env) .ready]) w2:=by
 obtain⟨hok1,_,hst1⟩:=new_obj hs.hok (AlOK.last s.H) (.deferred (some [])) .dfr rfl rfl (fun _ hb=>by simp only[ObOK];exact .inr hb)
 simp only[Al.last]at hok1 hst1
 generalize hc1:c.set s.H.length 0 ⟨w.heap.size,0,0,false⟩=c1 at hok1 hst1
 have hι1:c1.ι s.H.length 0=some ⟨w.heap.size,0,0,false⟩:=by rw[← hc1];exact Ctx.set_same _ _ _ _
 generalize hw1:w.alloc (.deferred (some []))=w1 at hok1 hst1
 have hsz1:w1.heap.size=w.heap.size+1:=by rw[← hw1];simp
 have hlen1:(s.H ++ [Ob.dfr]).length=s.H.length+1:=by simp
 obtain⟨hok2,_,hst2⟩:=new_obj hok1 (AlOK.last (s.H ++ [.dfr])) (.loop { state:=.ready,pending:=none,fn:=fn,tmps:=a.tmps,params:=ps,assign:=ac,body:=bc,defers:=w.heap.size }) (.rcd rf (forget live s.env) .ready) rfl rfl (fun hrep hb=>by
  simp only[ObOK]
  refine⟨trivial,_,hb,fun j=>hrep _ _ ((env_forget hs.env live j).step0 hs.hok.toHeapOK hst1),⟨N,?_,hs.size⟩,rfl,rfl⟩
  rw[← hRT,← hok1.rt];rfl)
 simp only[Al.last,hlen1,List.append_assoc,List.singleton_append]at hok2 hst2
 refine⟨_,_,⟨w.heap.size,0,0,false⟩,⟨w1.heap.size,0,0,false⟩,?_,rfl,rfl,?_,Ctx.set_same _ _ _ _,hok2,hst1.trans hst2 (by omega)⟩
 ·subst hw1
  simp[Instr.enterLoop]
 ·rw[Ctx.set_ne _ _ (by omega)];exact hι1
theorem wp_rangeF{s:St}{n:Nat}{Q:Exit→Act→World→Prop}(hs:SOK G N c w s a){g:Operand}{X:X}(hx:cX G g=some X){f:FuncId}{first cap:List D}(hev:ev s.env.get X = .fn (.func f) first cap)
  (hent:entersB P f=true) {rf:Nat} {ps:Array Tmp} {ac bc:Code} (hRT:G.rt rf=some (N,ps,ac,bc)) {live:List Nat} {R1:D→Heap→Prop} {R:Out→Prop}
  (hcall:CallR P G f (first ++ [.yld (s.H.length+1)]++cap) (s.H ++ [.dfr,.rcd rf (forget live s.env) .ready]) R1)
  (k:∀ d H',R1 d H'→∃ env st o,H'[s.H.length+1]? = some (.rcd rf env st)∧rangeOut { s with H:=H'.set (s.H.length+1) .dead,marks:=s.H.length::s.marks } st=some o∧R o)
  (hk:Goes G N s.H.length s.rnd c s.H w R Q):(Code.rangeFunc g ps ac bc).wpIn (FW none) n P Q a w:=by
 refine wpIn_rangeFunc fun fn _=>?_
 obtain⟨c2,w2,L1,L2,hent2,hv1,hv2,hι1,hι2,hok2,hst12⟩:=enter_ok (P:=P) hs hRT live fn
 have hr12:∀ u d,Rep c w u d→Rep c2 w2 u d:=fun u d hd=>hd.step0 hs.hok.toHeapOK hst12
 have hr:=cX_ok hs.hok hs.env hx
 rw[hev]at hr
 generalize hu:a.eval g=u at hr
 cases hr with
 | fn _ fs cs _ _ q1 q2 q3 q4=>
  have hyld:Rep c2 w2 (.func (.yield L2.b) #[] #[]) (.yld (s.H.length+1)):=.yld _ L2 hι2 hv2
  have hrl:RepL c2 w2 (fs ++ [Value.func (.yield L2.b) #[] #[]]++cs) (first ++ [.yld (s.H.length+1)]++cap):=
   ((RepL.of_get q1 fun i v d h1 h2=>hr12 _ _ (q3 i v d h1 h2)).append (.cons hyld .nil)).append (RepL.of_get q2 fun i v d h1 h2=>hr12 _ _ (q4 i v d h1 h2))
  have hres:(resolve a.eval (rangeCall g L2.b) 0).run P w2 = .ok { target:=.fn (.func f) cs.toArray,args:=fs.toArray ++ #[Value.func (.yield L2.b) #[] #[]] } w2:=by
   simp[resolve,hu,Deferred.ofValue]
   rfl
  have hinv:(invoke (.fn (.func f) cs.toArray) (fs.toArray ++ #[Value.func (.yield L2.b) #[] #[]])).run P w2 = .ok (.enter f (fs ++ [Value.func (.yield L2.b) #[] #[]]++cs).toArray) w2:=by
   have h2:=run_enters (P:=P) hent (fs ++ [Value.func (.yield L2.b) #[] #[]]++cs).toArray w2
   simpa[invoke]using h2
  have hc0:=hcall c2 w2 _ hok2 hrl
  have hfin:CallsIn (FW none) (n-1) P f (fs ++ [Value.func (.yield L2.b) #[] #[]]++cs).toArray w2 (rangePost (FW none) n P L2.b Q { a with defers:=[{ target:=.collected L1.b,args:=#[] }]++a.defers }):=by
   refine callsIn_FW.2 (hc0.mono ?_)
   rintro e w3 ⟨v,c3,d,H3,rfl,hR,hlen,hok3,_,hst3⟩
   obtain⟨env,st,q,hat,hout,hRq⟩:=k d H3 hR
   have hH1:(s.H ++ [Ob.dfr,Ob.rcd rf (forget live s.env) .ready]).length=s.H.length+2:=by simp
   have hι1:c3.ι s.H.length 0=some L1:=hst3.old _ 0 L1 (by rw[hH1];omega) hι1
   have hι2:c3.ι (s.H.length+1) 0=some L2:=hst3.old _ 0 L2 (by rw[hH1];omega) hι2
   have hob:=hok3.ob _ _ hat
   simp only[Ob.gen]at hob
   rw[hι2]at hob
   simp only[ObOK]at hob
   obtain⟨_,r3,hb3,_,_,his⟩:=hob
   have hlt3:L2.b<w3.heap.size:=(Array.getElem?_eq_some_iff.1 hb3).1
   obtain⟨m1,m2⟩:=drop_obj (w':={ w3 with heap:=w3.heap.setIfInBounds L2.b (.loop { r3 with state:=.exhausted }) }) hok3 hat rfl hι2 hv2 ⟨rfl,Nat.le_refl _⟩ rfl rfl (by simp) (fun b hb=>by rw[Array.getElem?_setIfInBounds_ne (Ne.symm hb)])
   have hfinal:Step s.H.length c s.H w c3 (H3.set (s.H.length+1) .dead) { w3 with heap:=w3.heap.setIfInBounds L2.b (.loop { r3 with state:=.exhausted }) }:=
    hst12.trans (hst3.trans m2 hlen) (by rw[hH1];omega)
   have hsok:SOK G N c3 { w3 with heap:=w3.heap.setIfInBounds L2.b (.loop { r3 with state:=.exhausted }) } { s with H:=H3.set (s.H.length+1) .dead,marks:=s.H.length::s.marks } { a with defers:=[{ target:=.collected L1.b,args:=#[] }]++a.defers }:=by
    refine⟨m1,fun j=>(hs.env j).step0 hs.hok.toHeapOK hfinal,hs.size,.cons L1 hι1 hv1 (hs.marks.mono fun v L h=>hfinal.old v 0 L ?_ h)⟩
    rcases Nat.lt_or_ge v s.H.length with h'|h'
    ·exact h'
    ·rw[hs.hok.out v 0 h']at h;cases h
   have hnb:r3.state≠.busy:=by
    cases st with
    | busy=>cases hout
    | ready=>rw[his.1];decide
    | doneRet=>rw[his.1];decide
    | doneExit=>rw[his.1];decide
   have hend:(Instr.endLoop L2.b).run P w3 = .ok r3.pending { w3 with heap:=w3.heap.setIfInBounds L2.b (.loop { r3 with state:=.exhausted }) }:=by
    have hg:(Instr.getLoop L2.b).run P w3 = .ok r3 w3:=by
     have:w3.heap[L2.b]? = some (.loop r3):=hb3
     simp[Instr.getLoop,getObj,Sem.run,this]
    have hse:(setObj L2.b (.loop { r3 with state:=.exhausted })).run P w3 = .ok () { w3 with heap:=w3.heap.setIfInBounds L2.b (.loop { r3 with state:=.exhausted }) }:=by
     have:w3.heap[L2.b]? = some (.loop r3):=hb3
     simp[setObj,Sem.run,this]
    have hbq:(r3.state == .busy)=false:=by
     generalize r3.state=x at hnb
     cases x<;>first|rfl|exact absurd rfl hnb
    simp only[Instr.endLoop,Sem.run_bind,hg,Result.andThen_ok,hbq,hse]
    simp[hse]
   generalize ({ w3 with heap:=w3.heap.setIfInBounds L2.b (.loop { r3 with state:=.exhausted }) }:World)=W at hsok hfinal hend
   refine⟨r3.pending,W,hend,?_⟩
   have hlen3:s.H.length≤(H3.set (s.H.length+1) .dead).length:=by
    rw[hH1]at hlen
    simp;omega
   cases st with
   | busy=>cases hout
   | ready=>
    cases hout
    rw[his.2]
    exact hk _ c3 _ _ hRq rfl hlen3 hsok hfinal
   | doneRet=>
    cases hout
    rw[his.2]
    exact wpIn_ret (hk _ c3 _ _ hRq rfl hlen3 hsok hfinal)
   | doneExit id=>
    cases hout
    rw[his.2]
    exact wpIn_exit (hk _ c3 _ _ hRq rfl hlen3 hsok hfinal)
  exact⟨L2.b,_,w2,_,w2,f,_,w2,hent2,hres,fun _ _=>trivial,hinv,fun h=>by simp[Fence.wide]at h,hfin⟩
end
end Go.AL
