/- Part 5 of the proof of skewer.skewerlaw15.TableAgain. -/
import Derived.Test.YtnaefnajkaohgaaGreatDoorD04
import Derived.Shelf.SlSortCmp.NoneTotal
import Derived.Test.YtnaefnajkaohgaaGreatDoorD02
import Derived.Test.YtnaefnajkaohgaaGreatDoorD03
set_option linter.all false
namespace Go.AL
open Go
def tu(A:Array Oper):Bool:=(List.range A.size).all fun i=>match A[i]? with
 | some o=>o.after.all fun e => !Region.binds .any e||decide (e.on<i)
 | none=>true
def sO(A:Array Oper)(ord:List (List Nat)):Bool:=(List.range A.size).all fun i=>match A[i]? with
 | some o=>(ord.getD i []).all fun k=>o.after.any fun e=>Region.binds .any e&&(e.on == k||(ord.getD e.on []).contains k)
 | none=>true
def JQ(l:List fo)(ord:List (List Nat))(ic:List (Nat×Nat)):Bool:=(List.range l.length).all fun i=>(List.range i).all fun k=>
 (ord.getD i []).contains k||(match l[k]?,l[i]? with
  | some a,some b=>sR a b&&(ic.contains (k,i)||Gs a.op b.op)
  | _,_=>false)
section
variable{P:Program}{G:GT}{A:Array Oper}{ord:List (List Nat)}
theorem Sb(h:tu A=true){i:Nat}{o:Oper}(hi:A[i]? = some o){e:Edge}(he:e∈o.after)(hb:Region.binds .any e=true):e.on<i:=by
 have:=ao.1 h i (bx.2 (aN.1 hi).1)
 simp only[hi]at this
 have:=b8.1 this e he
 simpa[hb]using this
theorem Ps(h:sO A ord=true){i:Nat}{o:Oper}(hi:A[i]? = some o){k:Nat}(hk:k∈ord.getD i []):∃ e∈o.after,Region.binds .any e=true∧(e.on=k∨k∈ord.getD e.on []):=by
 have:=ao.1 h i (bx.2 (aN.1 hi).1)
 simp only[hi]at this
 have:=ao.1 this k hk
 obtain⟨e,he,h2⟩:=Array.any_eq_true'.1 this
 simp only[ah,cg,beq_iff_eq,cP]at h2
 exact⟨e,he,h2.1,h2.2⟩
structure Left(A:Array Oper)(ord:List (List Nat))(rem:List kI)(listed:Array Bool):Prop where
 size:listed.size=A.size
 iff:∀ j,j<A.size→(listed.getD j true=false↔∃ it∈rem,it.k=j)
 sorted:rem.Pairwise fun p q=>p.k<q.k
 lt:∀ it∈rem,it.k<A.size
 down:∀ i,i<A.size→listed.getD i false=true→∀ k∈ord.getD i [],listed.getD k false=true
theorem Ww{rem:List kI}{listed:Array Bool}(h:Left A ord rem listed){j:Nat}(hj:j<A.size):listed.getD j false=true∨∃ it∈rem,it.k=j:=by
 have l7:j<listed.size:=by rw[h.size];exact hj
 cases hb:listed.getD j true with
 | false=>exact .inr ((h.iff j hj).1 hb)
 | true=>left;simp[l7]at hb ⊢;exact hb
theorem W9{rem:List kI}{listed:Array Bool}(h:Left A ord rem listed){it:kI}(iA:it∈rem):listed.getD it.k false=false:=by
 have fj:=h.lt it iA
 have:=(h.iff it.k fj).2 ⟨it,iA,rfl⟩
 have l7:it.k<listed.size:=by rw[h.size];exact fj
 simp[l7]at this ⊢;exact this
theorem JX(he:tu A=true){it:kI}{rem:List kI}{listed:Array Bool}(h:Left A ord (it::rem) listed):it.k∈Region.ready .any A listed:=by
 rw[mem_ready]
 have fj:=h.lt it (by simp)
 refine⟨(h.iff it.k fj).2 ⟨it,by simp,rfl⟩,A[it.k],by simp[fj],fun e hm hb=>?_⟩
 have nM:=Sb he (i:=it.k) (o:=A[it.k]) (by simp[fj]) hm hb
 rcases Ww h (show e.on<A.size by omega)with hl|⟨q,hq,oR⟩
 ·exact hl
 ·exfalso
  rcases au.1 hq with rfl|hq
  ·omega
  ·have:=(aL.1 h.sorted).1 q hq
   omega
theorem F0(ho:sO A ord=true){rem:List kI}{listed:Array Bool}(h:Left A ord rem listed){i:Nat}(hi:i∈Region.ready .any A listed){q:kI}(hq:q∈rem):q.k ∉ ord.getD i []:=by
 intro hk
 obtain⟨_,o,IG,gy⟩:=mem_ready.1 hi
 obtain⟨e,hm,hb,hc⟩:=Ps ho IG hk
 have nM:=gy e hm hb
 have hn:=W9 h hq
 rcases hc with hc|hc
 ·rw[hc]at nM;rw[nM]at hn;cases hn
 ·have fj:e.on<A.size:=by
   rcases bh e.on A.size with h'|h'
   ·exact h'
   ·have:listed.getD e.on false=false:=by
     have:listed.size≤e.on:=by rw[h.size];exact h'
     simp[dt this]
    rw[this]at nM;cases nM
  have:=h.down e.on fj nM q.k hc
  rw[this]at hn;cases hn
theorem Jj(ho:sO A ord=true){pre post:List kI}{it:kI}{listed:Array Bool}(h:Left A ord (pre++it::post) listed)(hi:it.k∈Region.ready .any A listed) :
  Left A ord (pre++post) (listed.setIfInBounds it.k true):=by
 have ot:(pre++post).Sublist (pre++it::post):=cZ (du it post) pre
 have fY:∀ q∈pre++post,q.k≠it.k:=by
  intro q hq
  have:=aV.1 h.sorted
  rcases List.mem_append.1 hq with hq|hq
  ·have:=this.2.2 q hq it (by simp);omega
  ·have:=(aL.1 this.2.1).1 q hq;omega
 have fj:=h.lt it (by simp)
 refine⟨by simp[h.size],fun j hj=>?_,h.sorted.sublist ot,fun q hq=>h.lt q (ot.subset hq),fun i vp hl k hk=>?_⟩
 ·by_cases e:it.k=j
  ·subst e
   have:(listed.setIfInBounds it.k true).getD it.k true=true:=by
    have:it.k<listed.size:=by rw[h.size];exact fj
    simp[this]
   rw[this]
   constructor
   ·intro h;cases h
   ·rintro⟨q,hq,e⟩
    exact absurd e (fY q hq)
  ·rw[getD_set_ne true e,h.iff j hj]
   constructor
   ·rintro⟨q,hq,rfl⟩
    rcases List.mem_append.1 hq with hq|hq
    ·exact⟨q,aP _ hq,rfl⟩
    ·rcases au.1 hq with rfl|hq
     ·exact absurd rfl e
     ·exact⟨q,bq _ hq,rfl⟩
   ·rintro⟨q,hq,rfl⟩
    exact⟨q,ot.subset hq,rfl⟩
 ·by_cases e:it.k=i
  ·subst e
   obtain⟨_,o,IG,gy⟩:=mem_ready.1 hi
   obtain⟨e,hm,hb,hc⟩:=Ps ho IG hk
   have nM:=gy e hm hb
   rcases hc with rfl|hc
   ·exact getD_set_true nM
   ·have fj:e.on<A.size:=by
     rcases bh e.on A.size with h'|h'
     ·exact h'
     ·have:listed.getD e.on false=false:=by
       have:listed.size≤e.on:=by rw[h.size];exact h'
       simp[dt this]
      rw[this]at nM;cases nM
    exact getD_set_true (h.down e.on fj nM k hc)
  ·rw[getD_set_ne false e]at hl
   exact getD_set_true (h.down i vp hl k hk)
variable{C:FuncId→List D→D→U→Prop}{N:Nat}
theorem LB(n:Nat)(δ:Dl)(H:U):(js n δ H).length=H.length:=by
 cases δ with
 | no=>rfl
 | cells v o xs=>simp only[js,Dl.app];split<;>simp
 | obj v ob=>simp[js,Dl.app]
 | new ob=>simp[js,Dl.app,Al.hole]
theorem Lv(hC:∀ g args d Hn,C g args d Hn→oL P g=true∧sV P G g args [] d Hn)(he:tu A=true)(ho:sO A ord=true){ro:Option Nat}{m:Nat}{Q:Exit→Act→World→Prop}{ms:List Nat}{f':fD}{H':U} :
  ∀ (fuel:Nat) (rem:List kI) (listed:Array Bool) (c:Ctx) (w:World) (f:fD) (H:U) (a:Act),rem.length=fuel→Left A ord rem listed→SX G N c w f H ms a→Tx C f H rem f' H' →
   (∀ it∈rem,∃ o,A[it.k]? = some o∧qT P G N A o=some it.e) →
   (∀ p∈rem,∀ q∈rem,p.k<q.k→p.k∈ord.getD q.k []∨(sR p.e q.e=true∧qA p.rc q.rc=true)) →
   (∀ c' w' a',SX G N c' w' f' H' ms a'→Step H.length c H w c' H' w'→Q .normal a' w')→wpAnyIn (FW ro) m P .any A Q fuel listed a w
 | 0,rem,listed,c,w,f,H,a,hl,ka,hs,ht,_,_,hQ=>by
  have:rem = []:=a8 hl
  subst this
  cases ht
  refine⟨?_,hQ c w a hs (Step.refl _ _ _ _)⟩
  refine cj.2 fun j hj=>?_
  obtain⟨h1,o,h2,_⟩:=mem_ready.1 hj
  obtain⟨it,iA,_⟩:=(ka.iff j (aN.1 h2).1).1 h1
  cases iA
 | fuel+1,rem,listed,c,w,f,H,a,hl,ka,hs,ht,sj,zX,hQ=>by
  refine⟨fun h0=>?_,fun i hi=>?_⟩
  ·cases rem with
   | nil=>cases hl
   | cons it rem=>
    have:=JX he ka
    rw[h0]at this
    cases this
  ·obtain⟨h1,o,h2,_⟩:=mem_ready.1 hi
   obtain⟨it,iA,rfl⟩:=(ka.iff i (aN.1 h2).1).1 h1
   obtain⟨pre,post,rfl⟩:=List.append_of_mem iA
   have IN:∀ p∈pre,sR p.e it.e=true∧qA p.rc it.rc=true:=by
    intro p hp
    have fj:p.k<it.k:=(aV.1 ka.sorted).2.2 p hp it (by simp)
    rcases zX p (aP _ hp) it (by simp) fj with h|h
    ·exact absurd h (F0 ho ka hi (aP _ hp))
    ·exact h
   obtain⟨d,δ,hE,hT⟩:=ht.front IN
   obtain⟨o',IF,zA⟩:=sj it (by simp)
   have ot:∀ q∈pre++post,q∈pre++it::post:=fun q hq=>(cZ (du it post) pre).subset hq
   refine Ms hC hs IF zA hE fun c' w' a' fH eX=>?_
   refine Lv hC he ho fuel (pre++post) _ c' w' _ _ a' (by simp at hl ⊢;omega) (Jj ho ka hi) fH hT (fun q hq=>sj q (ot q hq)) (fun p hp q hq=>zX p (ot p hp) q (ot q hq)) fun c2 w2 a2 lu oS=>?_
   rw[LB]at oS
   exact hQ c2 w2 a2 lu (eX.trans oS (Nat.le_refl _))
theorem Lx(he:tu A=true)(ho:sO A ord=true){F:Fence}{m:Nat}{Q:Exit→Act→World→Prop} :
  ∀ (lasts:List kI) (ops:List Oper) (listed:Array Bool) (a:Act) (w:World),Left A ord lasts listed→(∀ q∈lasts,∀ k,k<q.k→k∈ord.getD q.k [])→lasts.map (fun q=>A[q.k]?)=ops.map some →
   wpListIn F m P A Q ops a w→wpAnyIn F m P .any A Q lasts.length listed a w
 | [],ops,listed,a,w,ka,_,sy,h=>by
  have:ops = []:=by simpa using sy.symm
  subst this
  refine⟨cj.2 fun j hj=>?_,h⟩
  obtain⟨h1,o,h2,_⟩:=mem_ready.1 hj
  obtain⟨it,iA,_⟩:=(ka.iff j (aN.1 h2).1).1 h1
  cases iA
 | q::lasts,ops,listed,a,w,ka,hl,sy,h=>by
  cases ops with
  | nil=>simp at sy
  | cons o ops=>
   simp only[List.map_cons,cm]at sy
   refine⟨fun h0=>?_,fun i hi=>?_⟩
   ·have:=JX he ka
    rw[h0]at this
    cases this
   ·obtain⟨h1,o',h2,_⟩:=mem_ready.1 hi
    obtain⟨it,iA,rfl⟩:=(ka.iff i (aN.1 h2).1).1 h1
    have iA:it=q:=by
     rcases au.1 iA with h|h
     ·exact h
     ·have fj:q.k<it.k:=(aL.1 ka.sorted).1 it h
      exact absurd (hl it (aU _ h) q.k fj) (F0 ho ka hi (q:=q) (by simp))
    subst iA
    have hn:=Jj (pre:=[]) (post:=lasts) ho ka hi
    have ih:∀ a w,wpListIn F m P A Q ops a w→wpAnyIn F m P .any A Q lasts.length (listed.setIfInBounds it.k true) a w:=fun a w h=>
     Lx he ho lasts ops _ a w hn (fun q hq=>hl q (aU _ hq)) sy.2 h
    unfold wpOpIn
    simp only[sy.1]
    simp only[wpListIn]at h
    split
    ·rename_i hw
     simp only[hw,if_true]at h
     exact Oper.wpIn_mono ih h
    ·rename_i hw
     simp only[hw]at h
     exact⟨h.1,ih _ _ h.2⟩
theorem Lw(hC:∀ g args d Hn,C g args d Hn→oL P g=true∧sV P G g args [] d Hn)(he:tu A=true)(ho:sO A ord=true){ro:Option Nat}{m:Nat}{Q:Exit→Act→World→Prop}{ms:List Nat}{f':fD}{H':U}{lasts:List kI}{ops:List Oper}
  (vz:∀ q∈lasts,∀ k,k<q.k→k∈ord.getD q.k []) (sy:lasts.map (fun q=>A[q.k]?)=ops.map some) :
  ∀ (fuel:Nat) (rem:List kI) (listed:Array Bool) (c:Ctx) (w:World) (f:fD) (H:U) (a:Act),rem.length=fuel→Left A ord (rem++lasts) listed→SX G N c w f H ms a→Tx C f H rem f' H' →
   (∀ it∈rem,∃ o,A[it.k]? = some o∧qT P G N A o=some it.e) →
   (∀ p∈rem,∀ q∈rem,p.k<q.k→p.k∈ord.getD q.k []∨(sR p.e q.e=true∧qA p.rc q.rc=true)) →
   (∀ c' w' a',SX G N c' w' f' H' ms a'→Step H.length c H w c' H' w'→wpListIn (FW ro) m P A Q ops a' w')→wpAnyIn (FW ro) m P .any A Q (fuel+lasts.length) listed a w
 | 0,rem,listed,c,w,f,H,a,hl,ka,hs,ht,_,_,hQ=>by
  have:rem = []:=a8 hl
  subst this
  cases ht
  rw[bj]
  exact Lx he ho lasts ops listed a w ka vz sy (hQ c w a hs (Step.refl _ _ _ _))
 | fuel+1,rem,listed,c,w,f,H,a,hl,ka,hs,ht,sj,zX,hQ=>by
  have lK:∀ q∈rem,∀ l∈lasts,q.k<l.k:=fun q hq l hl=>(aV.1 ka.sorted).2.2 q hq l hl
  rw[show fuel+1+lasts.length=(fuel+lasts.length)+1 by omega]
  refine⟨fun h0=>?_,fun i hi=>?_⟩
  ·cases rem with
   | nil=>cases hl
   | cons it rem=>
    have:=JX (rem:=rem++lasts) he ka
    rw[h0]at this
    cases this
  ·obtain⟨h1,o,h2,_⟩:=mem_ready.1 hi
   obtain⟨it,iA,rfl⟩:=(ka.iff i (aN.1 h2).1).1 h1
   have iA:it∈rem:=by
    rcases List.mem_append.1 iA with h|h
    ·exact h
    ·cases rem with
     | nil=>cases hl
     | cons q rem=>exact absurd (vz it h q.k (lK q (by simp) it h)) (F0 ho ka hi (q:=q) (by simp))
   obtain⟨pre,post,rfl⟩:=List.append_of_mem iA
   have Iy:Left A ord (pre++it::(post++lasts)) listed:=by simpa using ka
   have IN:∀ p∈pre,sR p.e it.e=true∧qA p.rc it.rc=true:=by
    intro p hp
    have fj:p.k<it.k:=(aV.1 Iy.sorted).2.2 p hp it (by simp)
    rcases zX p (aP _ hp) it (by simp) fj with h|h
    ·exact absurd h (F0 ho Iy hi (aP _ hp))
    ·exact h
   obtain⟨d,δ,hE,hT⟩:=ht.front IN
   obtain⟨o',IF,zA⟩:=sj it (by simp)
   have ot:∀ q∈pre++post,q∈pre++it::post:=fun q hq=>(cZ (du it post) pre).subset hq
   refine Ms hC hs IF zA hE fun c' w' a' fH eX=>?_
   refine Lw hC he ho vz sy fuel (pre++post) _ c' w' _ _ a' (by simp at hl ⊢;omega) (by simpa using Jj ho Iy hi) fH hT (fun q hq=>sj q (ot q hq)) (fun p hp q hq=>zX p (ot p hp) q (ot q hq)) fun c2 w2 a2 lu oS=>?_
   rw[LB]at oS
   exact hQ c2 w2 a2 lu (eX.trans oS (Nat.le_refl _))
end
end Go.AL
namespace Go.AL
open Go
abbrev room(k:Nat):U:=List.replicate k .hole
section
variable{f:fD}{H:U}{r:Nat}
theorem Er(v:Nat)(o:Ob)(ho:o≠.hole):(H++room r)[v]? = some o↔H[v]? = some o:=by
 rcases bh v H.length with h|h
 ·rw[ag h]
 ·rw[ak h,aG h]
  constructor
  ·intro h1
   rw[dm]at h1
   split at h1
   ·cases h1;exact absurd rfl ho
   ·cases h1
  ·intro h1;cases h1
theorem J2(v:Nat):rowsOf (H++room r) v=rowsOf H v:=by
 unfold rowsOf
 cases h:H[v]? with
 | none=>
  cases h2:(H++room r)[v]? with
  | none=>rfl
  | some o=>
   cases o<;>first|rfl|skip
   rw[Er v _ (by simp)]at h2
   rw[h]at h2;cases h2
 | some o=>
  have:(H++room r)[v]? = some o:=by
   rw[ag (ae.1 h).1];exact h
  rw[this]
theorem vW(v g:Nat):rowAt (H++room r) v g=rowAt H v g:=by rw[um,um,J2]
theorem Jw(v:Nat):jW (H++room r) v=jW H v:=by
 unfold jW
 cases h:H[v]? with
 | none=>
  cases h2:(H++room r)[v]? with
  | none=>rfl
  | some o=>
   cases o<;>first|rfl|skip
   rw[Er v _ (by simp)]at h2
   rw[h]at h2;cases h2
 | some o=>
  have:(H++room r)[v]? = some o:=by
   rw[ag (ae.1 h).1];exact h
  rw[this]
theorem Kh(sz:Nat)(d:D):jx sz (H++room r) d=jx sz H d:=by
 cases d<;>first|rfl|skip
 simp only[jx,vW]
theorem QV(n:Nat)(op:gp):ft f (H++room r) n op=ft f H n op:=by
 cases op<;>simp only[ft]<;>first|rfl|skip
 case ld1=>simp only[rn,vW]
 case ldN=>simp only[rp,vW]
 case st1=>simp only[wh,vW]
 case stN=>simp only[wi,vW]
 case lookup=>simp only[vI,Jw]
 case mapUpd=>simp only[ub,Jw]
 case len=>simp only[nq,Jw]
 case b2s=>simp only[wI,Kh]
 case app=>simp only[o3,Kh,vW]
 case copy=>simp only[wN,Kh,vW]
theorem AY(k:Nat)(d:D):fX (H++room r) k d=fX H k d∧eS (fun _=>none) (H++room r) k d=eS (fun _=>none) H k d:=
 AX (H1:=H) (H2:=H++room r) k d fun v _=>(J2 v).symm
theorem En(op:gp):fu f (H++room r) op=fu f H op:=by
 have key:∀ args:List D,args.map (fX (H++room r) 40)=args.map (fX H 40):=fun args=>aj fun d _=>(AY 40 d).1
 cases op<;>first|rfl|skip
 case call g args=>simp only[fu,key]
 case callN g args=>simp only[fu,key]
 case callv g args=>simp only[fu,key]
 case len k x=>cases k<;>rfl
theorem P3{v g:Nat}{x:TypeId×List D}(h:rowAt H v g=some x):v<H.length:=(ae.1 (A2 h)).1
theorem WQ{v:Nat}{x:KK×List (Value×D)}(h:jW H v=some x):v<H.length:=(ae.1 (ua h)).1
def Safe(H:U):Dl→Prop
 | .no=>True
 | .cells v o xs=>∃ t g cs,H[v]? = some (.row t g cs)∧o+xs.length≤cs.length
 | .obj v _=>v<H.length
 | .new _=>True
theorem QW{op:gp}{n:Nat}{d:D}{δ:Dl}(h:ft f H n op=some (d,δ)):Safe H δ:=by
 have hl:∀ {o:Option D},lift o=some (d,δ)→Safe H δ:=fun h=>by rw[(kb h).2];trivial
 cases op<;>simp only[ft]at h<;>first|exact hl h|(cases h;done)|skip
 case box=>unfold pG at h;split at h<;>cases h;trivial
 case alloc=>cases h;trivial
 case mkmap=>cases h;trivial
 case buildSl=>
  unfold tg at h
  split at h
  ·split at h<;>cases h;trivial
  ·cases h
 case mksl=>
  unfold xF at h
  split at h
  ·split at h<;>cases h;trivial
  ·cases h
 case st1=>
  unfold wh at h
  split at h
  ·split at h
   ·rename_i v g o _ t cs fR
    split at h
    ·rename_i hc;cases h;exact⟨_,_,_,A2 fR,by simp;omega⟩
    ·cases h
   ·cases h
  ·cases h
 case stN=>
  unfold wi at h
  split at h
  ·split at h
   ·rename_i v g o xs _ _ t cs fR
    split at h
    ·rename_i hc;cases h;exact⟨_,_,_,A2 fR,by simp;omega⟩
    ·cases h
   ·cases h
  ·cases h
 case mapUpd=>
  unfold ub at h
  split at h
  ·split at h
   ·rename_i hm
    split at h
    ·cases h;exact WQ hm
    ·cases h
   ·cases h
  ·cases h
 case app=>
  unfold o3 at h
  split at h
  ·split at h
   ·split at h
    ·rename_i fR
     split at h
     ·cases h;exact P3 fR
     ·cases h
    ·cases h
   ·split at h
    ·cases h;trivial
    ·split at h
     ·cases h;trivial
     ·cases h
   ·cases h
  ·cases h
 case copy=>
  unfold wN at h
  split at h
  ·split at h
   ·rename_i fR
    split at h
    ·cases h;exact P3 fR
    ·cases h
   ·cases h
  ·cases h;trivial
  ·cases h
theorem GO{δ:Dl}(hs:Safe H δ)(k:Nat)(hk:(δ.app H (Al.last H)).length≤k) :
  js H.length δ (H++room (k-H.length))=δ.app H (Al.last H)++room (k-(δ.app H (Al.last H)).length)∧Fits H.length δ (H++room (k-H.length)):=by
 cases δ with
 | no=>exact⟨rfl,trivial⟩
 | cells v o xs=>
  obtain⟨t,g,cs,h1,h2⟩:=hs
  have fj:=(ae.1 h1).1
  have h3:(H++room (k-H.length))[v]? = some (.row t g cs):=by rw[ag fj];exact h1
  refine⟨?_,t,g,cs,h3,h2⟩
  simp only[js,Dl.app,h3,h1,bN]
  rw[List.set_append_left _ _ fj]
 | obj v ob=>
  refine⟨?_,trivial⟩
  simp only[js,Dl.app,bN]
  rw[List.set_append_left _ _ hs]
 | new ob=>
  simp only[Dl.app,Al.last,ay,aJ,cI,bj]at hk ⊢
  have e:k-H.length=(k-(H.length+1))+1:=by omega
  refine⟨?_,?_⟩
  ·simp only[js,Dl.app,Al.hole]
   rw[e,room,bJ,List.set_append_right _ _ (Nat.le_refl _)]
   simp[bt]
  ·show(H++room (k-H.length))[H.length]? = some .hole
   rw[e,ak (Nat.le_refl _)]
   simp[bJ]
end
section
variable{G:GT}{c:Ctx}{w:World}{H:U}
theorem Fw{r v:Nat}{L:Loc}:jB c (H++room r) v L↔jB c H v L:=by
 constructor
 ·rintro⟨o,ho,ha,eU⟩
  rw[Er v o (by rintro rfl;cases ha)]at ho
  exact⟨o,ho,ha,eU⟩
 ·rintro⟨o,ho,ha,eU⟩
  exact⟨o,(Er v o (by rintro rfl;cases ha)).2 ho,ha,eU⟩
theorem JP{r b:Nat}:jS c (H++room r) b↔jS c H b:=by
 constructor
 ·rintro⟨v,L,hl,r⟩;exact⟨v,L,Fw.1 hl,r⟩
 ·rintro⟨v,L,hl,r⟩;exact⟨v,L,Fw.2 hl,r⟩
theorem P0(h:e9 G c H w)(r:Nat):e9 G c (H++room r) w where
 inj v v' L L' h1 h2:=h.inj v v' L L' (Fw.1 h1) (Fw.1 h2)
 lt b hb:=h.lt b (JP.1 hb)
 nF b hb:=h.nF b (JP.1 hb)
 iQ:=h.iQ
 out v k hv:=h.out v k (by simp at hv;omega)
 jU v o k ho hk:=by
  rcases bh v H.length with hv|hv
  ·rw[ag hv]at ho;exact h.jU v o k ho hk
  ·exact h.out v k hv
 ob v o ho:=by
  rcases bh v H.length with hv|hv
  ·rw[ag hv]at ho;exact h.ob v o ho
  ·rw[ak hv,dm]at ho
   split at ho
   ·cases ho
    simp only[fJ]
    exact h.out v _ hv
   ·cases ho
 gl:=h.gl
 rt:=h.rt
theorem P1(r n:Nat):Step n c H w c (H++room r) w:=
 ⟨⟨rfl,Nat.le_refl _⟩,rfl,rfl,Nat.le_refl _,rfl,fun _ h=>h,fun _ h=>.inl h,fun _ _ _=>rfl,fun _ _ _ _ h=>h,fun _ h=>.inr (JP.1 h)⟩
end
end Go.AL
namespace Go.AL
open Go Go.Proofs Go.Shelf Go.RowKit Go.Lib Go.Sort
structure rN(P:Program)(f:FuncId)(sz:Nat):Prop where
 pos:0<sz
 full:∀ (α:Type) [Inhabited α] (enc:α→List Value) (_:∀ x,(enc x).length=sz) (_:∀ x,∀ v∈enc x,v.oneCell'=true) (cf:α→α→Int) (_:SWO (ltOf cf)) (g kJ off cap:Nat) (d:Array α) (w:World)
  (_:∀ args w,(callFunc g args).run P w = .ok (.enter g args) w) (_:CmpLays P g #[] enc sz cf kJ off d.size w) (_:HoldsK enc sz w kJ off d) (_:kJ<w.heap.size) (_:d.size<4611686018427387904),
  Calls P f #[.slice (some ⟨kJ,off,none⟩) d.size cap,.func (.func g) #[] #[]] w fun e w'=>e = .returned (.tuple #[])∧∃ d' n os,PermIn 0 d.size d d'∧SortedIn (ltOf cf) 0 d.size d'∧w'=sortWorldK enc sz w kJ off n d' os
 none:∀ (p:Option Addr) (cap:Nat) (fv:Value) (w:World),Calls P f #[.slice p 0 cap,fv] w fun e w'=>e = .returned (.tuple #[])∧w'=w
theorem rN.of{P:Program}{ρ:Ren}(L:SlLaysF0.n6 P ρ){k:Nat}(hk:0<k)(aE:∀ w,(isAgg (ρ.t 24)).run P w = .ok true w)(zE:∀ w,(Go.sizeOf (ρ.t 24)).run P w = .ok k w):rN P (ρ.f 6) k where
 pos:=hk
 full α _ enc h1 h2 cf hO g kJ off cap d w eg hc hH hb hs:=AnyQ.slices_SortFunc L k aE zE enc h1 h2 cf hO g #[] kJ off cap d w eg hc hH hb hs
 none:=AnyF.slices_SortFunc_none L
section
variable{P:Program}{G:GT}{c:Ctx}{H:U}{w:World}{α:Type}
structure El(c:Ctx)(w:World)(fc:α→List D)(l:List α) where
 vs:List Value
 a:α
 mem:a∈l
 cells:Cells (c.data c.F) w vs (fc a)
theorem Qm{β:Type}[Inhabited β](enc:β→List Value)(k kJ off m:Nat)(dk:Array β)(os:Array Obj){b:Nat}(hb:b<w.heap.size)(hn:b≠kJ):(sortWorldK enc k w kJ off m dk os).heap[b]? = w.heap[b]? := by
 simp only[sortWorldK,grow,putRowK,putRow,mapBlock,Go.Sort.ahead]
 rw[b7 (by simpa using hb),bL,if_neg (dB hn)]
theorem R6(h:e9 G c H w){W:World}(hs:w.heap.size≤W.heap.size)(hk:∀ b,c.F b→W.heap[b]? = w.heap[b]?):e9 G (c.data c.F) [] W where
 inj v v' L L' h1:=by obtain⟨o,ho,_⟩:=h1;simp at ho
 lt b hb:=by obtain⟨v,L,⟨o,ho,_⟩,_⟩:=hb;simp at ho
 nF b hb:=by obtain⟨v,L,⟨o,ho,_⟩,_⟩:=hb;simp at ho
 iQ b hb:=aK (h.iQ b hb) hs
 out _ _ _:=rfl
 jU _ _ _ _ _:=rfl
 ob v o ho:=by simp at ho
 gl g cs hg:=by
  obtain⟨h1,h2⟩:=(DZ h).gl g cs hg
  exact⟨h1,eP.carry (c:=c.data c.F) (c':=c.data c.F) (fun _ _ _ h=>h) (fun _ h=>h) (fun b o hF=>yW (hk b hF)) h2⟩
 rt:=h.rt
theorem ac7{W w':World}(h:iC W w'):∃ q os',w'=grow (W.drewN q) os':=by
 obtain⟨⟨h1,h2⟩,h3,h4,h5,h6⟩:=h
 refine⟨w'.drawn-W.drawn,w'.heap.extract W.heap.size w'.heap.size,?_⟩
 cases w' with
 | mk hp tp dr o ou=>
  cases W with
  | mk ql tp' dr' o' ou'=>
   simp only at *
   subst h1 h3 h4
   simp only[grow,World.drewN]
   congr 1
   ·apply Array.ext_getElem?
    intro i
    rcases bh i ql.size with hi|hi
    ·rw[b7 hi,h6 i hi]
    ·rw[Array.getElem?_append_right hi,Array.getElem?_extract]
     split
     ·congr 1;omega
     ·exact dt (by omega)
   ·omega
theorem gY.two{c:Ctx}{w:World}{vs:List Value}{d e:D}(h:gY c w vs [d,e]):∃ u v,vs = [u,v]∧eP c w u d∧eP c w v e:=by
 cases h with
 | cons h1 h=>cases h with
  | cons h2 h=>cases h;exact⟨_,_,rfl,h1,h2⟩
theorem acI{f g:FuncId}{sz:Nat}(hS:rN P f sz){x:D}{R:D→U→Prop}(k:R (.tup []) H):qH P G f [.emp,x] H R:=by
 intro c w vs eR hr
 obtain⟨u,v,rfl,h1,h2⟩:=gY.two hr
 cases h1
 refine(hS.none none 0 v w).mono ?_
 rintro e w' ⟨rfl,rfl⟩
 exact⟨_,c,_,H,rfl,k,Nat.le_refl _,eR,.tup [] [] rfl (fun i v d hv=>by simp at hv),Step.refl _ _ _ _⟩
theorem acJ{f g:FuncId}{sz:Nat}(hS:rN P f sz)(hg:oL P g=true)(fc:α→List D)(l:List α)(hl:∀ a∈l,(fc a).length=sz)(fE:∀ a∈l,fm (fc a)=true)(h0:0<l.length)(tD:l.length<4611686018427387904)
  (cf:α→α→Int) (xA:∀ x∈l,¬ cf x x<0) (tr:∀ x∈l,∀ y∈l,∀ z∈l,cf x y<0→cf y z<0→cf x z<0) (nt:∀ x∈l,∀ y∈l,∀ z∈l,¬ cf x y<0→¬ cf y z<0→¬ cf x z<0)
  (hc:∀ x∈l,∀ y∈l,qH P G g [.agg (fc x),.agg (fc y)] [] fun d _=>d = .i (cf x y)) {v gen:Nat} {t:TypeId} (hv:H[v]? = some (.row t gen (l.map fc).flatten)) {R:D→U→Prop}
  (k:∀ l':List α,l'.Perm l→l'.Pairwise (fun x y=>¬ cf y x<0)→R (.tup []) (H.set v (.row t gen (l'.map fc).flatten))) :
  qH P G f [.eN v gen sz 0 l.length,.fn (.func g) [] []] H R:=by
 have jd:=hS.pos
 intro c w vs eR hr
 obtain⟨u,v1,rfl,h1,h2⟩:=gY.two hr
 clear hr
 have hn:l.length=l.length:=rfl
 revert hn
 generalize hN:l.length=N at h1
 intro hn
 have jP:v1 = .func (.func g) #[] #[]:=by
  cases h2 with
  | fn _ fs cs df dc ib gS _ _=>
   have e1:fs = []:=aC.1 ib
   have e2:cs = []:=aC.1 gS
   subst e1;subst e2;rfl
 subst jP
 clear h2
 cases h1 with
 | kT=>omega
 | eN _ _ _ _ _ cap L eU gg iE iW jO=>
 have ga:=eR.ob v _ hv
 simp only[Ob.gen]at ga
 rw[eU]at ga
 simp only[fJ,gg]at ga
 obtain⟨arr,kY,I1,hlen,mZ⟩:=ga
 have pa:(l.map fc).flatten.length=N*sz:=by
  rw[Ei sz _ (by simpa using hl),List.length_map,hN]
 rw[pa]at hlen
 have tO:jS c H L.b:=⟨v,L,⟨_,hv,rfl,eU⟩,gg,rfl⟩
 have hblk:=eR.lt _ tO
 have hmul:∀ i,i<N→L.base+i*sz+sz≤arr.size:=fun i hi=>by
  have:(i+1)*sz≤N*sz:=bw _ hi
  rw[bR]at this
  omega
 let mk:Fin l.length→El c w fc l:=fun i=>{
  vs:=(arr.toList.drop (L.base+i.val*sz)).take sz
  a:=l[i.val]
  mem:=bH _
  cells:=by
   have hi:i.val<N:=by rw[← hN];exact i.isLt
   have hm:=hmul _ hi
   have tN:(fc l[i.val]).length=sz:=hl _ (bH _)
   have ia:∀ r,r<sz→∃ y d,((arr.toList.drop (L.base+i.val*sz)).take sz)[r]? = some y∧(fc l[i.val])[r]? = some d∧y.oneCell'=true∧eP c w y d:=fun r hr=>by
    have hd:(l.map fc).flatten[i.val*sz+r]? = (fc l[i.val])[r]? := by
     rw[Eh sz jd _ (by simpa using hl),show(i.val*sz+r) / sz=i.val from by rw[c6,Nat.mul_add_div jd,Nat.div_eq_of_lt hr];rfl,show(i.val*sz+r) % sz=r from by rw[c6,Nat.mul_add_mod,ec hr]]
     simp
    have hx:(fc l[i.val])[r]? = some (fc l[i.val])[r]:=List.getElem?_eq_getElem (by omega)
    obtain⟨y,Vi,Vj,Vk⟩:=mZ (i.val*sz+r) _ (hd.trans hx)
    refine⟨y,_,?_,hx,Vj,Vk⟩
    rw[az,if_pos hr,aB,bB,← Vi]
    congr 1;omega
   have nf:((arr.toList.drop (L.base+i.val*sz)).take sz).length=sz:=by simp;omega
   refine⟨by rw[nf,tN],fun y hy=>?_,fun r y d hy hd=>?_⟩
   ·obtain⟨r,hr⟩:=aD.1 hy
    have k9:r<sz:=by have:=(ae.1 hr).1;omega
    obtain⟨y',d,e1,_,e3,_⟩:=ia r k9
    rw[hr]at e1;cases e1;exact e3
   ·have k9:r<sz:=by have:=(ae.1 hy).1;omega
    obtain⟨y',d',e1,e2,_,e4⟩:=ia r k9
    rw[hy]at e1;cases e1
    rw[hd]at e2;cases e2
    exact eP.closed (c:=c) (c':=c.data c.F) (fun b hb=>hb) e4 (r7 (fE _ (bH _)) hd) }
 haveI:Inhabited (El c w fc l):=⟨mk ⟨0,h0⟩⟩
 let enc:El c w fc l→List Value:=fun e=>e.vs
 let d:Array (El c w fc l):=Array.ofFn mk
 have mu:d.size=N:=by simp[d,hN]
 have gj:∀ x:El c w fc l,(enc x).length=sz:=fun x=>by rw[show enc x=x.vs from rfl,x.cells.len,hl _ x.mem]
 have IH:∀ x:El c w fc l,∀ y∈enc x,y.oneCell'=true:=fun x y hy=>x.cells.one y hy
 have TY:d.toList.map (fun e=>e.a)=l:=by
  apply bK
  intro i
  simp only[d,ar,bB,Array.getElem?_ofFn]
  by_cases hi:i<l.length
  ·simp[hi,mk]
  ·simp[hi]
 have hO:SWO (ltOf fun x y:El c w fc l=>cf x.a y.a):=by
  refine⟨fun x=>?_,fun x y z=>?_,fun x y z=>?_⟩
  ·simpa[ltOf]using xA x.a x.mem
  ·simpa[ltOf]using tr x.a x.mem y.a y.mem z.a z.mem
  ·simpa[ltOf]using nt x.a x.mem y.a y.mem z.a z.mem
 have w9:∀ j,w.cell? ⟨L.b,j,none⟩=arr[j]? := fun j=>by simp[World.cell?,kY]
 have hH:HoldsK enc sz w L.b (L.base+0*sz) d:=by
  intro j hj
  have vt:j<N*sz:=by simpa[mu]using hj
  have hq:j / sz<N:=Nat.div_lt_of_lt_mul (by rw[c6];exact vt)
  have hr:j % sz<sz:=Nat.mod_lt _ jd
  have hm:=hmul _ hq
  have hjj:j / sz*sz+j % sz=j:=by rw[c6];exact Nat.div_add_mod j sz
  rw[get_flatK _ _ _ _ (by rw[mu];exact vt)]
  refine⟨?_,?_⟩
  ·have e1:d[j / sz]! = mk ⟨j / sz,by omega⟩:=by
    rw[getElem!_pos d (j / sz) (by omega)];simp[d]
   rw[w9,e1]
   show _=some (id ((arr.toList.drop (L.base+j / sz*sz)).take sz)[j % sz]!)
   rw[getElem!_pos _ (j % sz) (by simp;omega),List.getElem_take,List.getElem_drop,Array.getElem_toList,b9 (by omega)]
   simp only[id]
   congr 2;omega
  ·simp[World.frozen?,kY]
 have TU:CmpLays P g #[] enc sz (fun x y:El c w fc l=>cf x.a y.a) L.b (L.base+0*sz) d.size w:=by
  intro m os dk _ x y
  have hW:∀ b,c.F b→(sortWorldK enc sz w L.b (L.base+0*sz) m dk os).heap[b]? = w.heap[b]? := fun b hb=>Qm _ _ _ _ _ _ _ (eR.iQ b hb) fun e=>eR.nF _ tO (e▸hb)
  have oq:e9 G (c.data c.F) [] (sortWorldK enc sz w L.b (L.base+0*sz) m dk os):=R6 eR (size_sortWorldK_c _ _ _ _ _ _ _ _) hW
  have qo:∀ x:El c w fc l,eP (c.data c.F) (sortWorldK enc sz w L.b (L.base+0*sz) m dk os) (.agg (enc x).toArray) (.agg (fc x.a)):=fun x=>
   .agg _ _ x.cells.len x.cells.one fun i y d hy hd=>eP.carry (c:=c.data c.F) (c':=c.data c.F) (fun _ _ _ h=>h) (fun _ h=>h) (fun b o hF=>yW (hW b hF)) (x.cells.rep i y d hy hd)
  have:=hc x.a x.mem y.a y.mem _ _ _ oq (.cons (qo x) (.cons (qo y) .nil))
  rw[show(#[Value.agg (enc x).toArray,Value.agg (enc y).toArray] ++ #[]:Array Value) = [Value.agg (enc x).toArray,Value.agg (enc y).toArray].toArray by simp]
  refine Calls.mono this ?_
  rintro e w' ⟨u,c',d',H',he,rfl,_,_,hu,eX⟩
  cases hu
  exact⟨he,ac7 (u9 eX)⟩
 have eg:∀ args w,(callFunc g args).run P w = .ok (.enter g args) w:=Ge hg
 have il:=hS.full (El c w fc l) enc gj IH _ hO g L.b (L.base+0*sz) cap d w eg TU hH hblk (by omega)
 rw[mu]at il
 refine il.mono ?_
 rintro e w' ⟨rfl,d',n,os,⟨IJ,_,xi⟩,U0,rfl⟩
 have l6:d'.size=N:=by rw[IJ,mu]
 have UK:(d'.toList.map fun e=>e.a).Perm l:=by
  refine List.Perm.trans (List.Perm.map _ ?_) (List.Perm.of_eq TY)
  have e1:(d'.extract 0 N).toList=d'.toList:=by rw[← l6];simp
  have e2:(d.extract 0 N).toList=d.toList:=by rw[← mu];simp
  rw[e1,e2]at xi
  exact xi
 have UN:(d'.toList.map fun e=>e.a).Pairwise fun x y=>¬ cf y x<0:=by
  rw[dV,bk]
  intro i j hi hj vr
  have lB:i<d'.size:=by simpa using hi
  have vt:j<d'.size:=by simpa using hj
  have:=U0 i j (Nat.zero_le _) vr (by omega)
  rw[getElem!_pos d' j vt,getElem!_pos d' i lB]at this
  simpa[ltOf]using this
 have EP:((d'.toList.map fun e=>e.a).map fc).flatten.length=N*sz:=by
  rw[Ei sz _ (fun x hx=>?_)]
  ·simp[l6]
  ·simp only[av]at hx
   obtain⟨a,⟨e,_,rfl⟩,rfl⟩:=hx
   exact hl _ e.mem
 have hF:(flatK enc sz d').size=N*sz:=by rw[size_flatK,l6]
 have hF2:N*sz≤arr.size-L.base:=by omega
 obtain⟨w1,w2⟩:=Br eR hv eU gg kY (putCells id (L.base+0*sz) (flatK enc sz d') arr) (by simp[putCells]) I1 ((d'.toList.map fun e=>e.a).map fc).flatten (by rw[EP];exact hlen) (fun i dd hi=>by
  have lB:i<N*sz:=by rw[← EP];exact(ae.1 hi).1
  have hq:i / sz<N:=Nat.div_lt_of_lt_mul (by rw[c6];exact lB)
  have hr:i % sz<sz:=Nat.mod_lt _ jd
  have hx:=d'[i / sz].cells
  rw[Eh sz jd _ (fun x hx=>by
   simp only[av]at hx
   obtain⟨a,⟨e,_,rfl⟩,rfl⟩:=hx
   exact hl _ e.mem)]at hi
  have e1:(List.map fc (List.map (fun e=>e.a) d'.toList))[i / sz]? = some (fc d'[i / sz].a):=by
   simp only[ar,bB]
   rw[b9 (by omega)];rfl
  rw[e1,Option.bind_some]at hi
  have gL:(d'[i / sz].vs).length=sz:=gj d'[i / sz]
  have e2:(d'[i / sz].vs)[i % sz]? = some (d'[i / sz].vs)[i % sz]:=List.getElem?_eq_getElem (by omega)
  refine⟨(d'[i / sz].vs)[i % sz],?_,hx.one _ (bH _),eP.closed (c:=c.data c.F) (c':=c) (fun b hb=>hb) (hx.rep _ _ _ e2 hi) (r7 (fE _ d'[i / sz].mem) hi)⟩
  rw[putCells,eC,b9 (by omega),aX,if_pos ⟨by omega,by rw[hF];omega⟩]
  rw[show L.base+i-(L.base+0*sz)=i by omega,get_flatK _ _ _ _ (by rw[l6];exact lB),getElem!_pos d' (i / sz) (by omega)]
  show some (id (d'[i / sz].vs)[i % sz]!)=_
  rw[getElem!_pos _ (i % sz) (by omega)];rfl)
 have zF:iC (w.setRow L.b (putCells id (L.base+0*sz) (flatK enc sz d') arr)) (sortWorldK enc sz w L.b (L.base+0*sz) n d' os):=by
  refine⟨⟨rfl,Nat.le_add_right _ _⟩,rfl,rfl,?_,fun b hb=>?_⟩
  ·simp[World.setRow,sortWorldK,grow,putRowK,putRow,mapBlock,Go.Sort.ahead]
  ·have l3:b<w.heap.size:=by simpa[World.setRow]using hb
   by_cases qY:b=L.b
   ·subst qY
    rw[setRow_heap w L.b arr _ t _ kY]
    simp only[sortWorldK,grow,putRowK,putRow,mapBlock,Go.Sort.ahead]
    rw[b7 (by simpa using l3),bL,if_pos rfl,kY]
    rfl
   ·rw[Qm _ _ _ _ _ _ _ l3 qY]
    simp only[World.setRow,bL]
    rw[if_neg (dB qY)]
 exact⟨_,c,_,_,rfl,k _ UK UN,by simp,w1.mL zF,.tup [] [] rfl (fun i v d hv=>by simp at hv),w2.trans (x9 _ zF) (Nat.le_refl _)⟩
end
end Go.AL
namespace Go.AL
open Go Go.Proofs Go.Shelf Go.RowKit Go.Lib Go.Sort
structure uI(P:Program)(f:FuncId):Prop where
 full:∀ (kJ off cap:Nat) (zs:List Int) (w:World) (_:Holds (Value.int .i64) w kJ off zs.toArray) (_:kJ<w.heap.size) (_:zs.length<4611686018427387904),
  Calls P f #[.slice (some ⟨kJ,off,none⟩) zs.length cap] w fun e w'=>e = .returned (.tuple #[])∧∃ n os,w'=grow (putRow (Value.int .i64) (Go.Sort.ahead w n) kJ off (zs.mergeSort fun x y=>decide (x≤y)).toArray) os
section
variable{P:Program}{G:GT}{c:Ctx}{H:U}{w:World}
theorem acL{f:FuncId}(hS:uI P f)(l:List Int)(h0:0<l.length)(tD:l.length<4611686018427387904){v gen:Nat}{t:TypeId}(hv:H[v]? = some (.row t gen (l.map fun n=>D.i n))){R:D→U→Prop}
  (k:R (.tup []) (H.set v (.row t gen ((l.mergeSort fun x y=>decide (x≤y)).map fun n=>D.i n)))):qH P G f [.eN v gen 1 0 l.length] H R:=by
 intro c w vs eR hr
 cases hr with
 | @cons u _ _ _ h1 hr=>
 cases hr
 have hn:l.length=l.length:=rfl
 revert hn
 generalize hN:l.length=N at h1
 intro hn
 cases h1 with
 | kT=>omega
 | eN _ _ _ _ _ cap L eU gg iE iW jO=>
 have ga:=eR.ob v _ hv
 simp only[Ob.gen]at ga
 rw[eU]at ga
 simp only[fJ,gg]at ga
 obtain⟨arr,kY,I1,hlen,mZ⟩:=ga
 rw[List.length_map,hN]at hlen
 have tO:jS c H L.b:=⟨v,L,⟨_,hv,rfl,eU⟩,gg,rfl⟩
 have hblk:=eR.lt _ tO
 have w9:∀ j,w.cell? ⟨L.b,j,none⟩=arr[j]? := fun j=>by simp[World.cell?,kY]
 have hH:Holds (Value.int .i64) w L.b (L.base+0*1) l.toArray:=by
  intro j hj
  have vt:j<l.length:=by simpa using hj
  obtain⟨y,h1,h2,h3⟩:=mZ j (.i l[j]) (by simp[vt])
  cases h3
  refine⟨?_,by simp[World.frozen?,kY]⟩
  rw[w9,show L.base+0*1+j=L.base+j by omega,h1]
  simp[vt]
 have il:=hS.full L.b (L.base+0*1) cap l w hH hblk tD
 rw[hN]at il
 refine il.mono ?_
 rintro e w' ⟨rfl,n,os,rfl⟩
 generalize kO:(l.mergeSort fun x y=>decide (x≤y))=l' at k ⊢
 have EP:l'.length=N:=by rw[← kO,List.length_mergeSort,hN]
 obtain⟨w1,w2⟩:=Br eR hv eU gg kY (putCells (Value.int .i64) (L.base+0*1) l'.toArray arr) (by simp[putCells]) I1 (l'.map fun n=>D.i n) (by rw[List.length_map,EP];exact hlen) (fun i dd hi=>by
  rw[ar]at hi
  obtain⟨a,ha,rfl⟩:=ai.1 hi
  have lB:i<l'.length:=(ae.1 ha).1
  refine⟨.int .i64 a,?_,rfl,.val _⟩
  rw[putCells,eC,b9 (by omega),aX,if_pos ⟨by omega,by simp;omega⟩]
  rw[show L.base+i-(L.base+0*1)=i by omega,getElem!_pos l'.toArray i (by simpa using lB)]
  have:=(ae.1 ha).2
  simp[this])
 have zF:iC (w.setRow L.b (putCells (Value.int .i64) (L.base+0*1) l'.toArray arr)) (grow (putRow (Value.int .i64) (Go.Sort.ahead w n) L.b (L.base+0*1) l'.toArray) os):=by
  refine⟨⟨rfl,Nat.le_add_right _ _⟩,rfl,rfl,?_,fun b hb=>?_⟩
  ·simp[World.setRow,grow,putRow,mapBlock,Go.Sort.ahead]
  ·have l3:b<w.heap.size:=by simpa[World.setRow]using hb
   simp only[grow,putRow,mapBlock,Go.Sort.ahead]
   rw[b7 (by simpa using l3),bL]
   by_cases qY:L.b=b
   ·subst qY
    rw[setRow_heap w L.b arr _ t _ kY,if_pos rfl,kY]
    rfl
   ·simp only[World.setRow,bL]
    rw[if_neg qY,if_neg qY]
 exact⟨_,c,_,_,rfl,k,by simp,w1.mL zF,.tup [] [] rfl (fun i v d hv=>by simp at hv),w2.trans (x9 _ zF) (Nat.le_refl _)⟩
end
end Go.AL
namespace Go.AL
open Go
def Out.ex:Out→Exit
 | .norm _=>.normal
 | .exit id _=>.exit id
 | .ret _=>.ret
def abq(A:Array Oper):List (List Nat):=A.toList.foldl (init:=[]) fun acc o=>
 acc ++ [dedup ((o.after.toList.filter fun e=>Region.binds .any e).flatMap fun e=>e.on::acc.getD e.on [])]
def abA(l:List fo)(ord:List (List Nat)):List (Nat×Nat):=(List.range l.length).flatMap fun i=>(List.range i).filterMap fun k=>
 if (ord.getD i []).contains k then none else match l[k]?,l[i]? with
  | some a,some b=>if Gs a.op b.op then none else some (k,i)
  | _,_=>none
def Ov:List FuncId:=[227]
def VE:gp→Bool
 | .call f _=>Ov.contains f
 | .callN f _=>Ov.contains f
 | _=>false
def Ow(l:List fo)(ord:List (List Nat))(n:Nat):Bool:=n<l.length&&(List.range l.length).all fun i=>decide (i<n)||(List.range i).all fun k=>(ord.getD i []).contains k
def Mp(ic:List (Nat×Nat))(l:List fo)(ord:List (List Nat)):IR:=
 let n:=l.findIdx fun e=>VE e.op
 if Ow l ord n then .kh ic (l.take n) (l.drop n)else .draw ic l
def lQ:Code→List (Array Tmp×Code×Code)
 | .seq a b=>lQ a++lQ b
 | .cond _ a b=>lQ a++lQ b
 | .block _ a=>lQ a
 | .loop a=>lQ a
 | .rangeFunc _ ps a b=>(ps,a,b)::(lQ a++lQ b)
 | _=>[]
def cC(P:Program)(G:GT)(N:Nat)(rf:Nat):List (List Nat)→Code→Option (IR×List (List Nat))
 | hs,.skip=>some (.skip,hs)
 | hs,.region _ ops false=>match mo P G N ops ops.toList with
  | some l=>some (.ops l,hs)
  | none=>some (.bad,hs)
 | hs,.region _ ops true=>match mo P G N ops ops.toList with
  | some l=>
   let ord:=abq ops
   let ic:=abA l ord
   if tu ops&&sO ops ord&&JQ l ord ic then some (Mp ic l ord,hs)else some (.bad,hs)
  | none=>some (.bad,hs)
 | hs,.seq a b=>match cC P G N rf hs a with
  | some (x,ki)=>match cC P G N (rf+(lQ a).length) ki b with
   | some (y,lu)=>some (.seq x y,lu)
   | none=>none
  | none=>none
 | hs,.cond c a b=>match cX G c with
  | some x=>match cC P G N rf hs a with
   | some (y,ki)=>match cC P G N (rf+(lQ a).length) ki b with
    | some (z,lu)=>some (.cond x y z,lu)
    | none=>none
   | none=>none
  | none=>some (.bad,hs)
 | hs,.block id a=>match hs with
  | l::hs=>match cC P G N rf hs a with
   | some (x,ki)=>some (.block id l x,ki)
   | none=>none
  | []=>none
 | hs,.loop a=>match hs with
  | l::hs=>match cC P G N rf hs a with
   | some (x,ki)=>some (.loop l x,ki)
   | none=>none
  | []=>none
 | hs,.rangeFunc g _ _ _=>match cX G g,hs with
  | some x,l::hs=>some (.kF rf l x,hs)
  | _,_=>some (.bad,hs)
 | hs,.exit id=>some (.exit id,hs)
 | hs,.ret=>some (.ret,hs)
 | hs,_=>some (.bad,hs)
inductive lh(P:Program)(G:GT)(N:Nat):IR→Code→Prop
 | skip:lh P G N .skip .skip
 | ops {l id A} (h:mo P G N A A.toList=some l):lh P G N (.ops l) (.region id A false)
 | draw {ic l id A} (ord:List (List Nat)) (h:mo P G N A A.toList=some l) (he:tu A=true) (ho:sO A ord=true) (hp:JQ l ord ic=true):lh P G N (.draw ic l) (.region id A true)
 | kh {ic l es id A} (ord:List (List Nat)) (h:mo P G N A A.toList=some (l++es)) (he:tu A=true) (ho:sO A ord=true) (hp:JQ (l++es) ord ic=true) (tN:∀ i,l.length≤i→i<(l++es).length→∀ k,k<i→k∈ord.getD i []):lh P G N (.kh ic l es) (.region id A true)
 | seq {a b x y} (h1:lh P G N x a) (h2:lh P G N y b):lh P G N (.seq x y) (.seq a b)
 | cond {c a b x y z} (hc:cX G c=some x) (h1:lh P G N y a) (h2:lh P G N z b):lh P G N (.cond x y z) (.cond c a b)
 | block {id l a x} (h:lh P G N x a):lh P G N (.block id l x) (.block id a)
 | loop {l a x} (h:lh P G N x a):lh P G N (.loop l x) (.loop a)
 | kF {rf l x g ps ac bc} (hx:cX G g=some x) (h:G.rt rf=some (N,ps,ac,bc)):lh P G N (.kF rf l x) (.rangeFunc g ps ac bc)
 | exit {id}:lh P G N (.exit id) (.exit id)
 | ret:lh P G N .ret .ret
 | bad {c}:lh P G N .bad c
def uG(G:GT)(N rf:Nat)(code:Code):Prop:=∀ (i:Nat) (x:Array Tmp×Code×Code),(lQ code)[i]? = some x→G.rt (rf+i)=some (N,x)
theorem uG.left{G:GT}{N rf:Nat}{a b:Code}{l:List (Array Tmp×Code×Code)}(hl:l=lQ a++lQ b)(h:∀ (i:Nat) (x:Array Tmp×Code×Code),l[i]? = some x→G.rt (rf+i)=some (N,x)):uG G N rf a∧uG G N (rf+(lQ a).length) b:=by
 subst hl
 refine⟨fun i x hx=>h i x ?_,fun i x hx=>?_⟩
 ·rw[ag (ae.1 hx).1];exact hx
 ·rw[br]
  exact h _ x (by rw[ak (by omega)];simpa using hx)
theorem G1{P:Program}{G:GT}{N:Nat}:∀ {code:Code} {rf:Nat} {hs fH:List (List Nat)} {ir:IR},uG G N rf code→cC P G N rf hs code=some (ir,fH)→lh P G N ir code:=by
 intro code
 induction code with
 | skip=>intro rf hs fH ir hR h;simp only[cC]at h;cases h;exact .skip
 | region id A draw=>
  intro rf hs fH ir hR h
  cases draw
  ·simp only[cC]at h
   split at h
   ·rename_i l hl;cases h;exact .ops hl
   ·cases h;exact .bad
  ·simp only[cC]at h
   split at h
   ·rename_i l hl
    split at h
    ·rename_i hc
     cases h
     simp only[ah]at hc
     unfold Mp
     dsimp only
     split
     ·rename_i hL
      unfold Ow at hL
      simp only[ah,cg,decide_eq_true_eq,ao,bx,cP]at hL
      refine .kh _ (by rw[bM];exact hl) hc.1.1 hc.1.2 (by rw[bM];exact hc.2) fun i hi kZ k hk=>?_
      rw[bM]at kZ
      rw[aT]at hi
      rcases hL.2 i kZ with h|h
      ·omega
      ·exact h k hk
     ·exact .draw _ hl hc.1.1 hc.1.2 hc.2
    ·cases h;exact .bad
   ·cases h;exact .bad
 | seq a b mR rl=>
  intro rf hs fH ir hR h
  obtain⟨tG,tH⟩:=uG.left rfl hR
  simp only[cC]at h
  split at h
  ·rename_i x ki ha
   split at h
   ·rename_i y lu hb;cases h;exact .seq (mR tG ha) (rl tH hb)
   ·cases h
  ·cases h
 | cond c a b mR rl=>
  intro rf hs fH ir hR h
  obtain⟨tG,tH⟩:=uG.left rfl hR
  simp only[cC]at h
  split at h
  ·rename_i x hx
   split at h
   ·rename_i y ki ha
    split at h
    ·rename_i z lu hb;cases h;exact .cond hx (mR tG ha) (rl tH hb)
    ·cases h
   ·cases h
  ·cases h;exact .bad
 | block id a mR=>
  intro rf hs fH ir hR h
  simp only[cC]at h
  split at h
  ·split at h
   ·rename_i x ki ha;cases h;exact .block (mR hR ha)
   ·cases h
  ·cases h
 | loop a mR=>
  intro rf hs fH ir hR h
  simp only[cC]at h
  split at h
  ·split at h
   ·rename_i x ki ha;cases h;exact .loop (mR hR ha)
   ·cases h
  ·cases h
 | rangeFunc g ps a b mR rl=>
  intro rf hs fH ir hR h
  simp only[cC]at h
  split at h
  ·rename_i x l ki hx
   cases h
   exact .kF hx (hR 0 _ rfl)
  ·cases h;exact .bad
 | exit id=>intro rf hs fH ir hR h;simp only[cC]at h;cases h;exact .exit
 | ret=>intro rf hs fH ir hR h;simp only[cC]at h;cases h;exact .ret
 | _=>intro rf hs fH ir hR h;simp only[cC]at h;cases h;exact .bad
def cR(P:Program):ResultVar→Option qO
 | .tmp t=>some (.tmp t)
 | .cell a t=>match mG P t,iU P t with
  | some false,some _=>some (.ti a)
  | some true,some n=>some (.kK n a)
  | _,_=>none
def uM(P:Program):List ResultVar→Option (List qO)
 | []=>some []
 | x::r=>match cR P x,uM P r with
  | some a,some l=>some (a::l)
  | _,_=>none
def ur(P:Program)(k:Nat):Option (Nat×Array Tmp×Code×Code):=match P.funcs[k / 64]? with
 | some fn=>match fn.body with
  | some code=>(lQ code)[k % 64]?.map fun x=>(fn.ntmps,x)
  | none=>none
 | none=>none
theorem abH{P:Program}{G:GT}(hG:G.rt=ur P){f:Nat}{fn:Func}{code:Code}(hf:P.funcs[f]? = some fn)(hb:fn.body=some code)(hl:(lQ code).length≤64):uG G fn.ntmps (64*f) code:=by
 intro i x hx
 have hi:i<64:=aK (ae.1 hx).1 hl
 rw[hG]
 unfold ur
 rw[show(64*f+i) / 64=f by omega,show(64*f+i) % 64=i by omega,hf]
 simp[hb,hx]
structure yC(P:Program)(G:GT)(f:FuncId)(fn:eQ):Prop where
 ex:∃ func code hs fH,P.funcs[f]? = some func∧func.body=some code∧oL P f=true∧(lQ code).length≤64∧cC P G fn.ntmps (64*f) hs code=some (fn.body,fH)∧func.ntmps=fn.ntmps∧uM P func.results.toList=some fn.results
structure s7(P:Program)(G:GT)(rf:Nat)(R:mW):Prop where
 ex:∃ N ps ac bc,G.rt rf=some (N,ps,ac,bc)∧ps.toList=R.params∧(R.params.all fun p=>decide (p<N))=true∧lh P G N R.a ac∧lh P G N R.b bc
structure GJ(P:Program)(G:GT)(T:gb):Prop where
 rt:G.rt=ur P
 fn:∀ f fn,T.fn f=some fn→yC P G f fn
 round:∀ rf R,T.round rf=some R→s7 P G rf R
 sort:∀ f sz,T.sort f=some sz→rN P f sz
 pA:∀ f,T.pA f=true→uI P f
def Dx(F:Fence)(n:Nat)(P:Program)(c:Code)(Q:Exit→Act→World→Prop)(a:Act)(w:World):Prop:=
 ∀ (b:Frame) (k:List Item) (cs:List Frame),b.roundOf=F.round→F.fn b.fn→F.room (cs.length+1+n) →
  ∃ e a' w',Q e a' w'∧ArrivesIn (Machine.fenced P F) P (lone (b.atR a (.code c :: .inLoop c::k)) cs w) b k cs e a' w'
section
variable{F:Fence}{n:Nat}{P:Program}{Q:Exit→Act→World→Prop}{a:Act}{w:World}
theorem WB{c:Code}(h:c.wpIn F n P (Exit.then (Dx F n P c Q) Q) a w):Dx F n P c Q a w:=by
 intro b k cs gG hb hr
 obtain⟨e,yM,Bs,hq,kY⟩:=h b (.inLoop c::k) cs gG hb hr
 cases e with
 | normal=>
  obtain⟨Sp,Q2,adh,UQ,TI⟩:=hq b k cs gG hb hr
  exact⟨Sp,Q2,adh,UQ,.of_steps (StepsIn.trans kY (.one (fenced_calm hb hr rfl) stepR_inLoop)) TI⟩
 | exit id=>exact⟨_,yM,Bs,hq,.pass (x:=.inLoop c) rfl (fun _ _=>.inl (by simp)) kY⟩
 | goto l=>exact⟨_,yM,Bs,hq,.pass (x:=.inLoop c) rfl (fun _ _=>.inl (by simp)) kY⟩
 | ret=>exact⟨_,yM,Bs,hq,.pass (x:=.inLoop c) rfl (fun _ _=>.inl (by simp)) kY⟩
 | panic ch=>exact⟨_,yM,Bs,hq,.pass (x:=.inLoop c) rfl (fun _ _=>.inl (by simp)) kY⟩
 | outgrown=>exact⟨_,yM,Bs,hq,.pass (x:=.inLoop c) rfl (fun _ _=>.inl (by simp)) kY⟩
theorem ac8{c:Code}(h:Dx F n P c Q a w):(Code.loop c).wpIn F n P Q a w:=by
 intro b k cs gG hb hr
 obtain⟨e,a',w',hq,kY⟩:=h b k cs gG hb hr
 exact⟨e,a',w',hq,.of_steps (.one (fenced_calm hb hr rfl) stepR_loop) kY⟩
end
section
variable{P:Program}{G:GT}{c:Ctx}{w:World}{a:Act}{N:Nat}
theorem GN(δ:Dl)(H:U):H.length≤(δ.app H (Al.last H)).length:=by
 cases δ with
 | no=>exact Nat.le_refl _
 | cells v o xs=>simp only[Dl.app];split<;>simp
 | obj v ob=>simp[Dl.app]
 | new ob=>simp[Dl.app,Al.last]
theorem Gj(ks:kf)(H:U):(mF ks H).length=ks.length:=by simp[mF]
theorem O5{ks:kf}{H:U}{f:Nat→Nat}:∀ {vs:List Nat} {ds:List Deferred},ko c vs ds→(∀ v∈vs,∀ L,c.ι v 0=some L→(c.eS ks H).ι (f v) 0=some L)→ko (c.eS ks H) (vs.map f) ds:=by
 intro vs ds h
 induction h with
 | nil=>intro _;exact .nil
 | cons L h1 h2 _ ih=>intro hf;exact .cons L (hf _ (by simp) L h1) h2 (ih fun v hv=>hf v (by simp[hv]))
theorem Qx{n:Nat}{d:D}{v:Nat}(hv:v∈gE n d):n≤v:=by
 cases d<;>simp only[gE]at hv<;>first|(split at hv<;>simp at hv;omega)|(simp at hv)
theorem Pb{n:Nat}{o:Ob}{v:Nat}(hv:v∈mc n o):n≤v:=by
 unfold mc at hv
 split at hv
 ·obtain⟨l2,gS,I3⟩:=aO.1 hv
  obtain⟨d,_,rfl⟩:=av.1 gS
  exact Qx I3
 ·obtain⟨l2,gS,I3⟩:=aO.1 hv
  obtain⟨d,_,rfl⟩:=av.1 gS
  exact Qx I3
 ·cases hv
theorem Hj{s:St}(hs:ji G N c w s a){n:Nat}(hn:n≤s.H.length)(live:List Nat) :
  ∃ c',ji G N c' w (cut n live s) a∧Step n c s.H w c' (cut n live s).H w∧n≤(cut n live s).H.length:=by
 unfold cut
 split
 ·exact⟨c,⟨hs.eR,wO hs.env live,hs.size,hs.marks⟩,Step.refl _ _ _ _,hn⟩
 ·dsimp only
  generalize hK:dedup _=K
  have lK:∀ v∈K,v∈(((forget live s.env).map fun p=>gE n p.2).flatten++((s.H.take n).map (mc n)).flatten++s.marks.filter (n≤·)).filter (· < s.H.length):=fun v hv=>by
   rw[← hK]at hv;exact Az hv
  have jO:∀ (d:D) (v:Nat),v∈gE n d→n≤v:=by
   intro d v hv
   cases d<;>simp only[gE]at hv<;>first|(split at hv<;>simp at hv;omega)|(simp at hv)
  have Il:∀ v∈K,n≤v:=by
   intro v hv
   have:=(aI.1 (lK v hv)).1
   rcases List.mem_append.1 this with h|h
   ·rcases List.mem_append.1 h with h|h
    ·obtain⟨l,hl,gL⟩:=aO.1 h
     obtain⟨p,_,rfl⟩:=av.1 hl
     exact jO _ _ gL
    ·obtain⟨l,hl,gL⟩:=aO.1 h
     obtain⟨o,_,rfl⟩:=av.1 hl
     exact Pb gL
   ·simpa using (aI.1 h).2
  have jH:uE (gh n K):=Om Il (by rw[← hK];exact FO _)
  have eX:=Kb (ks:=gh n K) hs.eR (n:=n) Ol
  refine⟨c.eS (gh n K) s.H,⟨xX hs.eR jH,My hs.eR (wO hs.env live),hs.size,?_⟩,eX,?_⟩
  ·refine O5 hs.marks fun v hv L hL=>?_
   have fj:v<s.H.length:=by
    rcases bh v s.H.length with h|h
    ·exact h
    ·rw[hs.eR.out v 0 h]at hL;cases hL
   have:∃ i,fM (gh n K) v=some i:=by
    by_cases I4:v<n
    ·refine⟨v,J1 jH ?_⟩
     unfold gh
     rw[ag (by simpa using I4)]
     simp[I4]
    ·have U9:v∈K:=by
      rw[← hK]
      refine zc (aI.2 ⟨bq _ (aI.2 ⟨hv,by simpa using eG.1 I4⟩),by simpa using fj⟩)
     obtain⟨i,hi⟩:=aD.1 U9
     refine⟨n+i,J1 jH ?_⟩
     unfold gh
     rw[ak (by simp)]
     simp[hi]
   obtain⟨i,hi⟩:=this
   rw[hi]
   simp only[aS]
   rw[yg hi]
   exact hL
  ·rw[Gj];simp[gh]
theorem M1{s:St}(hs:ji G N c w s a)(S:List Nat):∃ c',ji G N c' w (jF S s) a∧Step s.H.length c s.H w c' (jF S s).H w∧(jF S s).H.length=s.H.length:=by
 refine⟨c.eS (jT s.H S) s.H,⟨xX hs.eR M0,My hs.eR hs.env,hs.size,?_⟩,Kb hs.eR MZ,HH⟩
 have:=O5 (ks:=jT s.H S) (H:=s.H) (f:=id) hs.marks fun v _ L hL=>by
  have fj:v<s.H.length:=by
   rcases bh v s.H.length with h|h
   ·exact h
   ·rw[hs.eR.out v 0 h]at hL;cases hL
  have hk:=MZ (S:=S) v fj
  simp only[ai]at hk
  obtain⟨p,hp,e⟩:=hk
  simp only[Ctx.eS,id,hp,e]
  exact hL
 simpa[jF]using this
theorem abt{n:Nat}{d:D}{v:Nat}(hv:v∈xN n d):n≤v:=by
 unfold xN at hv
 split at hv
 ·split at hv
  ·simp at hv;omega
  ·simp at hv
 ·obtain⟨l,hl,gL⟩:=aO.1 hv
  obtain⟨d,_,rfl⟩:=av.1 hl
  split at gL
  ·split at gL
   ·simp at gL;omega
   ·simp at gL
  ·simp at gL
 ·simp at hv
theorem Wm{H:U}(eR:e9 G c H w){n:Nat}(hn:n≤H.length)(own:Nat){u:Value}{d:D}(hr:eP c w u d) :
  ∃ c',e9 G c' (leave own n H d).2 w∧eP c' w u (leave own n H d).1∧Step n c H w c' (leave own n H d).2 w∧n≤(leave own n H d).2.length:=by
 unfold leave
 split
 ·exact⟨c,eR,hr,Step.refl _ _ _ _,hn⟩
 ·dsimp only
  generalize hK:dedup _=K
  have Il:∀ v∈K,n≤v:=by
   intro v hv
   rw[← hK]at hv
   have:=(aI.1 (Az hv)).1
   rcases List.mem_append.1 this with h|h
   ·split at h
    ·simp at h
    ·exact abt h
    ·simpa using (aI.1 (aM h)).2
    ·simpa using (aI.1 h).2
   ·obtain⟨l,hl,gL⟩:=aO.1 h
    obtain⟨o,_,rfl⟩:=av.1 hl
    exact Pb gL
  have jH:uE (gh n K):=Om Il (by rw[← hK];exact FO _)
  exact⟨c.eS (gh n K) H,xX eR jH,uj eR 40 hr,Kb eR Ol,by rw[Gj];simp[gh]⟩
theorem WX(args:List D)(k:Nat):(pj args).get k=(args[k]?).getD .any:=by
 have key:∀ (l:List D) (i k:Nat),Env.get ((l.zipIdx i).map fun p=>(p.2,p.1)) k=if k<i then .any else(l[k-i]?).getD .any:=by
  intro l
  induction l with
  | nil=>intro i k;simp[Env.get]
  | cons d l ih=>
   intro i k
   simp only[List.zipIdx_cons,List.map_cons,Env.qX]
   split
   ·rename_i e;subst e;simp
   ·rename_i e
    rw[ih (i+1) k]
    by_cases hk:k<i
    ·rw[if_pos (by omega),if_pos hk]
    ·rw[if_neg (by omega),if_neg hk]
     rw[show k-i=(k-(i+1))+1 by omega,dj]
 have:=key args 0 k
 simpa[pj]using this
theorem Sg{vs:List Value}{args:List D}(hr:gY c w vs args)(n:Nat):jh c w (pj args).get { tmps:=vs.toArray++Array.replicate (n-vs.toArray.size) undef,defers:=[] }:=fun k=>by
 rw[WX]
 have hl:=hr.length
 cases hk:args[k]? with
 | none=>exact .any _
 | some d=>
  have fj:k<vs.length:=by rw[hl];exact(ae.1 hk).1
  have hv:vs[k]? = some vs[k]:=by simp[fj]
  have:=hr.get k vs[k] d hv hk
  simp only[aS]
  have e:(vs.toArray++Array.replicate (n-vs.toArray.size) undef).getD k undef=vs[k]:=by
   rw[bO,b7 (by simpa using fj)]
   simp[fj]
  rw[e];exact this
theorem Wx{H:U}(h:e9 G c H w){t:TypeId}(ha:mG P t=some false){x d:D}{u:Value}(hr:eP c w u x)(hk:rn x H=some d) :
  ∃ v,(Instr.loadAt t u).run P w = .ok v w∧eP c w v d∧∃ b o,u = .pointer (some ⟨b,o,none⟩):=by
 unfold rn at hk
 split at hk
 ·rename_i v g o
  split at hk
  ·rename_i t' cs fR
   have hv:=pW fR
   obtain⟨b,p,rfl,hc⟩:=DL h hv hr
   obtain⟨u,hu,_,h2⟩:=Gf ha hc (d:=d) (by simpa using hk)
   exact⟨u,hu,h2,b,p,rfl⟩
  ·cases hk
 ·rename_i cs
  obtain⟨b,p,rfl,_,hc⟩:=uP hr
  obtain⟨u,hu,_,h2⟩:=Gf ha hc hk
  exact⟨u,hu,h2,b,p,rfl⟩
 ·cases hk
theorem Wy{H:U}(h:e9 G c H w){t:TypeId}{n:Nat}(ha:mG P t=some true)(hs:iU P t=some n){x d:D}{u:Value}(hr:eP c w u x)(hk:rp n x H=some d) :
  ∃ v,(Instr.loadAt t u).run P w = .ok v w∧eP c w v d∧∃ b o,u = .pointer (some ⟨b,o,none⟩):=by
 unfold rp at hk
 split at hk
 ·rename_i v g o
  split at hk
  ·rename_i t' cs fR
   split at hk
   ·rename_i hle
    cases hk
    have hv:=pW fR
    obtain⟨b,p,rfl,hc⟩:=DL h hv hr
    obtain⟨u,hu,h2⟩:=Gg (n:=n) ha hs hc (by simp;omega)
    exact⟨u,hu,h2,b,p,rfl⟩
   ·cases hk
  ·cases hk
 ·rename_i cs
  split at hk
  ·rename_i hle
   cases hk
   obtain⟨b,p,rfl,_,hc⟩:=uP hr
   obtain⟨u,hu,h2⟩:=Gg (n:=n) ha hs hc hle
   exact⟨u,hu,h2,b,p,rfl⟩
  ·cases hk
 ·cases hk
def vU(tmps:Array Value):ResultVar→Sem Value
 | .tmp t=>pure (tmps.getD t undef)
 | .cell a t=>do loadVar t (← asAddr (tmps.getD a undef))
theorem abQ{s:St}(hs:ji G N c w s a){x:ResultVar}{X:qO}(hx:cR P x=some X){d:D}(hd:xV s X=some d) :
  ∃ v,(vU a.tmps x).run P w = .ok v w∧eP c w v d:=by
 cases x with
 | tmp t=>
  cases hx
  simp only[xV,aq]at hd
  subst hd
  exact⟨_,rfl,hs.env t⟩
 | cell p t=>
  have hp:=hs.env p
  generalize hu:a.tmps.getD p undef=u at hp
  have key:∀ v,(Instr.loadAt t u).run P w = .ok v w→(∃ b o,u = .pointer (some ⟨b,o,none⟩))→(vU a.tmps (.cell p t)).run P w = .ok v w:=by
   rintro v h ⟨b,o,rfl⟩
   simpa[Instr.loadAt,Instr.sureAddr,asAddr,vU,hu]using h
  simp only[cR]at hx
  split at hx
  ·rename_i n H7 gj
   cases hx
   obtain⟨v,hv,hr,IQ⟩:=Wx hs.eR H7 hp hd
   exact⟨v,key v hv IQ,hr⟩
  ·rename_i n H7 gj
   cases hx
   obtain⟨v,hv,hr,IQ⟩:=Wy hs.eR H7 gj hp hd
   exact⟨v,key v hv IQ,hr⟩
  ·cases hx
theorem J0{s:St}(hs:ji G N c w s a):∀ (l:List ResultVar) {xs:List qO} {ds:List D},uM P l=some xs→pV s xs=some ds →
  ∃ vs:List Value,(l.mapM (vU a.tmps)).run P w = .ok vs w∧gY c w vs ds
 | [],xs,ds,h1,h2=>by
  cases h1;cases h2
  exact⟨[],rfl,.nil⟩
 | x::l,xs,ds,h1,h2=>by
  simp only[uM]at h1
  split at h1
  ·rename_i X Kt hX I'
   cases h1
   simp only[pV]at h2
   split at h2
   ·rename_i d ds' hd mu
    cases h2
    obtain⟨v,hv,hr⟩:=abQ hs hX hd
    obtain⟨vs,iS,sB⟩:=J0 hs l I' mu
    exact⟨v::vs,by simp[dL,hv,iS],.cons hr sB⟩
   ·cases h2
  ·cases h1
theorem abS{s:St}(hs:ji G N c w s a){func:Func}{fn:eQ}(hx:uM P func.results.toList=some fn.results){d:D}(hd:AL.results fn s=some d) :
  ∃ v,(Go.results func a.tmps).run P w = .ok v w∧eP c w v d:=by
 have e:∀ vs:List Value,(func.results.toList.mapM (vU a.tmps)).run P w = .ok vs w→(Go.results func a.tmps).run P w = .ok (if h:vs.toArray.size=1 then vs.toArray[0]else .tuple vs.toArray) w:=by
  intro vs iS
  have h1:(func.results.mapM (vU a.tmps)).run P w = .ok vs.toArray w:=by
   rw[dZ,Sem.run_map,iS];rfl
  have h2:Go.results func a.tmps=(do let vs ← func.results.mapM (vU a.tmps);pure (if h:vs.size=1 then vs[0]else .tuple vs)):=rfl
  rw[h2,Sem.run_bind,h1]
  rfl
 unfold AL.results at hd
 split at hd
 ·rename_i d' gy
  cases hd
  obtain⟨vs,iS,hr⟩:=J0 hs _ hx gy
  cases hr with
  | cons h t=>
   cases t
   exact⟨_,e _ iS,h⟩
 ·rename_i ds fY gy
  cases hd
  obtain⟨vs,iS,hr⟩:=J0 hs _ hx gy
  refine⟨_,e _ iS,?_⟩
  have hl:vs.toArray.size≠1:=by
   intro h1
   have h2:ds.length=1:=by rw[← hr.length];simpa using h1
   match ds,h2 with
   | [d],_=>exact fY d rfl
  rw[dif_neg hl]
  exact .tup vs ds hr.length hr.get
 ·cases hd
end
end Go.AL
namespace Go.AL
open Go
section
variable{P:Program}{G:GT}{c:Ctx}{H:U}{w:World}{env:fD}{a:Act}{N:Nat}
theorem Mq(h:e9 G c H w){v:Nat}{ob:Ob}(hv:H[v]? = some ob)(ha:ob.alive=true){L:Loc}(eU:c.ι v ob.gen=some L)(gg:L.ij=false)
  {w':World} (nN:w'.os=w.os∧w.drawn≤w'.drawn) (IZ:w'.tape=w.tape) (jV:w'.output=w.output) (z7:w'.heap.size=w.heap.size) (jH:∀ b,b≠L.b→w'.heap[b]? = w.heap[b]?) :
  e9 G c (H.set v .dead) w'∧Step H.length c H w c (H.set v .dead) w':=by
 have fj:=(ae.1 hv).1
 have zN:jB c H v L:=⟨ob,hv,ha,eU⟩
 have tO:jS c H L.b:=⟨v,L,zN,gg,rfl⟩
 have hL:∀ u l,jB c (H.set v .dead) u l→u≠v∧jB c H u l:=by
  rintro u l ⟨o,ho,fO,hi⟩
  rw[oB fj]at ho
  split at ho
  ·cases ho;cases fO
  ·rename_i fY;exact⟨fY,o,ho,fO,hi⟩
 have oM:∀ b,jS c (H.set v .dead) b→jS c H b:=fun b ⟨u,l,hl,r⟩=>⟨u,l,(hL u l hl).2,r⟩
 have hs:Step H.length c H w c (H.set v .dead) w':=
  ⟨nN,IZ,jV,by omega,rfl,fun _ h=>h,fun _ h=>.inl h,fun b _ hn=>jH b (fun e=>hn (e▸tO)),fun _ _ _ _ h=>h,fun b hb=>.inr (oM b hb)⟩
 have hr:∀ u d,eP c w u d→eP c w' u d:=fun u d hd=>hd.nA h.toHeapOK hs
 refine⟨{
  inj:=fun u u' l l' h1 h2=>h.inj u u' l l' (hL _ _ h1).2 (hL _ _ h2).2
  lt:=fun b hb=>by rw[z7];exact h.lt b (oM b hb)
  nF:=fun b hb=>h.nF b (oM b hb)
  iQ:=fun b hb=>by rw[z7];exact h.iQ b hb
  out:=fun u k hu=>h.out u k (by simpa using hu)
  jU:=fun u o k ho hk=>by
   rw[oB fj]at ho
   split at ho
   ·cases ho
    rcases hk with hk|⟨hk,_⟩<;>cases hk
   ·exact h.jU u o k ho hk
  ob:=fun u o ho=>by
   rw[oB fj]at ho
   split at ho
   ·cases ho;simp[fJ]
   ·rename_i fY
    refine fJ.mz (c:=c) (c':=c) rfl hr (fun l hl jm hd=>jH _ fun e=>fY (h.inj u v l L ⟨o,ho,hd,hl⟩ zN jm gg e)) (h.ob u o ho)
  gl:=fun g cs hg=>let ⟨a,b⟩:=h.gl g cs hg;⟨a,hr _ _ b⟩
  rt:=h.rt },hs⟩
theorem Wn{fn:Func}{tmps:Array Value}{R:Ending→World→Prop}:∀ {ms:List Nat} {ds:List Deferred} {H H1:U} {w:World},ko c ms ds→e9 G c H w→kill ms H=some H1 →
  (∀ w1,e9 G c H1 w1→Step H.length c H w c H1 w1→H1.length=H.length→LeavesIn (FW none) 0 P fn tmps R [] .returning w1)→LeavesInM (FW none) 0 P fn tmps R ds .returning w:=by
 intro ms
 induction ms with
 | nil=>
  intro ds H H1 w hm eR hk k
  cases hm
  cases hk
  exact k w eR (Step.refl _ _ _ _) rfl
 | cons v ms ih=>
  intro ds H H1 w hm eR hk k
  cases hm with
  | @cons _ _ ds L h1 h2 hm=>
   simp only[kill]at hk
   split at hk
   ·rename_i hv
    have ga:=eR.ob v _ hv
    simp only[Ob.gen]at ga
    rw[h1]at ga
    simp only[fJ]at ga
    have hblk:=ga.resolve_left (by simp[h2])
    have fj:L.b<w.heap.size:=(aN.1 hblk).1
    obtain⟨k1,k2⟩:=Mq (w':={ w with heap:=w.heap.setIfInBounds L.b (.deferred none) }) eR hv rfl h1 h2 ⟨rfl,Nat.le_refl _⟩ rfl rfl (by simp) (fun b hb=>by rw[bE (dB hb)])
    refine⟨by simp,.inl ⟨L.b,{ w with heap:=w.heap.setIfInBounds L.b (.deferred none) },rfl,?_,?_⟩⟩
    ·simp[Instr.takeDeferred,getObj,setObj,Sem.run,hblk]
    ·refine ih hm k1 hk fun w1 q1 q2 q3=>k w1 q1 (k2.trans q2 (by simp)) (by rw[q3];simp)
   ·cases hk
theorem ab9(eR:e9 G c H w)(he:jh c w env a){o:Oper}{io:gp}(hc:kV P G o=some io){v:Nat}{args:List D}(iq:yieldOf env io=some (v,args)){rf:Nat}{e0:Env}(hv:H[v]? = some (.fZ rf e0 .ready)) :
  ∃ (L:Loc) (r:Loop) (vs:List Value),c.ι v 0=some L∧L.ij=false∧w.heap[L.b]? = some (.loop r)∧gY c w vs args ∧
   (vs.length=r.params.size→(execOp a.eval o).run P w = .ok (.round L.b r.fn ((r.params.zip vs.toArray).foldl (fun tmps (t,a)=>tmps.setIfInBounds t a) r.tmps) r.assign r.body) w):=by
 unfold yieldOf at iq
 split at iq
 ·rename_i fx Q1
  split at iq
  ·rename_i v' na
   cases iq
   obtain⟨cl,ho⟩:=Mh hc rfl
   have EF:=hc
   unfold kV at hc
   simp only[ho,ax,af]at hc
   obtain⟨xs,o8,hc⟩:=hc
   have gT:=uN eR he cl.args.toList o8
   have kA:∃ x X,cl.callee = .value x∧cX G x=some X∧X=fx∧xs=Q1:=by
    split at hc
    ·split at hc
     ·exfalso
      simp only[aF,aq]at hc
      split at hc<;>cases hc
     ·cases hc
    ·rename_i x fY vg
     simp only[af,aF,aq]at hc
     obtain⟨X,hX,hh⟩:=hc
     cases hh
     exact⟨x,fx,vg,hX,rfl,rfl⟩
    ·split at hc
     ·simp only[af]at hc
      obtain⟨td,_,hc⟩:=hc
      split at hc
      ·simp only[af]at hc
       obtain⟨i,_,z,_,ud,_,hc⟩:=hc
       split at hc
       ·split at hc
        ·cases hc
        ·cases hc
       ·cases hc
      ·cases hc
     ·cases hc
    ·split at hc
     ·simp only[af]at hc
      obtain⟨td,_,hc⟩:=hc
      split at hc
      ·simp only[af]at hc
       obtain⟨ud,_,hc⟩:=hc
       split at hc
       ·simp only[af]at hc
        obtain⟨n,_,hc⟩:=hc
        split at hc
        ·cases hc
        ·cases hc
       ·cases hc
      ·cases hc
     ·cases hc
    ·split at hc
     ·split at hc
      ·cases hc
      ·cases hc
      ·cases hc
      ·cases hc
     ·cases hc
    ·cases hc
    ·cases hc
    ·cases hc
   obtain⟨x,X,vg,hX,rfl,rfl⟩:=kA
   have hr:=gD eR he hX
   rw[na]at hr
   generalize hu:a.eval x=u at hr
   cases hr with
   | gO _ L eU gg=>
    have ga:=eR.ob v _ hv
    simp only[Ob.gen]at ga
    rw[eU]at ga
    simp only[fJ]at ga
    obtain⟨_,r,hblk,_⟩:=ga
    refine⟨L,r,_,eU,gg,hblk,gT,fun gj=>?_⟩
    have e:cl.args.map a.eval=(cl.args.toList.map a.eval).toArray:=by cases cl.args;simp
    have U2:cl.args.size=r.params.size:=by simpa using gj
    simp only[execOp,ho,resolve,vg,hu,Deferred.ofValue,Sem.run_bind,Sem.run_pure,Result.andThen_ok,invoke,Instr.yield,Instr.getLoop,getObj,Sem.run,hblk]
    simp[Sem.run,hblk,U2,e]
  ·cases iq
 ·cases iq
theorem Mx:∀ (ps:List Tmp) (vs:List Value) (ds:List D) (tmps:Array Value) (e0:Env),gY c w vs ds→(∀ p∈ps,p<tmps.size)→(∀ k,eP c w (tmps.getD k undef) (e0.get k)) →
  ∀ k,eP c w (((ps.zip vs).foldl (fun(tmps:Array Value) (p:Tmp×Value)=>tmps.setIfInBounds p.1 p.2) tmps).getD k undef) ((px ps ds e0).get k)
 | [],vs,ds,tmps,e0,_,_,h,k=>by simpa[px]using h k
 | p::ps,[],ds,tmps,e0,hr,_,h,k=>by cases hr;simpa[px]using h k
 | p::ps,v::vs,ds,tmps,e0,hr,hp,h,k=>by
  cases hr with
  | @cons _ d _ ds hd hr=>
   simp only[List.zip_cons_cons,cw,px]
   refine Mx ps vs ds (tmps.setIfInBounds p v) ((p,d)::e0) hr (fun q hq=>by simpa using hp q (by simp[hq])) (fun j=>?_) k
   have fj:p<tmps.size:=hp p (by simp)
   simp only[Env.qX]
   split
   ·rename_i e;subst e
    have:(tmps.setIfInBounds p v).getD p undef=v:=by simp[Array.getD,fj]
    rw[this];exact hd
   ·rename_i e
    have:(tmps.setIfInBounds p v).getD j undef=tmps.getD j undef:=by
     simp only[bO,bE e]
    rw[this];exact h j
theorem MW:∀ (l:List (Tmp×Value)) (tmps:Array Value),(l.foldl (fun(tmps:Array Value) (p:Tmp×Value)=>tmps.setIfInBounds p.1 p.2) tmps).size=tmps.size
 | [],_=>rfl
 | p::l,tmps=>by simp only[cw];rw[MW l];simp
def rH(G:GT)(N n:Nat)(fL:Bool)(c:Ctx)(H:U)(w:World)(R:Out→Prop)(Q:Exit→Act→World→Prop):Prop:=
 ∀ (o:Out) (c':Ctx) (w':World) (a':Act),R o→o.st.fL=fL→n≤o.st.H.length→ji G N c' w' o.st a'→Step n c H w c' o.st.H w'→Q o.ex a' w'
theorem FZ{s:St}(hs:ji G N c w s a){v rf:Nat}{e0:Env}{st:oZ}(hv:s.H[v]? = some (.fZ rf e0 st)){L:Loc}(eU:c.ι v 0=some L) :
  ∃ r:Loop,w.heap[L.b]? = some (.loop r)∧L.ij=false∧(∀ k,eP c w (r.tmps.getD k undef) (e0.get k))∧(∃ M,G.rt rf=some (M,r.params,r.assign,r.body)∧M≤r.tmps.size)∧st.is r:=by
 have ga:=hs.eR.ob v _ hv
 simp only[Ob.gen]at ga
 rw[eU]at ga
 simp only[fJ]at ga
 obtain⟨h1,r,h2,h3,h4,h5⟩:=ga
 rw[hs.eR.rt]at h4
 exact⟨r,h2,h1,h3,h4,h5⟩
theorem PF{s:St}(hs:ji G N c w s a){v rf:Nat}{e0:Env}{st st':oZ}(hv:s.H[v]? = some (.fZ rf e0 st)){L:Loc}(eU:c.ι v 0=some L){r:Loop}(hr:w.heap[L.b]? = some (.loop r))
  (r':Loop) (h1:r'.tmps=r.tmps) (h2:r'.params=r.params) (h3:r'.assign=r.assign) (h4:r'.body=r.body) (h5:st'.is r') :
  ji G N c { w with heap:=w.heap.setIfInBounds L.b (.loop r') } { s with H:=s.H.set v (.fZ rf e0 st') } a∧Step s.H.length c s.H w c (s.H.set v (.fZ rf e0 st')) { w with heap:=w.heap.setIfInBounds L.b (.loop r') } ∧
   (setObj L.b (.loop r')).run P w = .ok () { w with heap:=w.heap.setIfInBounds L.b (.loop r') }:=by
 obtain⟨r0,a1,a2,a3,⟨M,a4,a6⟩,a5⟩:=FZ hs hv eU
 rw[hr]at a1
 cases a1
 obtain⟨k1,k2⟩:=Bq hs.eR hv rfl rfl (ob':=.fZ rf e0 st') rfl eU a2 (.loop r') (fun w' qp qo=>by
  simp only[fJ]
  refine⟨a2,r',qp,fun k=>by rw[h1];exact qo _ _ (a3 k),⟨M,?_,by rw[h1];exact a6⟩,h5⟩
  rw[hs.eR.rt,a4,h2,h3,h4])
 exact⟨⟨k1,fun k=>(hs.env k).nA hs.eR.toHeapOK k2,hs.size,hs.marks⟩,k2,by simp[setObj,Sem.run,hr]⟩
theorem VC(ro:Option Nat)(l:Nat):(FW ro).inRound l=FW (some l):=rfl
theorem adf{s:St}{ro:Option Nat}{n:Nat}{o:Oper}{io:gp}{next:Act→World→Prop}{Q:Exit→Act→World→Prop}(hs:ji G N c w s a)(hc:kV P G o=some io)
  (hd:o5 N o.dst=true) {v rf:Nat} {args:List D} {e0:Env} (iq:yieldOf s.env.get io=some (v,args)) (hv:s.H[v]? = some (.fZ rf e0 .ready)) {M:Nat} {ps:Array Tmp} {ac bc:Code} (qh:G.rt rf=some (M,ps,ac,bc))
  (hlen:args.length=ps.size) (EY:∀ p∈ps.toList,p<M) {Ra Rb:Out→Prop}
  (hA:∀ (ro:Option Nat) (n:Nat) (Q:Exit→Act→World→Prop) (c:Ctx) (w:World) (a:Act),ji G M c w { env:=px ps.toList args e0,H:=s.H,fL:=true } a →
   rH G M s.H.length true c s.H w Ra Q→ac.wpIn (FW ro) n P Q a w)
  (hn:∀ o,Ra o→o.stop=false∧∃ jj,o.st.H[v]? = some (.fZ rf jj .ready))
  (hB:∀ s1 jj,Ra (.norm s1)→s1.fL=true→s1.H[v]? = some (.fZ rf jj .ready)→∀ (ro:Option Nat) (n:Nat) (Q:Exit→Act→World→Prop) (c:Ctx) (w:World) (a:Act),ji G M c w { s1 with H:=s1.H.set v (.fZ rf jj .busy) } a →
   rH G M s1.H.length true c (s1.H.set v (.fZ rf jj .busy)) w Rb Q→bc.wpIn (FW ro) n P Q a w)
  (hm:∀ o,Rb o→∃ ja,o.st.H[v]? = some (.fZ rf ja .busy))
  (k:∀ (q:Out) (ja:Env) (c':Ctx) (w':World) (a':Act),Rb q→q.st.H[v]? = some (.fZ rf ja .busy)→s.H.length≤q.st.H.length→ji G N c' w' { s with env:=put s.env o.dst (.b !q.stop),H:=q.st.H.set v (.fZ rf ja q.uq) } a' →
   Step s.H.length c s.H w c' (q.st.H.set v (.fZ rf ja q.uq)) w'→next a' w'):o.wpIn (FW ro) n P a w next Q:=by
 obtain⟨L,r,vs,eU,gg,hblk,gT,gK⟩:=ab9 hs.eR hs.env hc iq hv
 obtain⟨r0,a1,_,a3,⟨M',a4,a6⟩,a5⟩:=FZ hs hv eU
 rw[hblk]at a1
 cases a1
 rw[qh]at a4
 cases a4
 have gL:v<s.H.length:=(ae.1 hv).1
 have gj:vs.length=r.params.size:=by rw[gT.length];exact hlen
 refine⟨fun _ _=>trivial,?_⟩
 rw[Oper.semAt_plain (FW ro) a.eval o (vO hc),gK gj]
 refine⟨fun h=>by simp[Fence.wide]at h,roundIn_of_wpIn (F:=FW ro) trivial ?_⟩
 rw[VC]
 have Ns:(r.params.zip vs.toArray).foldl (fun tmps (t,a)=>tmps.setIfInBounds t a) r.tmps=(r.params.toList.zip vs).foldl (fun(tmps:Array Value) (p:Tmp×Value)=>tmps.setIfInBounds p.1 p.2) r.tmps:=by
  rw[← Array.foldl_toList];simp
 refine hA (some L.b) _ _ c w _ ⟨hs.eR,fun j=>?_,?_,.nil⟩ ?_
 ·show eP c w (Array.getD ((r.params.zip vs.toArray).foldl (fun tmps (t,a)=>tmps.setIfInBounds t a) r.tmps) j undef) _
  rw[Ns]
  exact Mx _ _ _ _ _ gT (fun p hp=>aK (EY p hp) a6) a3 j
 ·show M≤Array.size ((r.params.zip vs.toArray).foldl (fun tmps (t,a)=>tmps.setIfInBounds t a) r.tmps)
  rw[Ns,MW];exact a6
 ·intro o1 c1 w1 a1 tG UT zL ki tT
  obtain⟨NZ,jj,jP⟩:=hn o1 tG
  cases o1 with
  | exit=>cases NZ
  | ret=>cases NZ
  | norm s1=>
   have sF:c1.ι v 0=some L:=tT.old v 0 L gL eU
   obtain⟨r1,b1,b2,b3,_,b5⟩:=FZ ki jP sF
   have Q5:r1.state = .ready∧r1.pending=none:=b5
   obtain⟨k1,k2,k3⟩:=PF (P:=P) (st':=.busy) ki jP sF b1 { r1 with state:=.busy } rfl rfl rfl rfl rfl
   refine⟨{ w1 with heap:=w1.heap.setIfInBounds L.b (.loop { r1 with state:=.busy }) },?_,?_⟩
   ·have hg:(Instr.getLoop L.b).run P w1 = .ok r1 w1:=by simp[Instr.getLoop,getObj,Sem.run,b1]
    simp only[Instr.beginRound,Sem.run_bind,hg,Result.andThen_ok,k3,Q5.1]
    simp
   ·refine hB s1 jj tG UT jP (some L.b) _ _ c1 _ a1 k1 ?_
    intro o2 c2 w3 a3' tH aii q7 E5 xu
    obtain⟨ja,mQ⟩:=hm o2 tH
    have Va:v<s1.H.length:=aK gL zL
    have tV:c2.ι v 0=some L:=xu.old v 0 L Va sF
    obtain⟨r2,d1,d2,d3,_,d5⟩:=FZ E5 mQ tV
    have key:∀ (j:Option Code),o2.uq.is { r2 with state:=if j.isNone then .ready else .done,pending:=j }→j.isNone = !o2.stop→∃ v w',(Instr.endRound L.b j).run P w3 = .ok v w'∧next (a.put o.dst v) w':=by
     intro j hj Uk
     obtain⟨e1,e2,e3⟩:=PF (P:=P) (st':=o2.uq) E5 mQ tV d1 { r2 with state:=if j.isNone then .ready else .done,pending:=j } rfl rfl rfl rfl hj
     have hg:(Instr.getLoop L.b).run P w3 = .ok r2 w3:=by simp[Instr.getLoop,getObj,Sem.run,d1]
     refine⟨.bool j.isNone,{ w3 with heap:=w3.heap.setIfInBounds L.b (.loop { r2 with state:=if j.isNone then .ready else .done,pending:=j }) },?_,?_⟩
     ·simp only[Instr.endRound,Sem.run_bind,hg,Result.andThen_ok,e3]
      rfl
     ·have TL:eP c2 { w3 with heap:=w3.heap.setIfInBounds L.b (.loop { r2 with state:=if j.isNone then .ready else .done,pending:=j }) } (.bool j.isNone) (.b !o2.stop):=by
       have:D.b (!o2.stop)=D.val (.bool j.isNone):=by rw[Uk]
       rw[this];exact .val _
      have eX:Step s.H.length c s.H w c2 (o2.st.H.set v (.fZ rf ja o2.uq)) { w3 with heap:=w3.heap.setIfInBounds L.b (.loop { r2 with state:=if j.isNone then .ready else .done,pending:=j }) }:=
       (tT.trans (k2.trans (xu.trans e2 q7) (Nat.le_refl _)) zL)
      refine k o2 ja c2 _ _ tH mQ (Nat.le_trans zL q7) (hs.next e1.eR eX hd TL) eX
    cases o2 with
    | norm s2=>exact key none ⟨rfl,rfl⟩ rfl
    | ret s2=>exact key (some .ret) ⟨rfl,rfl⟩ rfl
    | exit id s2=>exact key (some (.exit id)) ⟨rfl,rfl⟩ rfl
theorem Sf{s:St}(hs:ji G N c w s a){rf:Nat}{ps:Array Tmp}{ac bc:Code}(qh:G.rt rf=some (N,ps,ac,bc))(live:List Nat)(fn:FuncId) :
  ∃ (c2:Ctx) (w2:World) (L1 L2:Loc),(Instr.enterLoop fn a.tmps ps ac bc none).run P w = .ok (L2.b,[{ target:=.collected L1.b,args:=#[] }]) w2∧L1.ij=false∧L2.ij=false ∧
   c2.ι s.H.length 0=some L1∧c2.ι (s.H.length+1) 0=some L2∧e9 G c2 (s.H ++ [.jL,.fZ rf (forget live s.env) .ready]) w2∧Step s.H.length c s.H w c2 (s.H ++ [.jL,.fZ rf (forget live s.env) .ready]) w2:=by
 obtain⟨vB,_,tT⟩:=FK hs.eR (kH.last s.H) (.deferred (some [])) .jL rfl rfl (fun _ hb=>by simp only[fJ];exact .inr hb)
 simp only[Al.last]at vB tT
 generalize zx:c.set s.H.length 0 ⟨w.heap.size,0,0,false⟩=c1 at vB tT
 have sF:c1.ι s.H.length 0=some ⟨w.heap.size,0,0,false⟩:=by rw[← zx];exact Ctx.py _ _ _ _
 generalize Fc:w.alloc (.deferred (some []))=w1 at vB tT
 have N1:w1.heap.size=w.heap.size+1:=by rw[← Fc];simp
 have zL:(s.H ++ [Ob.jL]).length=s.H.length+1:=by simp
 obtain⟨kQ,_,oS⟩:=FK vB (kH.last (s.H ++ [.jL])) (.loop { state:=.ready,pending:=none,fn:=fn,tmps:=a.tmps,params:=ps,assign:=ac,body:=bc,defers:=w.heap.size }) (.fZ rf (forget live s.env) .ready) rfl rfl (fun qo hb=>by
  simp only[fJ]
  refine⟨trivial,_,hb,fun j=>qo _ _ ((wO hs.env live j).nA hs.eR.toHeapOK tT),⟨N,?_,hs.size⟩,rfl,rfl⟩
  rw[← qh,← vB.rt];rfl)
 simp only[Al.last,zL,bt,dC]at kQ oS
 refine⟨_,_,⟨w.heap.size,0,0,false⟩,⟨w1.heap.size,0,0,false⟩,?_,rfl,rfl,?_,Ctx.py _ _ _ _,kQ,tT.trans oS (by omega)⟩
 ·subst Fc
  simp[Instr.enterLoop]
 ·rw[Ctx.qC _ _ (by omega)];exact sF
theorem adb{s:St}{n:Nat}{Q:Exit→Act→World→Prop}(hs:ji G N c w s a){g:Operand}{X:X}(hx:cX G g=some X){f:FuncId}{first cap:List D}(na:ev s.env.get X = .fn (.func f) first cap)
  (jG:oL P f=true) {rf:Nat} {ps:Array Tmp} {ac bc:Code} (qh:G.rt rf=some (N,ps,ac,bc)) {live:List Nat} {R1:D→U→Prop} {R:Out→Prop}
  (il:qH P G f (first ++ [.gO (s.H.length+1)]++cap) (s.H ++ [.jL,.fZ rf (forget live s.env) .ready]) R1)
  (k:∀ d H',R1 d H'→∃ env st o,H'[s.H.length+1]? = some (.fZ rf env st)∧vT { s with H:=H'.set (s.H.length+1) .dead,marks:=s.H.length::s.marks } st=some o∧R o)
  (hk:rH G N s.H.length s.fL c s.H w R Q):(Code.rangeFunc g ps ac bc).wpIn (FW none) n P Q a w:=by
 refine wpIn_rangeFunc fun fn _=>?_
 obtain⟨c2,w2,L1,L2,T0,jP,mQ,sF,tV,kQ,NW⟩:=Sf (P:=P) hs qh live fn
 have NP:∀ u d,eP c w u d→eP c2 w2 u d:=fun u d hd=>hd.nA hs.eR.toHeapOK NW
 have hr:=gD hs.eR hs.env hx
 rw[na]at hr
 generalize hu:a.eval g=u at hr
 cases hr with
 | fn _ fs cs _ _ q1 q2 q3 q4=>
  have Vo:eP c2 w2 (.func (.yield L2.b) #[] #[]) (.gO (s.H.length+1)):=.gO _ L2 tV mQ
  have gT:gY c2 w2 (fs ++ [Value.func (.yield L2.b) #[] #[]]++cs) (first ++ [.gO (s.H.length+1)]++cap):=
   ((gY.AH q1 fun i v d h1 h2=>NP _ _ (q3 i v d h1 h2)).append (.cons Vo .nil)).append (gY.AH q2 fun i v d h1 h2=>NP _ _ (q4 i v d h1 h2))
  have xn:(resolve a.eval (rangeCall g L2.b) 0).run P w2 = .ok { target:=.fn (.func f) cs.toArray,args:=fs.toArray ++ #[Value.func (.yield L2.b) #[] #[]] } w2:=by
   simp[resolve,hu,Deferred.ofValue]
   rfl
  have hinv:(invoke (.fn (.func f) cs.toArray) (fs.toArray ++ #[Value.func (.yield L2.b) #[] #[]])).run P w2 = .ok (.enter f (fs ++ [Value.func (.yield L2.b) #[] #[]]++cs).toArray) w2:=by
   have h2:=Ge (P:=P) jG (fs ++ [Value.func (.yield L2.b) #[] #[]]++cs).toArray w2
   simpa[invoke]using h2
  have EF:=il c2 w2 _ kQ gT
  have kA:CallsIn (FW none) (n-1) P f (fs ++ [Value.func (.yield L2.b) #[] #[]]++cs).toArray w2 (rangePost (FW none) n P L2.b Q { a with defers:=[{ target:=.collected L1.b,args:=#[] }]++a.defers }):=by
   refine yV.2 (EF.mono ?_)
   rintro e w3 ⟨v,c3,d,H3,rfl,hR,hlen,NL,_,xu⟩
   obtain⟨env,st,q,lZ,jV,HW⟩:=k d H3 hR
   have EC:(s.H ++ [Ob.jL,Ob.fZ rf (forget live s.env) .ready]).length=s.H.length+2:=by simp
   have sF:c3.ι s.H.length 0=some L1:=xu.old _ 0 L1 (by rw[EC];omega) sF
   have tV:c3.ι (s.H.length+1) 0=some L2:=xu.old _ 0 L2 (by rw[EC];omega) tV
   have ga:=NL.ob _ _ lZ
   simp only[Ob.gen]at ga
   rw[tV]at ga
   simp only[fJ]at ga
   obtain⟨_,r3,H8,_,_,xe⟩:=ga
   have aie:L2.b<w3.heap.size:=(aN.1 H8).1
   obtain⟨m1,m2⟩:=Mq (w':={ w3 with heap:=w3.heap.setIfInBounds L2.b (.loop { r3 with state:=.exhausted }) }) NL lZ rfl tV mQ ⟨rfl,Nat.le_refl _⟩ rfl rfl (by simp) (fun b hb=>by rw[bE (dB hb)])
   have xa:Step s.H.length c s.H w c3 (H3.set (s.H.length+1) .dead) { w3 with heap:=w3.heap.setIfInBounds L2.b (.loop { r3 with state:=.exhausted }) }:=
    NW.trans (xu.trans m2 hlen) (by rw[EC];omega)
   have E8:ji G N c3 { w3 with heap:=w3.heap.setIfInBounds L2.b (.loop { r3 with state:=.exhausted }) } { s with H:=H3.set (s.H.length+1) .dead,marks:=s.H.length::s.marks } { a with defers:=[{ target:=.collected L1.b,args:=#[] }]++a.defers }:=by
    refine⟨m1,fun j=>(hs.env j).nA hs.eR.toHeapOK xa,hs.size,.cons L1 sF jP (hs.marks.mono fun v L h=>xa.old v 0 L ?_ h)⟩
    rcases bh v s.H.length with h'|h'
    ·exact h'
    ·rw[hs.eR.out v 0 h']at h;cases h
   have NH:r3.state≠.busy:=by
    cases st with
    | busy=>cases jV
    | ready=>rw[xe.1];decide
    | uS=>rw[xe.1];decide
    | tt=>rw[xe.1];decide
   have Np:(Instr.endLoop L2.b).run P w3 = .ok r3.pending { w3 with heap:=w3.heap.setIfInBounds L2.b (.loop { r3 with state:=.exhausted }) }:=by
    have hg:(Instr.getLoop L2.b).run P w3 = .ok r3 w3:=by
     have:w3.heap[L2.b]? = some (.loop r3):=H8
     simp[Instr.getLoop,getObj,Sem.run,this]
    have NT:(setObj L2.b (.loop { r3 with state:=.exhausted })).run P w3 = .ok () { w3 with heap:=w3.heap.setIfInBounds L2.b (.loop { r3 with state:=.exhausted }) }:=by
     have:w3.heap[L2.b]? = some (.loop r3):=H8
     simp[setObj,Sem.run,this]
    have TN:(r3.state == .busy)=false:=by
     generalize r3.state=x at NH
     cases x<;>first|rfl|exact absurd rfl NH
    simp only[Instr.endLoop,Sem.run_bind,hg,Result.andThen_ok,TN,NT]
    simp[NT]
   generalize ({ w3 with heap:=w3.heap.setIfInBounds L2.b (.loop { r3 with state:=.exhausted }) }:World)=W at E8 xa Np
   refine⟨r3.pending,W,Np,?_⟩
   have Iz:s.H.length≤(H3.set (s.H.length+1) .dead).length:=by
    rw[EC]at hlen
    simp;omega
   cases st with
   | busy=>cases jV
   | ready=>
    cases jV
    rw[xe.2]
    exact hk _ c3 _ _ HW rfl Iz E8 xa
   | uS=>
    cases jV
    rw[xe.2]
    exact wpIn_ret (hk _ c3 _ _ HW rfl Iz E8 xa)
   | tt id=>
    cases jV
    rw[xe.2]
    exact wpIn_exit (hk _ c3 _ _ HW rfl Iz E8 xa)
  exact⟨L2.b,_,w2,_,w2,f,_,w2,T0,xn,fun _ _=>trivial,hinv,fun h=>by simp[Fence.wide]at h,kA⟩
