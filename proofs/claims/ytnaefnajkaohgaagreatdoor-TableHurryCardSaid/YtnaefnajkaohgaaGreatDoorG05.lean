/- Part 5 of TableHurry. -/
import Derived.Test.YtnaefnajkaohgaaGreatDoorG04
import Derived.Shelf.SlSortCmp.NoneTotal
import Derived.Test.YtnaefnajkaohgaaGreatDoorG02
import Derived.Test.YtnaefnajkaohgaaGreatDoorG03
set_option linter.all false
namespace Go.AL
open Go
def sx(A:Array Oper):Bool:=(List.range A.size).all fun i=>match A[i]? with
 | some o=>o.after.all fun e => !Region.binds .any e||decide (e.on<i)
 | none=>true
def rL(A:Array Oper)(ord:List (List Nat)):Bool:=(List.range A.size).all fun i=>match A[i]? with
 | some o=>(ord.getD i []).all fun k=>o.after.any fun e=>Region.binds .any e&&(e.on == k||(ord.getD e.on []).contains k)
 | none=>true
def HS(l:List eX)(ord:List (List Nat))(gM:List (Nat×Nat)):Bool:=(List.range l.length).all fun i=>(List.range i).all fun k=>
 (ord.getD i []).contains k||(match l[k]?,l[i]? with
  | some a,some b=>rN a b&&(gM.contains (k,i)||EM a.op b.op)
  | _,_=>false)
section
variable{P:Program}{G:GT}{A:Array Oper}{ord:List (List Nat)}
theorem PG(h:sx A=true){i:Nat}{o:Oper}(hi:A[i]? = some o){e:Edge}(he:e∈o.after)(hb:Region.binds .any e=true):e.on<i:=by
 have:=ao.1 h i (bG.2 (aI.1 hi).1)
 simp only[hi]at this
 have:=bQ.1 this e he
 simpa[hb]using this
theorem Ng(h:rL A ord=true){i:Nat}{o:Oper}(hi:A[i]? = some o){k:Nat}(hk:k∈ord.getD i []):∃ e∈o.after,Region.binds .any e=true∧(e.on=k∨k∈ord.getD e.on []):=by
 have:=ao.1 h i (bG.2 (aI.1 hi).1)
 simp only[hi]at this
 have:=ao.1 this k hk
 obtain⟨e,he,h2⟩:=Array.any_eq_true'.1 this
 simp only[ah,bW,beq_iff_eq,cE]at h2
 exact⟨e,he,h2.1,h2.2⟩
structure Left(A:Array Oper)(ord:List (List Nat))(rem:List kb)(listed:Array Bool):Prop where
 size:listed.size=A.size
 iff:∀ j,j<A.size→(listed.getD j true=false↔∃ it∈rem,it.k=j)
 sorted:rem.Pairwise fun p q=>p.k<q.k
 lt:∀ it∈rem,it.k<A.size
 down:∀ i,i<A.size→listed.getD i false=true→∀ k∈ord.getD i [],listed.getD k false=true
theorem TT{rem:List kb}{listed:Array Bool}(h:Left A ord rem listed){j:Nat}(hj:j<A.size):listed.getD j false=true∨∃ it∈rem,it.k=j:=by
 have l9:j<listed.size:=by rw[h.size];exact hj
 cases hb:listed.getD j true with
 | false=>exact .inr ((h.iff j hj).1 hb)
 | true=>left;simp[l9]at hb ⊢;exact hb
theorem Uk{rem:List kb}{listed:Array Bool}(h:Left A ord rem listed){it:kb}(ia:it∈rem):listed.getD it.k false=false:=by
 have fe:=h.lt it ia
 have:=(h.iff it.k fe).2 ⟨it,ia,rfl⟩
 have l9:it.k<listed.size:=by rw[h.size];exact fe
 simp[l9]at this ⊢;exact this
theorem H0(he:sx A=true){it:kb}{rem:List kb}{listed:Array Bool}(h:Left A ord (it::rem) listed):it.k∈Region.ready .any A listed:=by
 rw[mem_ready]
 have fe:=h.lt it (by simp)
 refine⟨(h.iff it.k fe).2 ⟨it,by simp,rfl⟩,A[it.k],by simp[fe],fun e hm hb=>?_⟩
 have mK:=PG he (i:=it.k) (o:=A[it.k]) (by simp[fe]) hm hb
 rcases TT h (show e.on<A.size by omega)with hl|⟨q,hq,hqk⟩
 ·exact hl
 ·exfalso
  rcases ax.1 hq with rfl|hq
  ·omega
  ·have:=(a7.1 h.sorted).1 q hq
   omega
theorem Ei(ho:rL A ord=true){rem:List kb}{listed:Array Bool}(h:Left A ord rem listed){i:Nat}(hi:i∈Region.ready .any A listed){q:kb}(hq:q∈rem):q.k ∉ ord.getD i []:=by
 intro hk
 obtain⟨_,o,GK,ix⟩:=mem_ready.1 hi
 obtain⟨e,hm,hb,hc⟩:=Ng ho GK hk
 have mK:=ix e hm hb
 have hn:=Uk h hq
 rcases hc with hc|hc
 ·rw[hc]at mK;rw[mK]at hn;cases hn
 ·have fe:e.on<A.size:=by
   rcases aW e.on A.size with h'|h'
   ·exact h'
   ·have:listed.getD e.on false=false:=by
     have:listed.size≤e.on:=by rw[h.size];exact h'
     simp[cZ this]
    rw[this]at mK;cases mK
  have:=h.down e.on fe mK q.k hc
  rw[this]at hn;cases hn
theorem Hk(ho:rL A ord=true){pre post:List kb}{it:kb}{listed:Array Bool}(h:Left A ord (pre++it::post) listed)(hi:it.k∈Region.ready .any A listed) :
  Left A ord (pre++post) (listed.setIfInBounds it.k true):=by
 have pE:(pre++post).Sublist (pre++it::post):=cM (c6 it post) pre
 have fJ:∀ q∈pre++post,q.k≠it.k:=by
  intro q hq
  have:=bF.1 h.sorted
  rcases List.mem_append.1 hq with hq|hq
  ·have:=this.2.2 q hq it (by simp);omega
  ·have:=(a7.1 this.2.1).1 q hq;omega
 have fe:=h.lt it (by simp)
 refine⟨by simp[h.size],fun j hj=>?_,h.sorted.sublist pE,fun q hq=>h.lt q (pE.subset hq),fun i uf hl k hk=>?_⟩
 ·by_cases e:it.k=j
  ·subst e
   have:(listed.setIfInBounds it.k true).getD it.k true=true:=by
    have:it.k<listed.size:=by rw[h.size];exact fe
    simp[this]
   rw[this]
   constructor
   ·intro h;cases h
   ·rintro⟨q,hq,e⟩
    exact absurd e (fJ q hq)
  ·rw[getD_set_ne true e,h.iff j hj]
   constructor
   ·rintro⟨q,hq,rfl⟩
    rcases List.mem_append.1 hq with hq|hq
    ·exact⟨q,aS _ hq,rfl⟩
    ·rcases ax.1 hq with rfl|hq
     ·exact absurd rfl e
     ·exact⟨q,br _ hq,rfl⟩
   ·rintro⟨q,hq,rfl⟩
    exact⟨q,pE.subset hq,rfl⟩
 ·by_cases e:it.k=i
  ·subst e
   obtain⟨_,o,GK,ix⟩:=mem_ready.1 hi
   obtain⟨e,hm,hb,hc⟩:=Ng ho GK hk
   have mK:=ix e hm hb
   rcases hc with rfl|hc
   ·exact getD_set_true mK
   ·have fe:e.on<A.size:=by
     rcases aW e.on A.size with h'|h'
     ·exact h'
     ·have:listed.getD e.on false=false:=by
       have:listed.size≤e.on:=by rw[h.size];exact h'
       simp[cZ this]
      rw[this]at mK;cases mK
    exact getD_set_true (h.down e.on fe mK k hc)
  ·rw[getD_set_ne false e]at hl
   exact getD_set_true (h.down i uf hl k hk)
variable{C:FuncId→List D→D→et→Prop}{N:Nat}
theorem JK(n:Nat)(δ:Dl)(H:et):(iZ n δ H).length=H.length:=by
 cases δ with
 | no=>rfl
 | cells v o xs=>simp only[iZ,Dl.app];split<;>simp
 | obj v ob=>simp[iZ,Dl.app]
 | new ob=>simp[iZ,Dl.app,Al.jn]
theorem JE(hC:∀ g args d Hn,C g args d Hn→nI P g=true∧rR P G g args [] d Hn)(he:sx A=true)(ho:rL A ord=true){ro:Option Nat}{m:Nat}{Q:Exit→Act→World→Prop}{ms:List Nat}{f':fg}{H':et} :
  ∀ (fuel:Nat) (rem:List kb) (listed:Array Bool) (c:Ctx) (w:World) (f:fg) (H:et) (a:Act),rem.length=fuel→Left A ord rem listed→SX G N c w f H ms a→Tx C f H rem f' H' →
   (∀ it∈rem,∃ o,A[it.k]? = some o∧qc P G N A o=some it.e) →
   (∀ p∈rem,∀ q∈rem,p.k<q.k→p.k∈ord.getD q.k []∨(rN p.e q.e=true∧pN p.rc q.rc=true)) →
   (∀ c' w' a',SX G N c' w' f' H' ms a'→Step H.length c H w c' H' w'→Q .normal a' w')→wpAnyIn (FW ro) m P .any A Q fuel listed a w
 | 0,rem,listed,c,w,f,H,a,hl,jH,hs,ht,_,_,hQ=>by
  have:rem = []:=aU hl
  subst this
  cases ht
  refine⟨?_,hQ c w a hs (Step.refl _ _ _ _)⟩
  refine cy.2 fun j hj=>?_
  obtain⟨h1,o,h2,_⟩:=mem_ready.1 hj
  obtain⟨it,ia,_⟩:=(jH.iff j (aI.1 h2).1).1 h1
  cases ia
 | fuel+1,rem,listed,c,w,f,H,a,hl,jH,hs,ht,re,yv,hQ=>by
  refine⟨fun h0=>?_,fun i hi=>?_⟩
  ·cases rem with
   | nil=>cases hl
   | cons it rem=>
    have:=H0 he jH
    rw[h0]at this
    cases this
  ·obtain⟨h1,o,h2,_⟩:=mem_ready.1 hi
   obtain⟨it,ia,rfl⟩:=(jH.iff i (aI.1 h2).1).1 h1
   obtain⟨pre,post,rfl⟩:=List.append_of_mem ia
   have Dw:∀ p∈pre,rN p.e it.e=true∧pN p.rc it.rc=true:=by
    intro p hp
    have fe:p.k<it.k:=(bF.1 jH.sorted).2.2 p hp it (by simp)
    rcases yv p (aS _ hp) it (by simp) fe with h|h
    ·exact absurd h (Ei ho jH hi (aS _ hp))
    ·exact h
   obtain⟨d,δ,hE,hT⟩:=ht.front Dw
   obtain⟨o',GG,Gm⟩:=re it (by simp)
   have pE:∀ q∈pre++post,q∈pre++it::post:=fun q hq=>(cM (c6 it post) pre).subset hq
   refine Km hC hs GG Gm hE fun c' w' a' fq eJ=>?_
   refine JE hC he ho fuel (pre++post) _ c' w' _ _ a' (by simp at hl ⊢;omega) (Hk ho jH hi) fq hT (fun q hq=>re q (pE q hq)) (fun p hp q hq=>yv p (pE p hp) q (pE q hq)) fun c2 w2 a2 kK nN=>?_
   rw[JK]at nN
   exact hQ c2 w2 a2 kK (eJ.trans nN (Nat.le_refl _))
theorem JG(he:sx A=true)(ho:rL A ord=true){F:Fence}{m:Nat}{Q:Exit→Act→World→Prop} :
  ∀ (lasts:List kb) (ops:List Oper) (listed:Array Bool) (a:Act) (w:World),Left A ord lasts listed→(∀ q∈lasts,∀ k,k<q.k→k∈ord.getD q.k [])→lasts.map (fun q=>A[q.k]?)=ops.map some →
   wpListIn F m P A Q ops a w→wpAnyIn F m P .any A Q lasts.length listed a w
 | [],ops,listed,a,w,jH,_,ru,h=>by
  have:ops = []:=by simpa using ru.symm
  subst this
  refine⟨cy.2 fun j hj=>?_,h⟩
  obtain⟨h1,o,h2,_⟩:=mem_ready.1 hj
  obtain⟨it,ia,_⟩:=(jH.iff j (aI.1 h2).1).1 h1
  cases ia
 | q::lasts,ops,listed,a,w,jH,hl,ru,h=>by
  cases ops with
  | nil=>simp at ru
  | cons o ops=>
   simp only[List.map_cons,cz]at ru
   refine⟨fun h0=>?_,fun i hi=>?_⟩
   ·have:=H0 he jH
    rw[h0]at this
    cases this
   ·obtain⟨h1,o',h2,_⟩:=mem_ready.1 hi
    obtain⟨it,ia,rfl⟩:=(jH.iff i (aI.1 h2).1).1 h1
    have ia:it=q:=by
     rcases ax.1 ia with h|h
     ·exact h
     ·have fe:q.k<it.k:=(a7.1 jH.sorted).1 it h
      exact absurd (hl it (aO _ h) q.k fe) (Ei ho jH hi (q:=q) (by simp))
    subst ia
    have hn:=Hk (pre:=[]) (post:=lasts) ho jH hi
    have ih:∀ a w,wpListIn F m P A Q ops a w→wpAnyIn F m P .any A Q lasts.length (listed.setIfInBounds it.k true) a w:=fun a w h=>
     JG he ho lasts ops _ a w hn (fun q hq=>hl q (aO _ hq)) ru.2 h
    unfold wpOpIn
    simp only[ru.1]
    simp only[wpListIn]at h
    split
    ·rename_i hw
     simp only[hw,if_true]at h
     exact Oper.wpIn_mono ih h
    ·rename_i hw
     simp only[hw]at h
     exact⟨h.1,ih _ _ h.2⟩
theorem JF(hC:∀ g args d Hn,C g args d Hn→nI P g=true∧rR P G g args [] d Hn)(he:sx A=true)(ho:rL A ord=true){ro:Option Nat}{m:Nat}{Q:Exit→Act→World→Prop}{ms:List Nat}{f':fg}{H':et}{lasts:List kb}{ops:List Oper}
  (uo:∀ q∈lasts,∀ k,k<q.k→k∈ord.getD q.k []) (ru:lasts.map (fun q=>A[q.k]?)=ops.map some) :
  ∀ (fuel:Nat) (rem:List kb) (listed:Array Bool) (c:Ctx) (w:World) (f:fg) (H:et) (a:Act),rem.length=fuel→Left A ord (rem++lasts) listed→SX G N c w f H ms a→Tx C f H rem f' H' →
   (∀ it∈rem,∃ o,A[it.k]? = some o∧qc P G N A o=some it.e) →
   (∀ p∈rem,∀ q∈rem,p.k<q.k→p.k∈ord.getD q.k []∨(rN p.e q.e=true∧pN p.rc q.rc=true)) →
   (∀ c' w' a',SX G N c' w' f' H' ms a'→Step H.length c H w c' H' w'→wpListIn (FW ro) m P A Q ops a' w')→wpAnyIn (FW ro) m P .any A Q (fuel+lasts.length) listed a w
 | 0,rem,listed,c,w,f,H,a,hl,jH,hs,ht,_,_,hQ=>by
  have:rem = []:=aU hl
  subst this
  cases ht
  rw[aX]
  exact JG he ho lasts ops listed a w jH uo ru (hQ c w a hs (Step.refl _ _ _ _))
 | fuel+1,rem,listed,c,w,f,H,a,hl,jH,hs,ht,re,yv,hQ=>by
  have lR:∀ q∈rem,∀ l∈lasts,q.k<l.k:=fun q hq l hl=>(bF.1 jH.sorted).2.2 q hq l hl
  rw[show fuel+1+lasts.length=(fuel+lasts.length)+1 by omega]
  refine⟨fun h0=>?_,fun i hi=>?_⟩
  ·cases rem with
   | nil=>cases hl
   | cons it rem=>
    have:=H0 (rem:=rem++lasts) he jH
    rw[h0]at this
    cases this
  ·obtain⟨h1,o,h2,_⟩:=mem_ready.1 hi
   obtain⟨it,ia,rfl⟩:=(jH.iff i (aI.1 h2).1).1 h1
   have ia:it∈rem:=by
    rcases List.mem_append.1 ia with h|h
    ·exact h
    ·cases rem with
     | nil=>cases hl
     | cons q rem=>exact absurd (uo it h q.k (lR q (by simp) it h)) (Ei ho jH hi (q:=q) (by simp))
   obtain⟨pre,post,rfl⟩:=List.append_of_mem ia
   have Gy:Left A ord (pre++it::(post++lasts)) listed:=by simpa using jH
   have Dw:∀ p∈pre,rN p.e it.e=true∧pN p.rc it.rc=true:=by
    intro p hp
    have fe:p.k<it.k:=(bF.1 Gy.sorted).2.2 p hp it (by simp)
    rcases yv p (aS _ hp) it (by simp) fe with h|h
    ·exact absurd h (Ei ho Gy hi (aS _ hp))
    ·exact h
   obtain⟨d,δ,hE,hT⟩:=ht.front Dw
   obtain⟨o',GG,Gm⟩:=re it (by simp)
   have pE:∀ q∈pre++post,q∈pre++it::post:=fun q hq=>(cM (c6 it post) pre).subset hq
   refine Km hC hs GG Gm hE fun c' w' a' fq eJ=>?_
   refine JF hC he ho uo ru fuel (pre++post) _ c' w' _ _ a' (by simp at hl ⊢;omega) (by simpa using Hk ho Gy hi) fq hT (fun q hq=>re q (pE q hq)) (fun p hp q hq=>yv p (pE p hp) q (pE q hq)) fun c2 w2 a2 kK nN=>?_
   rw[JK]at nN
   exact hQ c2 w2 a2 kK (eJ.trans nN (Nat.le_refl _))
end
end Go.AL
namespace Go.AL
open Go
abbrev room(k:Nat):et:=List.replicate k .jn
section
variable{f:fg}{H:et}{r:Nat}
theorem Db(v:Nat)(o:Ob)(ho:o≠.jn):(H++room r)[v]? = some o↔H[v]? = some o:=by
 rcases aW v H.length with h|h
 ·rw[ag h]
 ·rw[aj h,aK h]
  constructor
  ·intro h1
   rw[cV]at h1
   split at h1
   ·cases h1;exact absurd rfl ho
   ·cases h1
  ·intro h1;cases h1
theorem Ia(v:Nat):rowsOf (H++room r) v=rowsOf H v:=by
 unfold rowsOf
 cases h:H[v]? with
 | none=>
  cases h2:(H++room r)[v]? with
  | none=>rfl
  | some o=>
   cases o<;>first|rfl|skip
   rw[Db v _ (by simp)]at h2
   rw[h]at h2;cases h2
 | some o=>
  have:(H++room r)[v]? = some o:=by
   rw[ag (af.1 h).1];exact h
  rw[this]
theorem uT(v g:Nat):rowAt (H++room r) v g=rowAt H v g:=by rw[ta,ta,Ia]
theorem Hy(v:Nat):kj (H++room r) v=kj H v:=by
 unfold kj
 cases h:H[v]? with
 | none=>
  cases h2:(H++room r)[v]? with
  | none=>rfl
  | some o=>
   cases o<;>first|rfl|skip
   rw[Db v _ (by simp)]at h2
   rw[h]at h2;cases h2
 | some o=>
  have:(H++room r)[v]? = some o:=by
   rw[ag (af.1 h).1];exact h
  rw[this]
theorem Iw(sz:Nat)(d:D):jy sz (H++room r) d=jy sz H d:=by
 cases d<;>first|rfl|skip
 simp only[jy,uT]
theorem Ou(n:Nat)(op:fY):eZ f (H++room r) n op=eZ f H n op:=by
 cases op<;>simp only[eZ]<;>first|rfl|skip
 case ld1=>simp only[qz,uT]
 case ldN=>simp only[qA,uT]
 case st1=>simp only[u3,uT]
 case stN=>simp only[u4,uT]
 case lookup=>simp only[uF,Hy]
 case mapUpd=>simp only[s5,Hy]
 case len=>simp only[mw,Hy]
 case b2s=>simp only[vr,Iw]
 case app=>simp only[pf,Iw,uT]
 case copy=>simp only[vz,Iw,uT]
theorem zx(k:Nat)(d:D):fD (H++room r) k d=fD H k d∧eC (fun _=>none) (H++room r) k d=eC (fun _=>none) H k d:=
 zw (H1:=H) (H2:=H++room r) k d fun v _=>(Ia v).symm
theorem C9(op:fY):e7 f (H++room r) op=e7 f H op:=by
 have key:∀ args:List D,args.map (fD (H++room r) 40)=args.map (fD H 40):=fun args=>ak fun d _=>(zx 40 d).1
 cases op<;>first|rfl|skip
 case call g args=>simp only[e7,key]
 case callN g args=>simp only[e7,key]
 case callv g args=>simp only[e7,key]
 case len k x=>cases k<;>rfl
theorem NK{v g:Nat}{x:TypeId×List D}(h:rowAt H v g=some x):v<H.length:=(af.1 (zB h)).1
theorem T5{v:Nat}{x:KK×List (Value×D)}(h:kj H v=some x):v<H.length:=(af.1 (sZ h)).1
def Safe(H:et):Dl→Prop
 | .no=>True
 | .cells v o xs=>∃ t g cs,H[v]? = some (.row t g cs)∧o+xs.length≤cs.length
 | .obj v _=>v<H.length
 | .new _=>True
theorem Ov{op:fY}{n:Nat}{d:D}{δ:Dl}(h:eZ f H n op=some (d,δ)):Safe H δ:=by
 have hl:∀ {o:Option D},lift o=some (d,δ)→Safe H δ:=fun h=>by rw[(jJ h).2];trivial
 cases op<;>simp only[eZ]at h<;>first|exact hl h|(cases h;done)|skip
 case box=>unfold mZ at h;split at h<;>cases h;trivial
 case alloc=>cases h;trivial
 case mkmap=>cases h;trivial
 case buildSl=>
  unfold sf at h
  split at h
  ·split at h<;>cases h;trivial
  ·cases h
 case mksl=>
  unfold wv at h
  split at h
  ·split at h<;>cases h;trivial
  ·cases h
 case st1=>
  unfold u3 at h
  split at h
  ·split at h
   ·rename_i v g o _ t cs fy
    split at h
    ·rename_i hc;cases h;exact⟨_,_,_,zB fy,by simp;omega⟩
    ·cases h
   ·cases h
  ·cases h
 case stN=>
  unfold u4 at h
  split at h
  ·split at h
   ·rename_i v g o xs _ _ t cs fy
    split at h
    ·rename_i hc;cases h;exact⟨_,_,_,zB fy,by simp;omega⟩
    ·cases h
   ·cases h
  ·cases h
 case mapUpd=>
  unfold s5 at h
  split at h
  ·split at h
   ·rename_i hm
    split at h
    ·cases h;exact T5 hm
    ·cases h
   ·cases h
  ·cases h
 case app=>
  unfold pf at h
  split at h
  ·split at h
   ·split at h
    ·rename_i fy
     split at h
     ·cases h;exact NK fy
     ·cases h
    ·cases h
   ·split at h
    ·cases h;trivial
    ·split at h
     ·cases h;trivial
     ·cases h
   ·cases h
  ·cases h
 case copy=>
  unfold vz at h
  split at h
  ·split at h
   ·rename_i fy
    split at h
    ·cases h;exact NK fy
    ·cases h
   ·cases h
  ·cases h;trivial
  ·cases h
theorem E9{δ:Dl}(hs:Safe H δ)(k:Nat)(hk:(δ.app H (Al.last H)).length≤k) :
  iZ H.length δ (H++room (k-H.length))=δ.app H (Al.last H)++room (k-(δ.app H (Al.last H)).length)∧Fits H.length δ (H++room (k-H.length)):=by
 cases δ with
 | no=>exact⟨rfl,trivial⟩
 | cells v o xs=>
  obtain⟨t,g,cs,h1,h2⟩:=hs
  have fe:=(af.1 h1).1
  have h3:(H++room (k-H.length))[v]? = some (.row t g cs):=by rw[ag fe];exact h1
  refine⟨?_,t,g,cs,h3,h2⟩
  simp only[iZ,Dl.app,h3,h1,bV]
  rw[List.set_append_left _ _ fe]
 | obj v ob=>
  refine⟨?_,trivial⟩
  simp only[iZ,Dl.app,bV]
  rw[List.set_append_left _ _ hs]
 | new ob=>
  simp only[Dl.app,Al.last,az,aJ,cw,aX]at hk ⊢
  have e:k-H.length=(k-(H.length+1))+1:=by omega
  refine⟨?_,?_⟩
  ·simp only[iZ,Dl.app,Al.jn]
   rw[e,room,bB,List.set_append_right _ _ (Nat.le_refl _)]
   simp[bg]
  ·show(H++room (k-H.length))[H.length]? = some .jn
   rw[e,aj (Nat.le_refl _)]
   simp[bB]
end
section
variable{G:GT}{c:Ctx}{w:World}{H:et}
theorem DU{r v:Nat}{L:Loc}:jg c (H++room r) v L↔jg c H v L:=by
 constructor
 ·rintro⟨o,ho,ha,eD⟩
  rw[Db v o (by rintro rfl;cases ha)]at ho
  exact⟨o,ho,ha,eD⟩
 ·rintro⟨o,ho,ha,eD⟩
  exact⟨o,(Db v o (by rintro rfl;cases ha)).2 ho,ha,eD⟩
theorem HR{r b:Nat}:jz c (H++room r) b↔jz c H b:=by
 constructor
 ·rintro⟨v,L,hl,r⟩;exact⟨v,L,DU.1 hl,r⟩
 ·rintro⟨v,L,hl,r⟩;exact⟨v,L,DU.2 hl,r⟩
theorem NI(h:eP G c H w)(r:Nat):eP G c (H++room r) w where
 inj v v' L L' h1 h2:=h.inj v v' L L' (DU.1 h1) (DU.1 h2)
 lt b hb:=h.lt b (HR.1 hb)
 nF b hb:=h.nF b (HR.1 hb)
 iD:=h.iD
 out v k hv:=h.out v k (by simp at hv;omega)
 jD v o k ho hk:=by
  rcases aW v H.length with hv|hv
  ·rw[ag hv]at ho;exact h.jD v o k ho hk
  ·exact h.out v k hv
 ob v o ho:=by
  rcases aW v H.length with hv|hv
  ·rw[ag hv]at ho;exact h.ob v o ho
  ·rw[aj hv,cV]at ho
   split at ho
   ·cases ho
    simp only[fr]
    exact h.out v _ hv
   ·cases ho
 gl:=h.gl
 rt:=h.rt
theorem NJ(r n:Nat):Step n c H w c (H++room r) w:=
 ⟨⟨rfl,Nat.le_refl _⟩,rfl,rfl,Nat.le_refl _,rfl,fun _ h=>h,fun _ h=>.inl h,fun _ _ _=>rfl,fun _ _ _ _ h=>h,fun _ h=>.inr (HR.1 h)⟩
end
end Go.AL
namespace Go.AL
open Go Go.Proofs Go.Shelf Go.RowKit Go.Lib Go.Sort
structure qU(P:Program)(f:FuncId)(sz:Nat):Prop where
 pos:0<sz
 full:∀ (α:Type) [Inhabited α] (enc:α→List Value) (_:∀ x,(enc x).length=sz) (_:∀ x,∀ v∈enc x,v.oneCell'=true) (cf:α→α→Int) (_:SWO (ltOf cf)) (g kc off cap:Nat) (d:Array α) (w:World)
  (_:∀ args w,(callFunc g args).run P w = .ok (.enter g args) w) (_:CmpLays P g #[] enc sz cf kc off d.size w) (_:HoldsK enc sz w kc off d) (_:kc<w.heap.size) (_:d.size<4611686018427387904),
  Calls P f #[.slice (some ⟨kc,off,none⟩) d.size cap,.func (.func g) #[] #[]] w fun e w'=>e = .returned (.tuple #[])∧∃ d' n os,PermIn 0 d.size d d'∧SortedIn (ltOf cf) 0 d.size d'∧w'=sortWorldK enc sz w kc off n d' os
 none:∀ (p:Option Addr) (cap:Nat) (fv:Value) (w:World),Calls P f #[.slice p 0 cap,fv] w fun e w'=>e = .returned (.tuple #[])∧w'=w
theorem qU.of{P:Program}{ρ:Ren}(L:SlLaysF0.n6 P ρ){k:Nat}(hk:0<k)(aE:∀ w,(isAgg (ρ.t 24)).run P w = .ok true w)(zE:∀ w,(Go.sizeOf (ρ.t 24)).run P w = .ok k w):qU P (ρ.f 6) k where
 pos:=hk
 full α _ enc h1 h2 cf hO g kc off cap d w eg hc hH hb hs:=AnyQ.slices_SortFunc L k aE zE enc h1 h2 cf hO g #[] kc off cap d w eg hc hH hb hs
 none:=AnyF.slices_SortFunc_none L
section
variable{P:Program}{G:GT}{c:Ctx}{H:et}{w:World}{α:Type}
structure El(c:Ctx)(w:World)(fc:α→List D)(l:List α) where
 vs:List Value
 a:α
 mem:a∈l
 cells:Cells (c.data c.F) w vs (fc a)
theorem N0{β:Type}[Inhabited β](enc:β→List Value)(k kc off m:Nat)(dk:Array β)(os:Array Obj){b:Nat}(hb:b<w.heap.size)(hn:b≠kc):(sortWorldK enc k w kc off m dk os).heap[b]? = w.heap[b]? := by
 simp only[sortWorldK,grow,putRowK,putRow,mapBlock,Go.Sort.ahead]
 rw[bP (by simpa using hb),bC,if_neg (dg hn)]
theorem PA(h:eP G c H w){W:World}(hs:w.heap.size≤W.heap.size)(hk:∀ b,c.F b→W.heap[b]? = w.heap[b]?):eP G (c.data c.F) [] W where
 inj v v' L L' h1:=by obtain⟨o,ho,_⟩:=h1;simp at ho
 lt b hb:=by obtain⟨v,L,⟨o,ho,_⟩,_⟩:=hb;simp at ho
 nF b hb:=by obtain⟨v,L,⟨o,ho,_⟩,_⟩:=hb;simp at ho
 iD b hb:=aH (h.iD b hb) hs
 out _ _ _:=rfl
 jD _ _ _ _ _:=rfl
 ob v o ho:=by simp at ho
 gl g cs hg:=by
  obtain⟨h1,h2⟩:=(CM h).gl g cs hg
  exact⟨h1,ew.carry (c:=c.data c.F) (c':=c.data c.F) (fun _ _ _ h=>h) (fun _ h=>h) (fun b o hF=>xF (hk b hF)) h2⟩
 rt:=h.rt
theorem aat{W w':World}(h:ig W w'):∃ q YV,w'=grow (W.drewN q) YV:=by
 obtain⟨⟨h1,h2⟩,h3,h4,h5,h6⟩:=h
 refine⟨w'.drawn-W.drawn,w'.heap.extract W.heap.size w'.heap.size,?_⟩
 cases w' with
 | mk hp tp dr o ou=>
  cases W with
  | mk pz tp' dr' o' ou'=>
   simp only at *
   subst h1 h3 h4
   simp only[grow,World.drewN]
   congr 1
   ·apply Array.ext_getElem?
    intro i
    rcases aW i pz.size with hi|hi
    ·rw[bP hi,h6 i hi]
    ·rw[Array.getElem?_append_right hi,Array.getElem?_extract]
     split
     ·congr 1;omega
     ·exact cZ (by omega)
   ·omega
theorem gG.two{c:Ctx}{w:World}{vs:List Value}{d e:D}(h:gG c w vs [d,e]):∃ u v,vs = [u,v]∧ew c w u d∧ew c w v e:=by
 cases h with
 | cons h1 h=>cases h with
  | cons h2 h=>cases h;exact⟨_,_,rfl,h1,h2⟩
theorem Z'{f g:FuncId}{sz:Nat}(hS:qU P f sz){x:D}{R:D→et→Prop}(k:R (.tup []) H):pT P G f [.U,x] H R:=by
 intro c w vs eB hr
 obtain⟨u,v,rfl,h1,h2⟩:=gG.two hr
 cases h1
 refine(hS.none none 0 v w).mono ?_
 rintro e w' ⟨rfl,rfl⟩
 exact⟨_,c,_,H,rfl,k,Nat.le_refl _,eB,.tup [] [] rfl (fun i v d hv=>by simp at hv),Step.refl _ _ _ _⟩
theorem aac{f g:FuncId}{sz:Nat}(hS:qU P f sz)(hg:nI P g=true)(fc:α→List D)(l:List α)(hl:∀ a∈l,(fc a).length=sz)(fj:∀ a∈l,eV (fc a)=true)(h0:0<l.length)(sE:l.length<4611686018427387904)
  (cf:α→α→Int) (wk:∀ x∈l,¬ cf x x<0) (tr:∀ x∈l,∀ y∈l,∀ z∈l,cf x y<0→cf y z<0→cf x z<0) (nt:∀ x∈l,∀ y∈l,∀ z∈l,¬ cf x y<0→¬ cf y z<0→¬ cf x z<0)
  (hc:∀ x∈l,∀ y∈l,pT P G g [.agg (fc x),.agg (fc y)] [] fun d _=>d = .i (cf x y)) {v gen:Nat} {t:TypeId} (hv:H[v]? = some (.row t gen (l.map fc).flatten)) {R:D→et→Prop}
  (k:∀ l':List α,l'.Perm l→l'.Pairwise (fun x y=>¬ cf y x<0)→R (.tup []) (H.set v (.row t gen (l'.map fc).flatten))) :
  pT P G f [.eu v gen sz 0 l.length,.fn (.func g) [] []] H R:=by
 have iy:=hS.pos
 intro c w vs eB hr
 obtain⟨u,v1,rfl,h1,h2⟩:=gG.two hr
 clear hr
 have hn:l.length=l.length:=rfl
 revert hn
 generalize hN:l.length=N at h1
 intro hn
 have kY:v1 = .func (.func g) #[] #[]:=by
  cases h2 with
  | fn _ fs cs df dc iP il _ _=>
   have e1:fs = []:=aA.1 iP
   have e2:cs = []:=aA.1 il
   subst e1;subst e2;rfl
 subst kY
 clear h2
 cases h1 with
 | kl=>omega
 | eu _ _ _ _ _ cap L eD fM ik iJ jV=>
 have fF:=eB.ob v _ hv
 simp only[Ob.gen]at fF
 rw[eD]at fF
 simp only[fr,fM]at fF
 obtain⟨arr,ku,G3,hlen,mj⟩:=fF
 have oh:(l.map fc).flatten.length=N*sz:=by
  rw[C5 sz _ (by simpa using hl),List.length_map,hN]
 rw[oh]at hlen
 have sO:jz c H L.b:=⟨v,L,⟨_,hv,rfl,eD⟩,fM,rfl⟩
 have hblk:=eB.lt _ sO
 have hmul:∀ i,i<N→L.base+i*sz+sz≤arr.size:=fun i hi=>by
  have:(i+1)*sz≤N*sz:=bh _ hi
  rw[bM]at this
  omega
 let mk:Fin l.length→El c w fc l:=fun i=>{
  vs:=(arr.toList.drop (L.base+i.val*sz)).take sz
  a:=l[i.val]
  mem:=bz _
  cells:=by
   have hi:i.val<N:=by rw[← hN];exact i.isLt
   have hm:=hmul _ hi
   have sN:(fc l[i.val]).length=sz:=hl _ (bz _)
   have gK:∀ r,r<sz→∃ y d,((arr.toList.drop (L.base+i.val*sz)).take sz)[r]? = some y∧(fc l[i.val])[r]? = some d∧y.oneCell'=true∧ew c w y d:=fun r hr=>by
    have hd:(l.map fc).flatten[i.val*sz+r]? = (fc l[i.val])[r]? := by
     rw[C4 sz iy _ (by simpa using hl),show(i.val*sz+r) / sz=i.val from by rw[cN,Nat.mul_add_div iy,Nat.div_eq_of_lt hr];rfl,show(i.val*sz+r) % sz=r from by rw[cN,Nat.mul_add_mod,dF hr]]
     simp
    have hx:(fc l[i.val])[r]? = some (fc l[i.val])[r]:=List.getElem?_eq_getElem (by omega)
    obtain⟨y,SK,SL,SM⟩:=mj (i.val*sz+r) _ (hd.trans hx)
    refine⟨y,_,?_,hx,SL,SM⟩
    rw[ay,if_pos hr,aC,bq,← SK]
    congr 1;omega
   have rp:((arr.toList.drop (L.base+i.val*sz)).take sz).length=sz:=by simp;omega
   refine⟨by rw[rp,sN],fun y hy=>?_,fun r y d hy hd=>?_⟩
   ·obtain⟨r,hr⟩:=aD.1 hy
    have jd:r<sz:=by have:=(af.1 hr).1;omega
    obtain⟨y',d,e1,_,e3,_⟩:=gK r jd
    rw[hr]at e1;cases e1;exact e3
   ·have jd:r<sz:=by have:=(af.1 hy).1;omega
    obtain⟨y',d',e1,e2,_,e4⟩:=gK r jd
    rw[hy]at e1;cases e1
    rw[hd]at e2;cases e2
    exact ew.closed (c:=c) (c':=c.data c.F) (fun b hb=>hb) e4 (q6 (fj _ (bz _)) hd) }
 haveI:Inhabited (El c w fc l):=⟨mk ⟨0,h0⟩⟩
 let enc:El c w fc l→List Value:=fun e=>e.vs
 let d:Array (El c w fc l):=Array.ofFn mk
 have px:d.size=N:=by simp[d,hN]
 have fO:∀ x:El c w fc l,(enc x).length=sz:=fun x=>by rw[show enc x=x.vs from rfl,x.cells.len,hl _ x.mem]
 have GL:∀ x:El c w fc l,∀ y∈enc x,y.oneCell'=true:=fun x y hy=>x.cells.one y hy
 have Rn:d.toList.map (fun e=>e.a)=l:=by
  apply bI
  intro i
  simp only[d,ar,bq,Array.getElem?_ofFn]
  by_cases hi:i<l.length
  ·simp[hi,mk]
  ·simp[hi]
 have hO:SWO (ltOf fun x y:El c w fc l=>cf x.a y.a):=by
  refine⟨fun x=>?_,fun x y z=>?_,fun x y z=>?_⟩
  ·simpa[ltOf]using wk x.a x.mem
  ·simpa[ltOf]using tr x.a x.mem y.a y.mem z.a z.mem
  ·simpa[ltOf]using nt x.a x.mem y.a y.mem z.a z.mem
 have vQ:∀ j,w.cell? ⟨L.b,j,none⟩=arr[j]? := fun j=>by simp[World.cell?,ku]
 have hH:HoldsK enc sz w L.b (L.base+0*sz) d:=by
  intro j hj
  have uh:j<N*sz:=by simpa[px]using hj
  have hq:j / sz<N:=Nat.div_lt_of_lt_mul (by rw[cN];exact uh)
  have hr:j % sz<sz:=Nat.mod_lt _ iy
  have hm:=hmul _ hq
  have hjj:j / sz*sz+j % sz=j:=by rw[cN];exact Nat.div_add_mod j sz
  rw[get_flatK _ _ _ _ (by rw[px];exact uh)]
  refine⟨?_,?_⟩
  ·have e1:d[j / sz]! = mk ⟨j / sz,by omega⟩:=by
    rw[getElem!_pos d (j / sz) (by omega)];simp[d]
   rw[vQ,e1]
   show _=some (id ((arr.toList.drop (L.base+j / sz*sz)).take sz)[j % sz]!)
   rw[getElem!_pos _ (j % sz) (by simp;omega),List.getElem_take,List.getElem_drop,Array.getElem_toList,bT (by omega)]
   simp only[id]
   congr 2;omega
  ·simp[World.frozen?,ku]
 have Rh:CmpLays P g #[] enc sz (fun x y:El c w fc l=>cf x.a y.a) L.b (L.base+0*sz) d.size w:=by
  intro m os dk _ x y
  have hW:∀ b,c.F b→(sortWorldK enc sz w L.b (L.base+0*sz) m dk os).heap[b]? = w.heap[b]? := fun b hb=>N0 _ _ _ _ _ _ _ (eB.iD b hb) fun e=>eB.nF _ sO (e▸hb)
  have nj:eP G (c.data c.F) [] (sortWorldK enc sz w L.b (L.base+0*sz) m dk os):=PA eB (size_sortWorldK_c _ _ _ _ _ _ _ _) hW
  have pC:∀ x:El c w fc l,ew (c.data c.F) (sortWorldK enc sz w L.b (L.base+0*sz) m dk os) (.agg (enc x).toArray) (.agg (fc x.a)):=fun x=>
   .agg _ _ x.cells.len x.cells.one fun i y d hy hd=>ew.carry (c:=c.data c.F) (c':=c.data c.F) (fun _ _ _ h=>h) (fun _ h=>h) (fun b o hF=>xF (hW b hF)) (x.cells.rep i y d hy hd)
  have:=hc x.a x.mem y.a y.mem _ _ _ nj (.cons (pC x) (.cons (pC y) .nil))
  rw[show(#[Value.agg (enc x).toArray,Value.agg (enc y).toArray] ++ #[]:Array Value) = [Value.agg (enc x).toArray,Value.agg (enc y).toArray].toArray by simp]
  refine Calls.mono this ?_
  rintro e w' ⟨u,c',d',H',he,rfl,_,_,hu,eJ⟩
  cases hu
  exact⟨he,aat (tS eJ)⟩
 have eg:∀ args w,(callFunc g args).run P w = .ok (.enter g args) w:=Ez hg
 have gR:=hS.full (El c w fc l) enc fO GL _ hO g L.b (L.base+0*sz) cap d w eg Rh hH hblk (by omega)
 rw[px]at gR
 refine gR.mono ?_
 rintro e w' ⟨rfl,d',n,os,⟨uw,_,qq⟩,Sm,rfl⟩
 have lB:d'.size=N:=by rw[uw,px]
 have R8:(d'.toList.map fun e=>e.a).Perm l:=by
  refine List.Perm.trans (List.Perm.map _ ?_) (List.Perm.of_eq Rn)
  have e1:(d'.extract 0 N).toList=d'.toList:=by rw[← lB];simp
  have e2:(d.extract 0 N).toList=d.toList:=by rw[← px];simp
  rw[e1,e2]at qq
  exact qq
 have Sb:(d'.toList.map fun e=>e.a).Pairwise fun x y=>¬ cf y x<0:=by
  rw[List.pairwise_map,bj]
  intro i j hi hj mL
  have vT:i<d'.size:=by simpa using hi
  have uh:j<d'.size:=by simpa using hj
  have:=Sm i j (Nat.zero_le _) mL (by omega)
  rw[getElem!_pos d' j uh,getElem!_pos d' i vT]at this
  simpa[ltOf]using this
 have Ds:((d'.toList.map fun e=>e.a).map fc).flatten.length=N*sz:=by
  rw[C5 sz _ (fun x hx=>?_)]
  ·simp[lB]
  ·simp only[aw]at hx
   obtain⟨a,⟨e,_,rfl⟩,rfl⟩:=hx
   exact hl _ e.mem
 have hF:(flatK enc sz d').size=N*sz:=by rw[size_flatK,lB]
 have hF2:N*sz≤arr.size-L.base:=by omega
 obtain⟨w1,w2⟩:=z6 eB hv eD fM ku (putCells id (L.base+0*sz) (flatK enc sz d') arr) (by simp[putCells]) G3 ((d'.toList.map fun e=>e.a).map fc).flatten (by rw[Ds];exact hlen) (fun i dd hi=>by
  have vT:i<N*sz:=by rw[← Ds];exact(af.1 hi).1
  have hq:i / sz<N:=Nat.div_lt_of_lt_mul (by rw[cN];exact vT)
  have hr:i % sz<sz:=Nat.mod_lt _ iy
  have hx:=d'[i / sz].cells
  rw[C4 sz iy _ (fun x hx=>by
   simp only[aw]at hx
   obtain⟨a,⟨e,_,rfl⟩,rfl⟩:=hx
   exact hl _ e.mem)]at hi
  have e1:(List.map fc (List.map (fun e=>e.a) d'.toList))[i / sz]? = some (fc d'[i / sz].a):=by
   simp only[ar,bq]
   rw[bT (by omega)];rfl
  rw[e1,Option.bind_some]at hi
  have gw:(d'[i / sz].vs).length=sz:=fO d'[i / sz]
  have e2:(d'[i / sz].vs)[i % sz]? = some (d'[i / sz].vs)[i % sz]:=List.getElem?_eq_getElem (by omega)
  refine⟨(d'[i / sz].vs)[i % sz],?_,hx.one _ (bz _),ew.closed (c:=c.data c.F) (c':=c) (fun b hb=>hb) (hx.rep _ _ _ e2 hi) (q6 (fj _ d'[i / sz].mem) hi)⟩
  rw[putCells,dR,bT (by omega),a8,if_pos ⟨by omega,by rw[hF];omega⟩]
  rw[show L.base+i-(L.base+0*sz)=i by omega,get_flatK _ _ _ _ (by rw[lB];exact vT),getElem!_pos d' (i / sz) (by omega)]
  show some (id (d'[i / sz].vs)[i % sz]!)=_
  rw[getElem!_pos _ (i % sz) (by omega)];rfl)
 have yf:ig (w.setRow L.b (putCells id (L.base+0*sz) (flatK enc sz d') arr)) (sortWorldK enc sz w L.b (L.base+0*sz) n d' os):=by
  refine⟨⟨rfl,Nat.le_add_right _ _⟩,rfl,rfl,?_,fun b hb=>?_⟩
  ·simp[World.setRow,sortWorldK,grow,putRowK,putRow,mapBlock,Go.Sort.ahead]
  ·have oc:b<w.heap.size:=by simpa[World.setRow]using hb
   by_cases oS:b=L.b
   ·subst oS
    rw[setRow_heap w L.b arr _ t _ ku]
    simp only[sortWorldK,grow,putRowK,putRow,mapBlock,Go.Sort.ahead]
    rw[bP (by simpa using oc),bC,if_pos rfl,ku]
    rfl
   ·rw[N0 _ _ _ _ _ _ _ oc oS]
    simp only[World.setRow,bC]
    rw[if_neg (dg oS)]
 exact⟨_,c,_,_,rfl,k _ R8 Sb,by simp,w1.l6 yf,.tup [] [] rfl (fun i v d hv=>by simp at hv),w2.trans (wP _ yf) (Nat.le_refl _)⟩
end
end Go.AL
namespace Go.AL
open Go Go.Proofs Go.Shelf Go.RowKit Go.Lib Go.Sort
structure tu(P:Program)(f:FuncId):Prop where
 full:∀ (kc off cap:Nat) (zs:List Int) (w:World) (_:Holds (Value.int .i64) w kc off zs.toArray) (_:kc<w.heap.size) (_:zs.length<4611686018427387904),
  Calls P f #[.slice (some ⟨kc,off,none⟩) zs.length cap] w fun e w'=>e = .returned (.tuple #[])∧∃ n os,w'=grow (putRow (Value.int .i64) (Go.Sort.ahead w n) kc off (zs.mergeSort fun x y=>decide (x≤y)).toArray) os
section
variable{P:Program}{G:GT}{c:Ctx}{H:et}{w:World}
theorem aae{f:FuncId}(hS:tu P f)(l:List Int)(h0:0<l.length)(sE:l.length<4611686018427387904){v gen:Nat}{t:TypeId}(hv:H[v]? = some (.row t gen (l.map fun n=>D.i n))){R:D→et→Prop}
  (k:R (.tup []) (H.set v (.row t gen ((l.mergeSort fun x y=>decide (x≤y)).map fun n=>D.i n)))):pT P G f [.eu v gen 1 0 l.length] H R:=by
 intro c w vs eB hr
 cases hr with
 | @cons u _ _ _ h1 hr=>
 cases hr
 have hn:l.length=l.length:=rfl
 revert hn
 generalize hN:l.length=N at h1
 intro hn
 cases h1 with
 | kl=>omega
 | eu _ _ _ _ _ cap L eD fM ik iJ jV=>
 have fF:=eB.ob v _ hv
 simp only[Ob.gen]at fF
 rw[eD]at fF
 simp only[fr,fM]at fF
 obtain⟨arr,ku,G3,hlen,mj⟩:=fF
 rw[List.length_map,hN]at hlen
 have sO:jz c H L.b:=⟨v,L,⟨_,hv,rfl,eD⟩,fM,rfl⟩
 have hblk:=eB.lt _ sO
 have vQ:∀ j,w.cell? ⟨L.b,j,none⟩=arr[j]? := fun j=>by simp[World.cell?,ku]
 have hH:Holds (Value.int .i64) w L.b (L.base+0*1) l.toArray:=by
  intro j hj
  have uh:j<l.length:=by simpa using hj
  obtain⟨y,h1,h2,h3⟩:=mj j (.i l[j]) (by simp[uh])
  cases h3
  refine⟨?_,by simp[World.frozen?,ku]⟩
  rw[vQ,show L.base+0*1+j=L.base+j by omega,h1]
  simp[uh]
 have gR:=hS.full L.b (L.base+0*1) cap l w hH hblk sE
 rw[hN]at gR
 refine gR.mono ?_
 rintro e w' ⟨rfl,n,os,rfl⟩
 generalize kg:(l.mergeSort fun x y=>decide (x≤y))=l' at k ⊢
 have Ds:l'.length=N:=by rw[← kg,List.length_mergeSort,hN]
 obtain⟨w1,w2⟩:=z6 eB hv eD fM ku (putCells (Value.int .i64) (L.base+0*1) l'.toArray arr) (by simp[putCells]) G3 (l'.map fun n=>D.i n) (by rw[List.length_map,Ds];exact hlen) (fun i dd hi=>by
  rw[ar]at hi
  obtain⟨a,ha,rfl⟩:=ai.1 hi
  have vT:i<l'.length:=(af.1 ha).1
  refine⟨.int .i64 a,?_,rfl,.val _⟩
  rw[putCells,dR,bT (by omega),a8,if_pos ⟨by omega,by simp;omega⟩]
  rw[show L.base+i-(L.base+0*1)=i by omega,getElem!_pos l'.toArray i (by simpa using vT)]
  have:=(af.1 ha).2
  simp[this])
 have yf:ig (w.setRow L.b (putCells (Value.int .i64) (L.base+0*1) l'.toArray arr)) (grow (putRow (Value.int .i64) (Go.Sort.ahead w n) L.b (L.base+0*1) l'.toArray) os):=by
  refine⟨⟨rfl,Nat.le_add_right _ _⟩,rfl,rfl,?_,fun b hb=>?_⟩
  ·simp[World.setRow,grow,putRow,mapBlock,Go.Sort.ahead]
  ·have oc:b<w.heap.size:=by simpa[World.setRow]using hb
   simp only[grow,putRow,mapBlock,Go.Sort.ahead]
   rw[bP (by simpa using oc),bC]
   by_cases oS:L.b=b
   ·subst oS
    rw[setRow_heap w L.b arr _ t _ ku,if_pos rfl,ku]
    rfl
   ·simp only[World.setRow,bC]
    rw[if_neg oS,if_neg oS]
 exact⟨_,c,_,_,rfl,k,by simp,w1.l6 yf,.tup [] [] rfl (fun i v d hv=>by simp at hv),w2.trans (wP _ yf) (Nat.le_refl _)⟩
end
end Go.AL
namespace Go.AL
open Go
def Out.ex:Out→Exit
 | .norm _=>.normal
 | .exit id _=>.exit id
 | .ret _=>.ret
def YU(A:Array Oper):List (List Nat):=A.toList.foldl (init:=[]) fun acc o=>
 acc ++ [dedup ((o.after.toList.filter fun e=>Region.binds .any e).flatMap fun e=>e.on::acc.getD e.on [])]
def Y2(l:List eX)(ord:List (List Nat)):List (Nat×Nat):=(List.range l.length).flatMap fun i=>(List.range i).filterMap fun k=>
 if (ord.getD i []).contains k then none else match l[k]?,l[i]? with
  | some a,some b=>if EM a.op b.op then none else some (k,i)
  | _,_=>none
def Mw:List FuncId:=[227]
def S8:fY→Bool
 | .call f _=>Mw.contains f
 | .callN f _=>Mw.contains f
 | _=>false
def Mx(l:List eX)(ord:List (List Nat))(n:Nat):Bool:=n<l.length&&(List.range l.length).all fun i=>decide (i<n)||(List.range i).all fun k=>(ord.getD i []).contains k
def Kj(gM:List (Nat×Nat))(l:List eX)(ord:List (List Nat)):IR:=
 let n:=l.findIdx fun e=>S8 e.op
 if Mx l ord n then .jN gM (l.take n) (l.drop n)else .eN gM l
def k9:Code→List (Array Tmp×Code×Code)
 | .seq a b=>k9 a++k9 b
 | .cond _ a b=>k9 a++k9 b
 | .block _ a=>k9 a
 | .loop a=>k9 a
 | .rangeFunc _ ps a b=>(ps,a,b)::(k9 a++k9 b)
 | _=>[]
def cC(P:Program)(G:GT)(N:Nat)(rf:Nat):List (List Nat)→Code→Option (IR×List (List Nat))
 | hs,.skip=>some (.skip,hs)
 | hs,.region _ ops false=>match lM P G N ops ops.toList with
  | some l=>some (.ops l,hs)
  | none=>some (.bad,hs)
 | hs,.region _ ops true=>match lM P G N ops ops.toList with
  | some l=>
   let ord:=YU ops
   let gM:=Y2 l ord
   if sx ops&&rL ops ord&&HS l ord gM then some (Kj gM l ord,hs)else some (.bad,hs)
  | none=>some (.bad,hs)
 | hs,.seq a b=>match cC P G N rf hs a with
  | some (x,jU)=>match cC P G N (rf+(k9 a).length) jU b with
   | some (y,kK)=>some (.seq x y,kK)
   | none=>none
  | none=>none
 | hs,.cond c a b=>match cX G c with
  | some x=>match cC P G N rf hs a with
   | some (y,jU)=>match cC P G N (rf+(k9 a).length) jU b with
    | some (z,kK)=>some (.cond x y z,kK)
    | none=>none
   | none=>none
  | none=>some (.bad,hs)
 | hs,.block id a=>match hs with
  | l::hs=>match cC P G N rf hs a with
   | some (x,jU)=>some (.block id l x,jU)
   | none=>none
  | []=>none
 | hs,.loop a=>match hs with
  | l::hs=>match cC P G N rf hs a with
   | some (x,jU)=>some (.loop l x,jU)
   | none=>none
  | []=>none
 | hs,.rangeFunc g _ _ _=>match cX G g,hs with
  | some x,l::hs=>some (.jY rf l x,hs)
  | _,_=>some (.bad,hs)
 | hs,.exit id=>some (.exit id,hs)
 | hs,.ret=>some (.ret,hs)
 | hs,_=>some (.bad,hs)
inductive kE(P:Program)(G:GT)(N:Nat):IR→Code→Prop
 | skip:kE P G N .skip .skip
 | ops {l id A} (h:lM P G N A A.toList=some l):kE P G N (.ops l) (.region id A false)
 | eN {gM l id A} (ord:List (List Nat)) (h:lM P G N A A.toList=some l) (he:sx A=true) (ho:rL A ord=true) (hp:HS l ord gM=true):kE P G N (.eN gM l) (.region id A true)
 | jN {gM l es id A} (ord:List (List Nat)) (h:lM P G N A A.toList=some (l++es)) (he:sx A=true) (ho:rL A ord=true) (hp:HS (l++es) ord gM=true) (sN:∀ i,l.length≤i→i<(l++es).length→∀ k,k<i→k∈ord.getD i []):kE P G N (.jN gM l es) (.region id A true)
 | seq {a b x y} (h1:kE P G N x a) (h2:kE P G N y b):kE P G N (.seq x y) (.seq a b)
 | cond {c a b x y z} (hc:cX G c=some x) (h1:kE P G N y a) (h2:kE P G N z b):kE P G N (.cond x y z) (.cond c a b)
 | block {id l a x} (h:kE P G N x a):kE P G N (.block id l x) (.block id a)
 | loop {l a x} (h:kE P G N x a):kE P G N (.loop l x) (.loop a)
 | jY {rf l x g ps ac bc} (hx:cX G g=some x) (h:G.rt rf=some (N,ps,ac,bc)):kE P G N (.jY rf l x) (.rangeFunc g ps ac bc)
 | exit {id}:kE P G N (.exit id) (.exit id)
 | ret:kE P G N .ret .ret
 | bad {c}:kE P G N .bad c
def tq(G:GT)(N rf:Nat)(code:Code):Prop:=∀ (i:Nat) (x:Array Tmp×Code×Code),(k9 code)[i]? = some x→G.rt (rf+i)=some (N,x)
theorem tq.left{G:GT}{N rf:Nat}{a b:Code}{l:List (Array Tmp×Code×Code)}(hl:l=k9 a++k9 b)(h:∀ (i:Nat) (x:Array Tmp×Code×Code),l[i]? = some x→G.rt (rf+i)=some (N,x)):tq G N rf a∧tq G N (rf+(k9 a).length) b:=by
 subst hl
 refine⟨fun i x hx=>h i x ?_,fun i x hx=>?_⟩
 ·rw[ag (af.1 hx).1];exact hx
 ·rw[bf]
  exact h _ x (by rw[aj (by omega)];simpa using hx)
theorem Fe{P:Program}{G:GT}{N:Nat}:∀ {code:Code} {rf:Nat} {hs fq:List (List Nat)} {ir:IR},tq G N rf code→cC P G N rf hs code=some (ir,fq)→kE P G N ir code:=by
 intro code
 induction code with
 | skip=>intro rf hs fq ir hR h;simp only[cC]at h;cases h;exact .skip
 | region id A eN=>
  intro rf hs fq ir hR h
  cases eN
  ·simp only[cC]at h
   split at h
   ·rename_i l hl;cases h;exact .ops hl
   ·cases h;exact .bad
  ·simp only[cC]at h
   split at h
   ·rename_i l hl
    split at h
    ·rename_i hc
     cases h
     simp only[ah]at hc
     unfold Kj
     dsimp only
     split
     ·rename_i hL
      unfold Mx at hL
      simp only[ah,bW,decide_eq_true_eq,ao,bG,cE]at hL
      refine .jN _ (by rw[bK];exact hl) hc.1.1 hc.1.2 (by rw[bK];exact hc.2) fun i hi iO k hk=>?_
      rw[bK]at iO
      rw[aP]at hi
      rcases hL.2 i iO with h|h
      ·omega
      ·exact h k hk
     ·exact .eN _ hl hc.1.1 hc.1.2 hc.2
    ·cases h;exact .bad
   ·cases h;exact .bad
 | seq a b mc qx=>
  intro rf hs fq ir hR h
  obtain⟨sH,sI⟩:=tq.left rfl hR
  simp only[cC]at h
  split at h
  ·rename_i x jU ha
   split at h
   ·rename_i y kK hb;cases h;exact .seq (mc sH ha) (qx sI hb)
   ·cases h
  ·cases h
 | cond c a b mc qx=>
  intro rf hs fq ir hR h
  obtain⟨sH,sI⟩:=tq.left rfl hR
  simp only[cC]at h
  split at h
  ·rename_i x hx
   split at h
   ·rename_i y jU ha
    split at h
    ·rename_i z kK hb;cases h;exact .cond hx (mc sH ha) (qx sI hb)
    ·cases h
   ·cases h
  ·cases h;exact .bad
 | block id a mc=>
  intro rf hs fq ir hR h
  simp only[cC]at h
  split at h
  ·split at h
   ·rename_i x jU ha;cases h;exact .block (mc hR ha)
   ·cases h
  ·cases h
 | loop a mc=>
  intro rf hs fq ir hR h
  simp only[cC]at h
  split at h
  ·split at h
   ·rename_i x jU ha;cases h;exact .loop (mc hR ha)
   ·cases h
  ·cases h
 | rangeFunc g ps a b mc qx=>
  intro rf hs fq ir hR h
  simp only[cC]at h
  split at h
  ·rename_i x l jU hx
   cases h
   exact .jY hx (hR 0 _ rfl)
  ·cases h;exact .bad
 | exit id=>intro rf hs fq ir hR h;simp only[cC]at h;cases h;exact .exit
 | ret=>intro rf hs fq ir hR h;simp only[cC]at h;cases h;exact .ret
 | _=>intro rf hs fq ir hR h;simp only[cC]at h;cases h;exact .bad
def cR(P:Program):ResultVar→Option p5
 | .tmp t=>some (.tmp t)
 | .cell a t=>match lZ P t,iG P t with
  | some false,some _=>some (.sh a)
  | some true,some n=>some (.jF n a)
  | _,_=>none
def tz(P:Program):List ResultVar→Option (List p5)
 | []=>some []
 | x::r=>match cR P x,tz P r with
  | some a,some l=>some (a::l)
  | _,_=>none
def te(P:Program)(k:Nat):Option (Nat×Array Tmp×Code×Code):=match P.funcs[k / 64]? with
 | some fn=>match fn.body with
  | some code=>(k9 code)[k % 64]?.map fun x=>(fn.ntmps,x)
  | none=>none
 | none=>none
theorem Za{P:Program}{G:GT}(hG:G.rt=te P){f:Nat}{fn:Func}{code:Code}(hf:P.funcs[f]? = some fn)(hb:fn.body=some code)(hl:(k9 code).length≤64):tq G fn.ntmps (64*f) code:=by
 intro i x hx
 have hi:i<64:=aH (af.1 hx).1 hl
 rw[hG]
 unfold te
 rw[show(64*f+i) / 64=f by omega,show(64*f+i) % 64=i by omega,hf]
 simp[hb,hx]
structure xg(P:Program)(G:GT)(f:FuncId)(fn:eA):Prop where
 ex:∃ func code hs fq,P.funcs[f]? = some func∧func.body=some code∧nI P f=true∧(k9 code).length≤64∧cC P G fn.ntmps (64*f) hs code=some (fn.body,fq)∧func.ntmps=fn.ntmps∧tz P func.results.toList=some fn.results
structure rY(P:Program)(G:GT)(rf:Nat)(R:mi):Prop where
 ex:∃ N ps ac bc,G.rt rf=some (N,ps,ac,bc)∧ps.toList=R.params∧(R.params.all fun p=>decide (p<N))=true∧kE P G N R.a ac∧kE P G N R.b bc
structure E4(P:Program)(G:GT)(T:fH):Prop where
 rt:G.rt=te P
 fn:∀ f fn,T.fn f=some fn→xg P G f fn
 round:∀ rf R,T.round rf=some R→rY P G rf R
 sort:∀ f sz,T.sort f=some sz→qU P f sz
 oL:∀ f,T.oL f=true→tu P f
def Ck(F:Fence)(n:Nat)(P:Program)(c:Code)(Q:Exit→Act→World→Prop)(a:Act)(w:World):Prop:=
 ∀ (b:Frame) (k:List Item) (cs:List Frame),b.roundOf=F.round→F.fn b.fn→F.room (cs.length+1+n) →
  ∃ e a' w',Q e a' w'∧ArrivesIn (Machine.fenced P F) P (lone (b.atR a (.code c :: .inLoop c::k)) cs w) b k cs e a' w'
section
variable{F:Fence}{n:Nat}{P:Program}{Q:Exit→Act→World→Prop}{a:Act}{w:World}
theorem TX{c:Code}(h:c.wpIn F n P (Exit.then (Ck F n P c Q) Q) a w):Ck F n P c Q a w:=by
 intro b k cs gg hb hr
 obtain⟨e,xv,z7,hq,ku⟩:=h b (.inLoop c::k) cs gg hb hr
 cases e with
 | normal=>
  obtain⟨PU,OB,aaB,Se,Q3⟩:=hq b k cs gg hb hr
  exact⟨PU,OB,aaB,Se,.of_steps (StepsIn.trans ku (.one (fenced_calm hb hr rfl) stepR_inLoop)) Q3⟩
 | exit id=>exact⟨_,xv,z7,hq,.pass (x:=.inLoop c) rfl (fun _ _=>.inl (by simp)) ku⟩
 | goto l=>exact⟨_,xv,z7,hq,.pass (x:=.inLoop c) rfl (fun _ _=>.inl (by simp)) ku⟩
 | ret=>exact⟨_,xv,z7,hq,.pass (x:=.inLoop c) rfl (fun _ _=>.inl (by simp)) ku⟩
 | panic ch=>exact⟨_,xv,z7,hq,.pass (x:=.inLoop c) rfl (fun _ _=>.inl (by simp)) ku⟩
 | outgrown=>exact⟨_,xv,z7,hq,.pass (x:=.inLoop c) rfl (fun _ _=>.inl (by simp)) ku⟩
theorem aau{c:Code}(h:Ck F n P c Q a w):(Code.loop c).wpIn F n P Q a w:=by
 intro b k cs gg hb hr
 obtain⟨e,a',w',hq,ku⟩:=h b k cs gg hb hr
 exact⟨e,a',w',hq,.of_steps (.one (fenced_calm hb hr rfl) stepR_loop) ku⟩
end
section
variable{P:Program}{G:GT}{c:Ctx}{w:World}{a:Act}{N:Nat}
theorem E8(δ:Dl)(H:et):H.length≤(δ.app H (Al.last H)).length:=by
 cases δ with
 | no=>exact Nat.le_refl _
 | cells v o xs=>simp only[Dl.app];split<;>simp
 | obj v ob=>simp[Dl.app]
 | new ob=>simp[Dl.app,Al.last]
theorem EE(ks:km)(H:et):(mT ks H).length=ks.length:=by simp[mT]
theorem MS{ks:km}{H:et}{f:Nat→Nat}:∀ {vs:List Nat} {ds:List Deferred},ka c vs ds→(∀ v∈vs,∀ L,c.ι v 0=some L→(c.eC ks H).ι (f v) 0=some L)→ka (c.eC ks H) (vs.map f) ds:=by
 intro vs ds h
 induction h with
 | nil=>intro _;exact .nil
 | cons L h1 h2 _ ih=>intro hf;exact .cons L (hf _ (by simp) L h1) h2 (ih fun v hv=>hf v (by simp[hv]))
theorem N'{n:Nat}{d:D}{v:Nat}(hv:v∈gD n d):n≤v:=by
 cases d<;>simp only[gD]at hv<;>first|(split at hv<;>simp at hv;omega)|(simp at hv)
theorem M0{n:Nat}{o:Ob}{v:Nat}(hv:v∈lU n o):n≤v:=by
 unfold lU at hv
 split at hv
 ·obtain⟨l2,il,G6⟩:=aM.1 hv
  obtain⟨d,_,rfl⟩:=aw.1 il
  exact N' G6
 ·obtain⟨l2,il,G6⟩:=aM.1 hv
  obtain⟨d,_,rfl⟩:=aw.1 il
  exact N' G6
 ·cases hv
theorem Fz{s:St}(hs:iT G N c w s a){n:Nat}(hn:n≤s.H.length)(live:List Nat) :
  ∃ c',iT G N c' w (cut n live s) a∧Step n c s.H w c' (cut n live s).H w∧n≤(cut n live s).H.length:=by
 unfold cut
 split
 ·exact⟨c,⟨hs.eB,vA hs.env live,hs.size,hs.marks⟩,Step.refl _ _ _ _,hn⟩
 ·dsimp only
  generalize hK:dedup _=K
  have lR:∀ v∈K,v∈(((forget live s.env).map fun p=>gD n p.2).flatten++((s.H.take n).map (lU n)).flatten++s.marks.filter (n≤·)).filter (· < s.H.length):=fun v hv=>by
   rw[← hK]at hv;exact y4 hv
  have jV:∀ (d:D) (v:Nat),v∈gD n d→n≤v:=by
   intro d v hv
   cases d<;>simp only[gD]at hv<;>first|(split at hv<;>simp at hv;omega)|(simp at hv)
  have yg:∀ v∈K,n≤v:=by
   intro v hv
   have:=(aT.1 (lR v hv)).1
   rcases List.mem_append.1 this with h|h
   ·rcases List.mem_append.1 h with h|h
    ·obtain⟨l,hl,gw⟩:=aM.1 h
     obtain⟨p,_,rfl⟩:=aw.1 hl
     exact jV _ _ gw
    ·obtain⟨l,hl,gw⟩:=aM.1 h
     obtain⟨o,_,rfl⟩:=aw.1 hl
     exact M0 gw
   ·simpa using (aT.1 h).2
  have jm:tl (gx n K):=Mq yg (by rw[← hK];exact D5 _)
  have eJ:=Ip (ks:=gx n K) hs.eB (n:=n) Mp
  refine⟨c.eC (gx n K) s.H,⟨wJ hs.eB jm,Kr hs.eB (vA hs.env live),hs.size,?_⟩,eJ,?_⟩
  ·refine MS hs.marks fun v hv L hL=>?_
   have fe:v<s.H.length:=by
    rcases aW v s.H.length with h|h
    ·exact h
    ·rw[hs.eB.out v 0 h]at hL;cases hL
   have:∃ i,fW (gx n K) v=some i:=by
    by_cases G7:v<n
    ·refine⟨v,H9 jm ?_⟩
     unfold gx
     rw[ag (by simpa using G7)]
     simp[G7]
    ·have Sx:v∈K:=by
      rw[← hK]
      refine CR (aT.2 ⟨br _ (aT.2 ⟨hv,by simpa using ea.1 G7⟩),by simpa using fe⟩)
     obtain⟨i,hi⟩:=aD.1 Sx
     refine⟨n+i,H9 jm ?_⟩
     unfold gx
     rw[aj (by simp)]
     simp[hi]
   obtain⟨i,hi⟩:=this
   rw[hi]
   simp only[aR]
   rw[wT hi]
   exact hL
  ·rw[EE];simp[gx]
theorem KT{s:St}(hs:iT G N c w s a)(S:List Nat):∃ c',iT G N c' w (jk S s) a∧Step s.H.length c s.H w c' (jk S s).H w∧(jk S s).H.length=s.H.length:=by
 refine⟨c.eC (jC s.H S) s.H,⟨wJ hs.eB KS,Kr hs.eB hs.env,hs.size,?_⟩,Ip hs.eB KR,FV⟩
 have:=MS (ks:=jC s.H S) (H:=s.H) (f:=id) hs.marks fun v _ L hL=>by
  have fe:v<s.H.length:=by
   rcases aW v s.H.length with h|h
   ·exact h
   ·rw[hs.eB.out v 0 h]at hL;cases hL
  have hk:=KR (S:=S) v fe
  simp only[ai]at hk
  obtain⟨p,hp,e⟩:=hk
  simp only[Ctx.eC,id,hp,e]
  exact hL
 simpa[jk]using this
theorem YX{n:Nat}{d:D}{v:Nat}(hv:v∈wA n d):n≤v:=by
 unfold wA at hv
 split at hv
 ·split at hv
  ·simp at hv;omega
  ·simp at hv
 ·obtain⟨l,hl,gw⟩:=aM.1 hv
  obtain⟨d,_,rfl⟩:=aw.1 hl
  split at gw
  ·split at gw
   ·simp at gw;omega
   ·simp at gw
  ·simp at gw
 ·simp at hv
theorem TL{H:et}(eB:eP G c H w){n:Nat}(hn:n≤H.length)(own:Nat){u:Value}{d:D}(hr:ew c w u d) :
  ∃ c',eP G c' (leave own n H d).2 w∧ew c' w u (leave own n H d).1∧Step n c H w c' (leave own n H d).2 w∧n≤(leave own n H d).2.length:=by
 unfold leave
 split
 ·exact⟨c,eB,hr,Step.refl _ _ _ _,hn⟩
 ·dsimp only
  generalize hK:dedup _=K
  have yg:∀ v∈K,n≤v:=by
   intro v hv
   rw[← hK]at hv
   have:=(aT.1 (y4 hv)).1
   rcases List.mem_append.1 this with h|h
   ·split at h
    ·simp at h
    ·exact YX h
    ·simpa using (aT.1 (aN h)).2
    ·simpa using (aT.1 h).2
   ·obtain⟨l,hl,gw⟩:=aM.1 h
    obtain⟨o,_,rfl⟩:=aw.1 hl
    exact M0 gw
  have jm:tl (gx n K):=Mq yg (by rw[← hK];exact D5 _)
  exact⟨c.eC (gx n K) H,wJ eB jm,s8 eB 40 hr,Ip eB Mp,by rw[EE];simp[gx]⟩
theorem Ua(args:List D)(k:Nat):(oC args).get k=(args[k]?).getD .any:=by
 have key:∀ (l:List D) (i k:Nat),Env.get ((l.zipIdx i).map fun p=>(p.2,p.1)) k=if k<i then .any else(l[k-i]?).getD .any:=by
  intro l
  induction l with
  | nil=>intro i k;simp[Env.get]
  | cons d l ih=>
   intro i k
   simp only[List.zipIdx_cons,List.map_cons,Env.qj]
   split
   ·rename_i e;subst e;simp
   ·rename_i e
    rw[ih (i+1) k]
    by_cases hk:k<i
    ·rw[if_pos (by omega),if_pos hk]
    ·rw[if_neg (by omega),if_neg hk]
     rw[show k-i=(k-(i+1))+1 by omega,dL]
 have:=key args 0 k
 simpa[oC]using this
theorem PL{vs:List Value}{args:List D}(hr:gG c w vs args)(n:Nat):iS c w (oC args).get { tmps:=vs.toArray++Array.replicate (n-vs.toArray.size) undef,defers:=[] }:=fun k=>by
 rw[Ua]
 have hl:=hr.length
 cases hk:args[k]? with
 | none=>exact .any _
 | some d=>
  have fe:k<vs.length:=by rw[hl];exact(af.1 hk).1
  have hv:vs[k]? = some vs[k]:=by simp[fe]
  have:=hr.get k vs[k] d hv hk
  simp only[aR]
  have e:(vs.toArray++Array.replicate (n-vs.toArray.size) undef).getD k undef=vs[k]:=by
   rw[bE,bP (by simpa using fe)]
   simp[fe]
  rw[e];exact this
theorem TU{H:et}(h:eP G c H w){t:TypeId}(ha:lZ P t=some false){x d:D}{u:Value}(hr:ew c w u x)(hk:qz x H=some d) :
  ∃ v,(Instr.loadAt t u).run P w = .ok v w∧ew c w v d∧∃ b o,u = .pointer (some ⟨b,o,none⟩):=by
 unfold qz at hk
 split at hk
 ·rename_i v g o
  split at hk
  ·rename_i t' cs fy
   have hv:=pa fy
   obtain⟨b,p,rfl,hc⟩:=Cx h hv hr
   obtain⟨u,hu,_,h2⟩:=EA ha hc (d:=d) (by simpa using hk)
   exact⟨u,hu,h2,b,p,rfl⟩
  ·cases hk
 ·rename_i cs
  obtain⟨b,p,rfl,_,hc⟩:=tC hr
  obtain⟨u,hu,_,h2⟩:=EA ha hc hk
  exact⟨u,hu,h2,b,p,rfl⟩
 ·cases hk
theorem TV{H:et}(h:eP G c H w){t:TypeId}{n:Nat}(ha:lZ P t=some true)(hs:iG P t=some n){x d:D}{u:Value}(hr:ew c w u x)(hk:qA n x H=some d) :
  ∃ v,(Instr.loadAt t u).run P w = .ok v w∧ew c w v d∧∃ b o,u = .pointer (some ⟨b,o,none⟩):=by
 unfold qA at hk
 split at hk
 ·rename_i v g o
  split at hk
  ·rename_i t' cs fy
   split at hk
   ·rename_i hle
    cases hk
    have hv:=pa fy
    obtain⟨b,p,rfl,hc⟩:=Cx h hv hr
    obtain⟨u,hu,h2⟩:=EB (n:=n) ha hs hc (by simp;omega)
    exact⟨u,hu,h2,b,p,rfl⟩
   ·cases hk
  ·cases hk
 ·rename_i cs
  split at hk
  ·rename_i hle
   cases hk
   obtain⟨b,p,rfl,_,hc⟩:=tC hr
   obtain⟨u,hu,h2⟩:=EB (n:=n) ha hs hc hle
   exact⟨u,hu,h2,b,p,rfl⟩
  ·cases hk
 ·cases hk
def uR(tmps:Array Value):ResultVar→Sem Value
 | .tmp t=>pure (tmps.getD t undef)
 | .cell a t=>do loadVar t (← asAddr (tmps.getD a undef))
theorem Zj{s:St}(hs:iT G N c w s a){x:ResultVar}{X:p5}(hx:cR P x=some X){d:D}(hd:wH s X=some d) :
  ∃ v,(uR a.tmps x).run P w = .ok v w∧ew c w v d:=by
 cases x with
 | tmp t=>
  cases hx
  simp only[wH,aq]at hd
  subst hd
  exact⟨_,rfl,hs.env t⟩
 | cell p t=>
  have hp:=hs.env p
  generalize hu:a.tmps.getD p undef=u at hp
  have key:∀ v,(Instr.loadAt t u).run P w = .ok v w→(∃ b o,u = .pointer (some ⟨b,o,none⟩))→(uR a.tmps (.cell p t)).run P w = .ok v w:=by
   rintro v h ⟨b,o,rfl⟩
   simpa[Instr.loadAt,Instr.sureAddr,asAddr,uR,hu]using h
  simp only[cR]at hx
  split at hx
  ·rename_i n Gg fO
   cases hx
   obtain⟨v,hv,hr,GQ⟩:=TU hs.eB Gg hp hd
   exact⟨v,key v hv GQ,hr⟩
  ·rename_i n Gg fO
   cases hx
   obtain⟨v,hv,hr,GQ⟩:=TV hs.eB Gg fO hp hd
   exact⟨v,key v hv GQ,hr⟩
  ·cases hx
theorem H8{s:St}(hs:iT G N c w s a):∀ (l:List ResultVar) {xs:List p5} {ds:List D},tz P l=some xs→o9 s xs=some ds →
  ∃ vs:List Value,(l.mapM (uR a.tmps)).run P w = .ok vs w∧gG c w vs ds
 | [],xs,ds,h1,h2=>by
  cases h1;cases h2
  exact⟨[],rfl,.nil⟩
 | x::l,xs,ds,h1,h2=>by
  simp only[tz]at h1
  split at h1
  ·rename_i X IG hX Ha
   cases h1
   simp only[o9]at h2
   split at h2
   ·rename_i d ds' hd px
    cases h2
    obtain⟨v,hv,hr⟩:=Zj hs hX hd
    obtain⟨vs,iE,ry⟩:=H8 hs l Ha px
    exact⟨v::vs,by simp[dt,hv,iE],.cons hr ry⟩
   ·cases h2
  ·cases h1
theorem Zl{s:St}(hs:iT G N c w s a){func:Func}{fn:eA}(hx:tz P func.results.toList=some fn.results){d:D}(hd:AL.results fn s=some d) :
  ∃ v,(Go.results func a.tmps).run P w = .ok v w∧ew c w v d:=by
 have e:∀ vs:List Value,(func.results.toList.mapM (uR a.tmps)).run P w = .ok vs w→(Go.results func a.tmps).run P w = .ok (if h:vs.toArray.size=1 then vs.toArray[0]else .tuple vs.toArray) w:=by
  intro vs iE
  have h1:(func.results.mapM (uR a.tmps)).run P w = .ok vs.toArray w:=by
   rw[dB,Sem.run_map,iE];rfl
  have h2:Go.results func a.tmps=(do let vs ← func.results.mapM (uR a.tmps);pure (if h:vs.size=1 then vs[0]else .tuple vs)):=rfl
  rw[h2,Sem.run_bind,h1]
  rfl
 unfold AL.results at hd
 split at hd
 ·rename_i d' ix
  cases hd
  obtain⟨vs,iE,hr⟩:=H8 hs _ hx ix
  cases hr with
  | cons h t=>
   cases t
   exact⟨_,e _ iE,h⟩
 ·rename_i ds fJ ix
  cases hd
  obtain⟨vs,iE,hr⟩:=H8 hs _ hx ix
  refine⟨_,e _ iE,?_⟩
  have hl:vs.toArray.size≠1:=by
   intro h1
   have h2:ds.length=1:=by rw[← hr.length];simpa using h1
   match ds,h2 with
   | [d],_=>exact fJ d rfl
  rw[dif_neg hl]
  exact .tup vs ds hr.length hr.get
 ·cases hd
end
end Go.AL
namespace Go.AL
open Go
section
variable{P:Program}{G:GT}{c:Ctx}{H:et}{w:World}{env:fg}{a:Act}{N:Nat}
theorem Kk(h:eP G c H w){v:Nat}{ob:Ob}(hv:H[v]? = some ob)(ha:ob.alive=true){L:Loc}(eD:c.ι v ob.gen=some L)(fM:L.gP=false)
  {w':World} (mM:w'.os=w.os∧w.drawn≤w'.drawn) (G1:w'.tape=w.tape) (ki:w'.output=w.output) (yB:w'.heap.size=w.heap.size) (jm:∀ b,b≠L.b→w'.heap[b]? = w.heap[b]?) :
  eP G c (H.set v .dead) w'∧Step H.length c H w c (H.set v .dead) w':=by
 have fe:=(af.1 hv).1
 have yk:jg c H v L:=⟨ob,hv,ha,eD⟩
 have sO:jz c H L.b:=⟨v,L,yk,fM,rfl⟩
 have hL:∀ u l,jg c (H.set v .dead) u l→u≠v∧jg c H u l:=by
  rintro u l ⟨o,ho,fu,hi⟩
  rw[ny fe]at ho
  split at ho
  ·cases ho;cases fu
  ·rename_i fJ;exact⟨fJ,o,ho,fu,hi⟩
 have nJ:∀ b,jz c (H.set v .dead) b→jz c H b:=fun b ⟨u,l,hl,r⟩=>⟨u,l,(hL u l hl).2,r⟩
 have hs:Step H.length c H w c (H.set v .dead) w':=
  ⟨mM,G1,ki,by omega,rfl,fun _ h=>h,fun _ h=>.inl h,fun b _ hn=>jm b (fun e=>hn (e▸sO)),fun _ _ _ _ h=>h,fun b hb=>.inr (nJ b hb)⟩
 have hr:∀ u d,ew c w u d→ew c w' u d:=fun u d hd=>hd.mA h.toHeapOK hs
 refine⟨{
  inj:=fun u u' l l' h1 h2=>h.inj u u' l l' (hL _ _ h1).2 (hL _ _ h2).2
  lt:=fun b hb=>by rw[yB];exact h.lt b (nJ b hb)
  nF:=fun b hb=>h.nF b (nJ b hb)
  iD:=fun b hb=>by rw[yB];exact h.iD b hb
  out:=fun u k hu=>h.out u k (by simpa using hu)
  jD:=fun u o k ho hk=>by
   rw[ny fe]at ho
   split at ho
   ·cases ho
    rcases hk with hk|⟨hk,_⟩<;>cases hk
   ·exact h.jD u o k ho hk
  ob:=fun u o ho=>by
   rw[ny fe]at ho
   split at ho
   ·cases ho;simp[fr]
   ·rename_i fJ
    refine fr.nu (c:=c) (c':=c) rfl hr (fun l hl jI hd=>jm _ fun e=>fJ (h.inj u v l L ⟨o,ho,hd,hl⟩ yk jI fM e)) (h.ob u o ho)
  gl:=fun g cs hg=>let ⟨a,b⟩:=h.gl g cs hg;⟨a,hr _ _ b⟩
  rt:=h.rt },hs⟩
theorem TM{fn:Func}{tmps:Array Value}{R:Ending→World→Prop}:∀ {ms:List Nat} {ds:List Deferred} {H H1:et} {w:World},ka c ms ds→eP G c H w→kill ms H=some H1 →
  (∀ w1,eP G c H1 w1→Step H.length c H w c H1 w1→H1.length=H.length→LeavesIn (FW none) 0 P fn tmps R [] .returning w1)→LeavesInM (FW none) 0 P fn tmps R ds .returning w:=by
 intro ms
 induction ms with
 | nil=>
  intro ds H H1 w hm eB hk k
  cases hm
  cases hk
  exact k w eB (Step.refl _ _ _ _) rfl
 | cons v ms ih=>
  intro ds H H1 w hm eB hk k
  cases hm with
  | @cons _ _ ds L h1 h2 hm=>
   simp only[kill]at hk
   split at hk
   ·rename_i hv
    have fF:=eB.ob v _ hv
    simp only[Ob.gen]at fF
    rw[h1]at fF
    simp only[fr]at fF
    have hblk:=fF.resolve_left (by simp[h2])
    have fe:L.b<w.heap.size:=(aI.1 hblk).1
    obtain⟨k1,k2⟩:=Kk (w':={ w with heap:=w.heap.setIfInBounds L.b (.deferred none) }) eB hv rfl h1 h2 ⟨rfl,Nat.le_refl _⟩ rfl rfl (by simp) (fun b hb=>by rw[bt (dg hb)])
    refine⟨by simp,.inl ⟨L.b,{ w with heap:=w.heap.setIfInBounds L.b (.deferred none) },rfl,?_,?_⟩⟩
    ·simp[Instr.takeDeferred,getObj,setObj,Sem.run,hblk]
    ·refine ih hm k1 hk fun w1 q1 q2 q3=>k w1 q1 (k2.trans q2 (by simp)) (by rw[q3];simp)
   ·cases hk
theorem ZB(eB:eP G c H w)(he:iS c w env a){o:Oper}{io:fY}(hc:ko P G o=some io){v:Nat}{args:List D}(gU:yieldOf env io=some (v,args)){rf:Nat}{e0:Env}(hv:H[v]? = some (.fE rf e0 .ready)) :
  ∃ (L:Loc) (r:Loop) (vs:List Value),c.ι v 0=some L∧L.gP=false∧w.heap[L.b]? = some (.loop r)∧gG c w vs args ∧
   (vs.length=r.params.size→(execOp a.eval o).run P w = .ok (.round L.b r.fn ((r.params.zip vs.toArray).foldl (fun tmps (t,a)=>tmps.setIfInBounds t a) r.tmps) r.assign r.body) w):=by
 unfold yieldOf at gU
 split at gU
 ·rename_i fx OA
  split at gU
  ·rename_i v' ml
   cases gU
   obtain⟨cl,ho⟩:=Kb hc rfl
   have Di:=hc
   unfold ko at hc
   simp only[ho,au,ae]at hc
   obtain⟨xs,n9,hc⟩:=hc
   have gC:=tA eB he cl.args.toList n9
   have jR:∃ x X,cl.callee = .value x∧cX G x=some X∧X=fx∧xs=OA:=by
    split at hc
    ·split at hc
     ·exfalso
      simp only[aF,aq]at hc
      split at hc<;>cases hc
     ·cases hc
    ·rename_i x fJ tY
     simp only[ae,aF,aq]at hc
     obtain⟨X,hX,hh⟩:=hc
     cases hh
     exact⟨x,fx,tY,hX,rfl,rfl⟩
    ·split at hc
     ·simp only[ae]at hc
      obtain⟨td,_,hc⟩:=hc
      split at hc
      ·simp only[ae]at hc
       obtain⟨i,_,z,_,ud,_,hc⟩:=hc
       split at hc
       ·split at hc
        ·cases hc
        ·cases hc
       ·cases hc
      ·cases hc
     ·cases hc
    ·split at hc
     ·simp only[ae]at hc
      obtain⟨td,_,hc⟩:=hc
      split at hc
      ·simp only[ae]at hc
       obtain⟨ud,_,hc⟩:=hc
       split at hc
       ·simp only[ae]at hc
        obtain⟨n,_,hc⟩:=hc
        split at hc
        ·cases hc
        ·cases hc
       ·cases hc
      ·cases hc
     ·cases hc
    ·split at hc
     ·split at hc
      ·cases hc
      ·cases hc
      ·cases hc
      ·cases hc
     ·cases hc
    ·cases hc
    ·cases hc
    ·cases hc
   obtain⟨x,X,tY,hX,rfl,rfl⟩:=jR
   have hr:=gb eB he hX
   rw[ml]at hr
   generalize hu:a.eval x=u at hr
   cases hr with
   | gy _ L eD fM=>
    have fF:=eB.ob v _ hv
    simp only[Ob.gen]at fF
    rw[eD]at fF
    simp only[fr]at fF
    obtain⟨_,r,hblk,_⟩:=fF
    refine⟨L,r,_,eD,fM,hblk,gC,fun fO=>?_⟩
    have e:cl.args.map a.eval=(cl.args.toList.map a.eval).toArray:=by cases cl.args;simp
    have Sp:cl.args.size=r.params.size:=by simpa using fO
    simp only[execOp,ho,resolve,tY,hu,Deferred.ofValue,Sem.run_bind,Sem.run_pure,Result.andThen_ok,invoke,Instr.yield,Instr.getLoop,getObj,Sem.run,hblk]
    simp[Sem.run,hblk,Sp,e]
  ·cases gU
 ·cases gU
theorem Kq:∀ (ps:List Tmp) (vs:List Value) (ds:List D) (tmps:Array Value) (e0:Env),gG c w vs ds→(∀ p∈ps,p<tmps.size)→(∀ k,ew c w (tmps.getD k undef) (e0.get k)) →
  ∀ k,ew c w (((ps.zip vs).foldl (fun(tmps:Array Value) (p:Tmp×Value)=>tmps.setIfInBounds p.1 p.2) tmps).getD k undef) ((oJ ps ds e0).get k)
 | [],vs,ds,tmps,e0,_,_,h,k=>by simpa[oJ]using h k
 | p::ps,[],ds,tmps,e0,hr,_,h,k=>by cases hr;simpa[oJ]using h k
 | p::ps,v::vs,ds,tmps,e0,hr,hp,h,k=>by
  cases hr with
  | @cons _ d _ ds hd hr=>
   simp only[List.zip_cons_cons,cg,oJ]
   refine Kq ps vs ds (tmps.setIfInBounds p v) ((p,d)::e0) hr (fun q hq=>by simpa using hp q (by simp[hq])) (fun j=>?_) k
   have fe:p<tmps.size:=hp p (by simp)
   simp only[Env.qj]
   split
   ·rename_i e;subst e
    have:(tmps.setIfInBounds p v).getD p undef=v:=by simp[Array.getD,fe]
    rw[this];exact hd
   ·rename_i e
    have:(tmps.setIfInBounds p v).getD j undef=tmps.getD j undef:=by
     simp only[bE,bt e]
    rw[this];exact h j
theorem KN:∀ (l:List (Tmp×Value)) (tmps:Array Value),(l.foldl (fun(tmps:Array Value) (p:Tmp×Value)=>tmps.setIfInBounds p.1 p.2) tmps).size=tmps.size
 | [],_=>rfl
 | p::l,tmps=>by simp only[cg];rw[KN l];simp
def qQ(G:GT)(N n:Nat)(fV:Bool)(c:Ctx)(H:et)(w:World)(R:Out→Prop)(Q:Exit→Act→World→Prop):Prop:=
 ∀ (o:Out) (c':Ctx) (w':World) (a':Act),R o→o.st.fV=fV→n≤o.st.H.length→iT G N c' w' o.st a'→Step n c H w c' o.st.H w'→Q o.ex a' w'
theorem Eh{s:St}(hs:iT G N c w s a){v rf:Nat}{e0:Env}{st:nV}(hv:s.H[v]? = some (.fE rf e0 st)){L:Loc}(eD:c.ι v 0=some L) :
  ∃ r:Loop,w.heap[L.b]? = some (.loop r)∧L.gP=false∧(∀ k,ew c w (r.tmps.getD k undef) (e0.get k))∧(∃ M,G.rt rf=some (M,r.params,r.assign,r.body)∧M≤r.tmps.size)∧st.is r:=by
 have fF:=hs.eB.ob v _ hv
 simp only[Ob.gen]at fF
 rw[eD]at fF
 simp only[fr]at fF
 obtain⟨h1,r,h2,h3,h4,h5⟩:=fF
 rw[hs.eB.rt]at h4
 exact⟨r,h2,h1,h3,h4,h5⟩
theorem Nr{s:St}(hs:iT G N c w s a){v rf:Nat}{e0:Env}{st st':nV}(hv:s.H[v]? = some (.fE rf e0 st)){L:Loc}(eD:c.ι v 0=some L){r:Loop}(hr:w.heap[L.b]? = some (.loop r))
  (r':Loop) (h1:r'.tmps=r.tmps) (h2:r'.params=r.params) (h3:r'.assign=r.assign) (h4:r'.body=r.body) (h5:st'.is r') :
  iT G N c { w with heap:=w.heap.setIfInBounds L.b (.loop r') } { s with H:=s.H.set v (.fE rf e0 st') } a∧Step s.H.length c s.H w c (s.H.set v (.fE rf e0 st')) { w with heap:=w.heap.setIfInBounds L.b (.loop r') } ∧
   (setObj L.b (.loop r')).run P w = .ok () { w with heap:=w.heap.setIfInBounds L.b (.loop r') }:=by
 obtain⟨r0,a1,a2,a3,⟨M,a4,a6⟩,a5⟩:=Eh hs hv eD
 rw[hr]at a1
 cases a1
 obtain⟨k1,k2⟩:=z1 hs.eB hv rfl rfl (ob':=.fE rf e0 st') rfl eD a2 (.loop r') (fun w' pF pC=>by
  simp only[fr]
  refine⟨a2,r',pF,fun k=>by rw[h1];exact pC _ _ (a3 k),⟨M,?_,by rw[h1];exact a6⟩,h5⟩
  rw[hs.eB.rt,a4,h2,h3,h4])
 exact⟨⟨k1,fun k=>(hs.env k).mA hs.eB.toHeapOK k2,hs.size,hs.marks⟩,k2,by simp[setObj,Sem.run,hr]⟩
theorem S6(ro:Option Nat)(l:Nat):(FW ro).inRound l=FW (some l):=rfl
theorem aaz{s:St}{ro:Option Nat}{n:Nat}{o:Oper}{io:fY}{next:Act→World→Prop}{Q:Exit→Act→World→Prop}(hs:iT G N c w s a)(hc:ko P G o=some io)
  (hd:nY N o.dst=true) {v rf:Nat} {args:List D} {e0:Env} (gU:yieldOf s.env.get io=some (v,args)) (hv:s.H[v]? = some (.fE rf e0 .ready)) {M:Nat} {ps:Array Tmp} {ac bc:Code} (pv:G.rt rf=some (M,ps,ac,bc))
  (hlen:args.length=ps.size) (Dx:∀ p∈ps.toList,p<M) {Ra Rb:Out→Prop}
  (hA:∀ (ro:Option Nat) (n:Nat) (Q:Exit→Act→World→Prop) (c:Ctx) (w:World) (a:Act),iT G M c w { env:=oJ ps.toList args e0,H:=s.H,fV:=true } a →
   qQ G M s.H.length true c s.H w Ra Q→ac.wpIn (FW ro) n P Q a w)
  (hn:∀ o,Ra o→o.stop=false∧∃ iV,o.st.H[v]? = some (.fE rf iV .ready))
  (hB:∀ s1 iV,Ra (.norm s1)→s1.fV=true→s1.H[v]? = some (.fE rf iV .ready)→∀ (ro:Option Nat) (n:Nat) (Q:Exit→Act→World→Prop) (c:Ctx) (w:World) (a:Act),iT G M c w { s1 with H:=s1.H.set v (.fE rf iV .busy) } a →
   qQ G M s1.H.length true c (s1.H.set v (.fE rf iV .busy)) w Rb Q→bc.wpIn (FW ro) n P Q a w)
  (hm:∀ o,Rb o→∃ iL,o.st.H[v]? = some (.fE rf iL .busy))
  (k:∀ (q:Out) (iL:Env) (c':Ctx) (w':World) (a':Act),Rb q→q.st.H[v]? = some (.fE rf iL .busy)→s.H.length≤q.st.H.length→iT G N c' w' { s with env:=put s.env o.dst (.b !q.stop),H:=q.st.H.set v (.fE rf iL q.tc) } a' →
   Step s.H.length c s.H w c' (q.st.H.set v (.fE rf iL q.tc)) w'→next a' w'):o.wpIn (FW ro) n P a w next Q:=by
 obtain⟨L,r,vs,eD,fM,hblk,gC,gi⟩:=ZB hs.eB hs.env hc gU hv
 obtain⟨r0,a1,_,a3,⟨M',a4,a6⟩,a5⟩:=Eh hs hv eD
 rw[hblk]at a1
 cases a1
 rw[pv]at a4
 cases a4
 have gw:v<s.H.length:=(af.1 hv).1
 have fO:vs.length=r.params.size:=by rw[gC.length];exact hlen
 refine⟨fun _ _=>trivial,?_⟩
 rw[Oper.semAt_plain (FW ro) a.eval o (uL hc),gi fO]
 refine⟨fun h=>by simp[Fence.wide]at h,roundIn_of_wpIn (F:=FW ro) trivial ?_⟩
 rw[S6]
 have Le:(r.params.zip vs.toArray).foldl (fun tmps (t,a)=>tmps.setIfInBounds t a) r.tmps=(r.params.toList.zip vs).foldl (fun(tmps:Array Value) (p:Tmp×Value)=>tmps.setIfInBounds p.1 p.2) r.tmps:=by
  rw[← Array.foldl_toList];simp
 refine hA (some L.b) _ _ c w _ ⟨hs.eB,fun j=>?_,?_,.nil⟩ ?_
 ·show ew c w (Array.getD ((r.params.zip vs.toArray).foldl (fun tmps (t,a)=>tmps.setIfInBounds t a) r.tmps) j undef) _
  rw[Le]
  exact Kq _ _ _ _ _ gC (fun p hp=>aH (Dx p hp) a6) a3 j
 ·show M≤Array.size ((r.params.zip vs.toArray).foldl (fun tmps (t,a)=>tmps.setIfInBounds t a) r.tmps)
  rw[Le,KN];exact a6
 ·intro o1 c1 w1 a1 sH Sg yi jU sV
  obtain⟨L3,iV,kY⟩:=hn o1 sH
  cases o1 with
  | exit=>cases L3
  | ret=>cases L3
  | norm s1=>
   have rD:c1.ι v 0=some L:=sV.old v 0 L gw eD
   obtain⟨r1,b1,b2,b3,_,b5⟩:=Eh jU kY rD
   have OE:r1.state = .ready∧r1.pending=none:=b5
   obtain⟨k1,k2,k3⟩:=Nr (P:=P) (st':=.busy) jU kY rD b1 { r1 with state:=.busy } rfl rfl rfl rfl rfl
   refine⟨{ w1 with heap:=w1.heap.setIfInBounds L.b (.loop { r1 with state:=.busy }) },?_,?_⟩
   ·have hg:(Instr.getLoop L.b).run P w1 = .ok r1 w1:=by simp[Instr.getLoop,getObj,Sem.run,b1]
    simp only[Instr.beginRound,Sem.run_bind,hg,Result.andThen_ok,k3,OE.1]
    simp
   ·refine hB s1 iV sH Sg kY (some L.b) _ _ c1 _ a1 k1 ?_
    intro o2 c2 w3 a3' sI afD vW sS wh
    obtain⟨iL,mb⟩:=hm o2 sI
    have Sz:v<s1.H.length:=aH gw yi
    have sW:c2.ι v 0=some L:=wh.old v 0 L Sz rD
    obtain⟨r2,d1,d2,d3,_,d5⟩:=Eh sS mb sW
    have key:∀ (j:Option Code),o2.tc.is { r2 with state:=if j.isNone then .ready else .done,pending:=j }→j.isNone = !o2.stop→∃ v w',(Instr.endRound L.b j).run P w3 = .ok v w'∧next (a.put o.dst v) w':=by
     intro j hj RC
     obtain⟨e1,e2,e3⟩:=Nr (P:=P) (st':=o2.tc) sS mb sW d1 { r2 with state:=if j.isNone then .ready else .done,pending:=j } rfl rfl rfl rfl hj
     have hg:(Instr.getLoop L.b).run P w3 = .ok r2 w3:=by simp[Instr.getLoop,getObj,Sem.run,d1]
     refine⟨.bool j.isNone,{ w3 with heap:=w3.heap.setIfInBounds L.b (.loop { r2 with state:=if j.isNone then .ready else .done,pending:=j }) },?_,?_⟩
     ·simp only[Instr.endRound,Sem.run_bind,hg,Result.andThen_ok,e3]
      rfl
     ·have Q6:ew c2 { w3 with heap:=w3.heap.setIfInBounds L.b (.loop { r2 with state:=if j.isNone then .ready else .done,pending:=j }) } (.bool j.isNone) (.b !o2.stop):=by
       have:D.b (!o2.stop)=D.val (.bool j.isNone):=by rw[RC]
       rw[this];exact .val _
      have eJ:Step s.H.length c s.H w c2 (o2.st.H.set v (.fE rf iL o2.tc)) { w3 with heap:=w3.heap.setIfInBounds L.b (.loop { r2 with state:=if j.isNone then .ready else .done,pending:=j }) }:=
       (sV.trans (k2.trans (wh.trans e2 vW) (Nat.le_refl _)) yi)
      refine k o2 iL c2 _ _ sI mb (Nat.le_trans yi vW) (hs.next e1.eB eJ hd Q6) eJ
    cases o2 with
    | norm s2=>exact key none ⟨rfl,rfl⟩ rfl
    | ret s2=>exact key (some .ret) ⟨rfl,rfl⟩ rfl
    | exit id s2=>exact key (some (.exit id)) ⟨rfl,rfl⟩ rfl
theorem PK{s:St}(hs:iT G N c w s a){rf:Nat}{ps:Array Tmp}{ac bc:Code}(pv:G.rt rf=some (N,ps,ac,bc))(live:List Nat)(fn:FuncId) :
  ∃ (c2:Ctx) (w2:World) (L1 L2:Loc),(Instr.enterLoop fn a.tmps ps ac bc none).run P w = .ok (L2.b,[{ target:=.collected L1.b,args:=#[] }]) w2∧L1.gP=false∧L2.gP=false ∧
   c2.ι s.H.length 0=some L1∧c2.ι (s.H.length+1) 0=some L2∧eP G c2 (s.H ++ [.jA,.fE rf (forget live s.env) .ready]) w2∧Step s.H.length c s.H w c2 (s.H ++ [.jA,.fE rf (forget live s.env) .ready]) w2:=by
 obtain⟨uv,_,sV⟩:=D2 hs.eB (j'.last s.H) (.deferred (some [])) .jA rfl rfl (fun _ hb=>by simp only[fr];exact .inr hb)
 simp only[Al.last]at uv sV
 generalize x8:c.set s.H.length 0 ⟨w.heap.size,0,0,false⟩=c1 at uv sV
 have rD:c1.ι s.H.length 0=some ⟨w.heap.size,0,0,false⟩:=by rw[← x8];exact Ctx.oK _ _ _ _
 generalize DH:w.alloc (.deferred (some []))=w1 at uv sV
 have L5:w1.heap.size=w.heap.size+1:=by rw[← DH];simp
 have yi:(s.H ++ [Ob.jA]).length=s.H.length+1:=by simp
 obtain⟨kh,_,nN⟩:=D2 uv (j'.last (s.H ++ [.jA])) (.loop { state:=.ready,pending:=none,fn:=fn,tmps:=a.tmps,params:=ps,assign:=ac,body:=bc,defers:=w.heap.size }) (.fE rf (forget live s.env) .ready) rfl rfl (fun pC hb=>by
  simp only[fr]
  refine⟨trivial,_,hb,fun j=>pC _ _ ((vA hs.env live j).mA hs.eB.toHeapOK sV),⟨N,?_,hs.size⟩,rfl,rfl⟩
  rw[← pv,← uv.rt];rfl)
 simp only[Al.last,yi,bg,dS]at kh nN
 refine⟨_,_,⟨w.heap.size,0,0,false⟩,⟨w1.heap.size,0,0,false⟩,?_,rfl,rfl,?_,Ctx.oK _ _ _ _,kh,sV.trans nN (by omega)⟩
 ·subst DH
  simp[Instr.enterLoop]
 ·rw[Ctx.pP _ _ (by omega)];exact rD
theorem aax{s:St}{n:Nat}{Q:Exit→Act→World→Prop}(hs:iT G N c w s a){g:Operand}{X:X}(hx:cX G g=some X){f:FuncId}{first cap:List D}(ml:ev s.env.get X = .fn (.func f) first cap)
  (jl:nI P f=true) {rf:Nat} {ps:Array Tmp} {ac bc:Code} (pv:G.rt rf=some (N,ps,ac,bc)) {live:List Nat} {R1:D→et→Prop} {R:Out→Prop}
  (gR:pT P G f (first ++ [.gy (s.H.length+1)]++cap) (s.H ++ [.jA,.fE rf (forget live s.env) .ready]) R1)
  (k:∀ d H',R1 d H'→∃ env st o,H'[s.H.length+1]? = some (.fE rf env st)∧uQ { s with H:=H'.set (s.H.length+1) .dead,marks:=s.H.length::s.marks } st=some o∧R o)
  (hk:qQ G N s.H.length s.fV c s.H w R Q):(Code.rangeFunc g ps ac bc).wpIn (FW none) n P Q a w:=by
 refine wpIn_rangeFunc fun fn _=>?_
 obtain⟨c2,w2,L1,L2,Ro,kY,mb,rD,sW,kh,LY⟩:=PK (P:=P) hs pv live fn
 have LO:∀ u d,ew c w u d→ew c2 w2 u d:=fun u d hd=>hd.mA hs.eB.toHeapOK LY
 have hr:=gb hs.eB hs.env hx
 rw[ml]at hr
 generalize hu:a.eval g=u at hr
 cases hr with
 | fn _ fs cs _ _ q1 q2 q3 q4=>
  have SP:ew c2 w2 (.func (.yield L2.b) #[] #[]) (.gy (s.H.length+1)):=.gy _ L2 sW mb
  have gC:gG c2 w2 (fs ++ [Value.func (.yield L2.b) #[] #[]]++cs) (first ++ [.gy (s.H.length+1)]++cap):=
   ((gG.zg q1 fun i v d h1 h2=>LO _ _ (q3 i v d h1 h2)).append (.cons SP .nil)).append (gG.zg q2 fun i v d h1 h2=>LO _ _ (q4 i v d h1 h2))
  have v8:(resolve a.eval (rangeCall g L2.b) 0).run P w2 = .ok { target:=.fn (.func f) cs.toArray,args:=fs.toArray ++ #[Value.func (.yield L2.b) #[] #[]] } w2:=by
   simp[resolve,hu,Deferred.ofValue]
   rfl
  have hinv:(invoke (.fn (.func f) cs.toArray) (fs.toArray ++ #[Value.func (.yield L2.b) #[] #[]])).run P w2 = .ok (.enter f (fs ++ [Value.func (.yield L2.b) #[] #[]]++cs).toArray) w2:=by
   have h2:=Ez (P:=P) jl (fs ++ [Value.func (.yield L2.b) #[] #[]]++cs).toArray w2
   simpa[invoke]using h2
  have Di:=gR c2 w2 _ kh gC
  have jR:CallsIn (FW none) (n-1) P f (fs ++ [Value.func (.yield L2.b) #[] #[]]++cs).toArray w2 (rangePost (FW none) n P L2.b Q { a with defers:=[{ target:=.collected L1.b,args:=#[] }]++a.defers }):=by
   refine xE.2 (Di.mono ?_)
   rintro e w3 ⟨v,c3,d,H3,rfl,hR,hlen,LC,_,wh⟩
   obtain⟨env,st,q,ky,ki,Gb⟩:=k d H3 hR
   have Dg:(s.H ++ [Ob.jA,Ob.fE rf (forget live s.env) .ready]).length=s.H.length+2:=by simp
   have rD:c3.ι s.H.length 0=some L1:=wh.old _ 0 L1 (by rw[Dg];omega) rD
   have sW:c3.ι (s.H.length+1) 0=some L2:=wh.old _ 0 L2 (by rw[Dg];omega) sW
   have fF:=LC.ob _ _ ky
   simp only[Ob.gen]at fF
   rw[sW]at fF
   simp only[fr]at fF
   obtain⟨_,r3,Gh,_,_,vU⟩:=fF
   have afA:L2.b<w3.heap.size:=(aI.1 Gh).1
   obtain⟨m1,m2⟩:=Kk (w':={ w3 with heap:=w3.heap.setIfInBounds L2.b (.loop { r3 with state:=.exhausted }) }) LC ky rfl sW mb ⟨rfl,Nat.le_refl _⟩ rfl rfl (by simp) (fun b hb=>by rw[bt (dg hb)])
   have vR:Step s.H.length c s.H w c3 (H3.set (s.H.length+1) .dead) { w3 with heap:=w3.heap.setIfInBounds L2.b (.loop { r3 with state:=.exhausted }) }:=
    LY.trans (wh.trans m2 hlen) (by rw[Dg];omega)
   have DE:iT G N c3 { w3 with heap:=w3.heap.setIfInBounds L2.b (.loop { r3 with state:=.exhausted }) } { s with H:=H3.set (s.H.length+1) .dead,marks:=s.H.length::s.marks } { a with defers:=[{ target:=.collected L1.b,args:=#[] }]++a.defers }:=by
    refine⟨m1,fun j=>(hs.env j).mA hs.eB.toHeapOK vR,hs.size,.cons L1 rD kY (hs.marks.mono fun v L h=>vR.old v 0 L ?_ h)⟩
    rcases aW v s.H.length with h'|h'
    ·exact h'
    ·rw[hs.eB.out v 0 h']at h;cases h
   have Lv:r3.state≠.busy:=by
    cases st with
    | busy=>cases ki
    | ready=>rw[vU.1];decide
    | tG=>rw[vU.1];decide
    | sw=>rw[vU.1];decide
   have La:(Instr.endLoop L2.b).run P w3 = .ok r3.pending { w3 with heap:=w3.heap.setIfInBounds L2.b (.loop { r3 with state:=.exhausted }) }:=by
    have hg:(Instr.getLoop L2.b).run P w3 = .ok r3 w3:=by
     have:w3.heap[L2.b]? = some (.loop r3):=Gh
     simp[Instr.getLoop,getObj,Sem.run,this]
    have LU:(setObj L2.b (.loop { r3 with state:=.exhausted })).run P w3 = .ok () { w3 with heap:=w3.heap.setIfInBounds L2.b (.loop { r3 with state:=.exhausted }) }:=by
     have:w3.heap[L2.b]? = some (.loop r3):=Gh
     simp[setObj,Sem.run,this]
    have Q8:(r3.state == .busy)=false:=by
     generalize r3.state=x at Lv
     cases x<;>first|rfl|exact absurd rfl Lv
    simp only[Instr.endLoop,Sem.run_bind,hg,Result.andThen_ok,Q8,LU]
    simp[LU]
   generalize ({ w3 with heap:=w3.heap.setIfInBounds L2.b (.loop { r3 with state:=.exhausted }) }:World)=W at DE vR La
   refine⟨r3.pending,W,La,?_⟩
   have Gz:s.H.length≤(H3.set (s.H.length+1) .dead).length:=by
    rw[Dg]at hlen
    simp;omega
   cases st with
   | busy=>cases ki
   | ready=>
    cases ki
    rw[vU.2]
    exact hk _ c3 _ _ Gb rfl Gz DE vR
   | tG=>
    cases ki
    rw[vU.2]
    exact wpIn_ret (hk _ c3 _ _ Gb rfl Gz DE vR)
   | sw id=>
    cases ki
    rw[vU.2]
    exact wpIn_exit (hk _ c3 _ _ Gb rfl Gz DE vR)
  exact⟨L2.b,_,w2,_,w2,f,_,w2,Ro,v8,fun _ _=>trivial,hinv,fun h=>by simp[Fence.wide]at h,jR⟩
