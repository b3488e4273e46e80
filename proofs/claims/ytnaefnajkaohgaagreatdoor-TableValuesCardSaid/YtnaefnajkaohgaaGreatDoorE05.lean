/- Part 5 of the proof of skewer.skewerlaw15.TableValues. -/
import Derived.Test.YtnaefnajkaohgaaGreatDoorE04
import Derived.Shelf.SlSortCmp.NoneTotal
import Derived.Test.YtnaefnajkaohgaaGreatDoorE02
import Derived.Test.YtnaefnajkaohgaaGreatDoorE03
set_option linter.all false
namespace Go.AL
open Go
def tW(A:Array Oper):Bool:=(List.range A.size).all fun i=>match A[i]? with
 | some o=>o.after.all fun e => !Region.binds .any e||decide (e.on<i)
 | none=>true
def ti(A:Array Oper)(ord:List (List Nat)):Bool:=(List.range A.size).all fun i=>match A[i]? with
 | some o=>(ord.getD i []).all fun k=>o.after.any fun e=>Region.binds .any e&&(e.on == k||(ord.getD e.on []).contains k)
 | none=>true
def Kw(l:List fC)(ord:List (List Nat))(im:List (Nat×Nat)):Bool:=(List.range l.length).all fun i=>(List.range i).all fun k=>
 (ord.getD i []).contains k||(match l[k]?,l[i]? with
  | some a,some b=>tt a b&&(im.contains (k,i)||Hi a.op b.op)
  | _,_=>false)
section
variable{P:Program}{G:GT}{A:Array Oper}{ord:List (List Nat)}
theorem S9(h:tW A=true){i:Nat}{o:Oper}(hi:A[i]? = some o){e:Edge}(he:e∈o.after)(hb:Region.binds .any e=true):e.on<i:=by
 have:=ar.1 h i (aX.2 (aO.1 hi).1)
 simp only[hi]at this
 have:=cc.1 this e he
 simpa[hb]using this
theorem Qf(h:ti A ord=true){i:Nat}{o:Oper}(hi:A[i]? = some o){k:Nat}(hk:k∈ord.getD i []):∃ e∈o.after,Region.binds .any e=true∧(e.on=k∨k∈ord.getD e.on []):=by
 have:=ar.1 h i (aX.2 (aO.1 hi).1)
 simp only[hi]at this
 have:=ar.1 this k hk
 obtain⟨e,he,h2⟩:=Array.any_eq_true'.1 this
 simp only[ah,cu,beq_iff_eq,c7]at h2
 exact⟨e,he,h2.1,h2.2⟩
structure Left(A:Array Oper)(ord:List (List Nat))(rem:List k7)(listed:Array Bool):Prop where
 size:listed.size=A.size
 iff:∀ j,j<A.size→(listed.getD j true=false↔∃ it∈rem,it.k=j)
 sorted:rem.Pairwise fun p q=>p.k<q.k
 lt:∀ it∈rem,it.k<A.size
 down:∀ i,i<A.size→listed.getD i false=true→∀ k∈ord.getD i [],listed.getD k false=true
theorem XX{rem:List k7}{listed:Array Bool}(h:Left A ord rem listed){j:Nat}(hj:j<A.size):listed.getD j false=true∨∃ it∈rem,it.k=j:=by
 have mF:j<listed.size:=by rw[h.size];exact hj
 cases hb:listed.getD j true with
 | false=>exact .inr ((h.iff j hj).1 hb)
 | true=>left;simp[mF]at hb ⊢;exact hb
theorem YH{rem:List k7}{listed:Array Bool}(h:Left A ord rem listed){it:k7}(iH:it∈rem):listed.getD it.k false=false:=by
 have ft:=h.lt it iH
 have:=(h.iff it.k ft).2 ⟨it,iH,rfl⟩
 have mF:it.k<listed.size:=by rw[h.size];exact ft
 simp[mF]at this ⊢;exact this
theorem KD(he:tW A=true){it:k7}{rem:List k7}{listed:Array Bool}(h:Left A ord (it::rem) listed):it.k∈Region.ready .any A listed:=by
 rw[mem_ready]
 have ft:=h.lt it (by simp)
 refine⟨(h.iff it.k ft).2 ⟨it,by simp,rfl⟩,A[it.k],by simp[ft],fun e hm hb=>?_⟩
 have oe:=S9 he (i:=it.k) (o:=A[it.k]) (by simp[ft]) hm hb
 rcases XX h (show e.on<A.size by omega)with hl|⟨q,hq,pc⟩
 ·exact hl
 ·exfalso
  rcases aq.1 hq with rfl|hq
  ·omega
  ·have:=(aJ.1 h.sorted).1 q hq
   omega
theorem GQ(ho:ti A ord=true){rem:List k7}{listed:Array Bool}(h:Left A ord rem listed){i:Nat}(hi:i∈Region.ready .any A listed){q:k7}(hq:q∈rem):q.k ∉ ord.getD i []:=by
 intro hk
 obtain⟨_,o,Jn,gu⟩:=mem_ready.1 hi
 obtain⟨e,hm,hb,hc⟩:=Qf ho Jn hk
 have oe:=gu e hm hb
 have hn:=YH h hq
 rcases hc with hc|hc
 ·rw[hc]at oe;rw[oe]at hn;cases hn
 ·have ft:e.on<A.size:=by
   rcases bq e.on A.size with h'|h'
   ·exact h'
   ·have:listed.getD e.on false=false:=by
     have:listed.size≤e.on:=by rw[h.size];exact h'
     simp[dB this]
    rw[this]at oe;cases oe
  have:=h.down e.on ft oe q.k hc
  rw[this]at hn;cases hn
theorem JZ(ho:ti A ord=true){pre post:List k7}{it:k7}{listed:Array Bool}(h:Left A ord (pre++it::post) listed)(hi:it.k∈Region.ready .any A listed) :
  Left A ord (pre++post) (listed.setIfInBounds it.k true):=by
 have oM:(pre++post).Sublist (pre++it::post):=dh (dC it post) pre
 have gd:∀ q∈pre++post,q.k≠it.k:=by
  intro q hq
  have:=bg.1 h.sorted
  rcases List.mem_append.1 hq with hq|hq
  ·have:=this.2.2 q hq it (by simp);omega
  ·have:=(aJ.1 this.2.1).1 q hq;omega
 have ft:=h.lt it (by simp)
 refine⟨by simp[h.size],fun j hj=>?_,h.sorted.sublist oM,fun q hq=>h.lt q (oM.subset hq),fun i vT hl k hk=>?_⟩
 ·by_cases e:it.k=j
  ·subst e
   have:(listed.setIfInBounds it.k true).getD it.k true=true:=by
    have:it.k<listed.size:=by rw[h.size];exact ft
    simp[this]
   rw[this]
   constructor
   ·intro h;cases h
   ·rintro⟨q,hq,e⟩
    exact absurd e (gd q hq)
  ·rw[getD_set_ne true e,h.iff j hj]
   constructor
   ·rintro⟨q,hq,rfl⟩
    rcases List.mem_append.1 hq with hq|hq
    ·exact⟨q,aR _ hq,rfl⟩
    ·rcases aq.1 hq with rfl|hq
     ·exact absurd rfl e
     ·exact⟨q,bw _ hq,rfl⟩
   ·rintro⟨q,hq,rfl⟩
    exact⟨q,oM.subset hq,rfl⟩
 ·by_cases e:it.k=i
  ·subst e
   obtain⟨_,o,Jn,gu⟩:=mem_ready.1 hi
   obtain⟨e,hm,hb,hc⟩:=Qf ho Jn hk
   have oe:=gu e hm hb
   rcases hc with rfl|hc
   ·exact getD_set_true oe
   ·have ft:e.on<A.size:=by
     rcases bq e.on A.size with h'|h'
     ·exact h'
     ·have:listed.getD e.on false=false:=by
       have:listed.size≤e.on:=by rw[h.size];exact h'
       simp[dB this]
      rw[this]at oe;cases oe
    exact getD_set_true (h.down e.on ft oe k hc)
  ·rw[getD_set_ne false e]at hl
   exact getD_set_true (h.down i vT hl k hk)
variable{C:FuncId→List D→D→U→Prop}{N:Nat}
theorem Mk(n:Nat)(δ:Dl)(H:U):(jD n δ H).length=H.length:=by
 cases δ with
 | no=>rfl
 | cells v o xs=>simp only[jD,Dl.app];split<;>simp
 | obj v ob=>simp[jD,Dl.app]
 | new ob=>simp[jD,Dl.app,Al.hole]
theorem Me(hC:∀ g args d Hn,C g args d Hn→o5 P g=true∧tA P G g args [] d Hn)(he:tW A=true)(ho:ti A ord=true){ro:Option Nat}{m:Nat}{Q:Exit→Act→World→Prop}{ms:List Nat}{f':fO}{H':U} :
  ∀ (fuel:Nat) (rem:List k7) (listed:Array Bool) (c:Ctx) (w:World) (f:fO) (H:U) (a:Act),rem.length=fuel→Left A ord rem listed→SX G N c w f H ms a→Tx C f H rem f' H' →
   (∀ it∈rem,∃ o,A[it.k]? = some o∧rz P G N A o=some it.e) →
   (∀ p∈rem,∀ q∈rem,p.k<q.k→p.k∈ord.getD q.k []∨(tt p.e q.e=true∧qY p.rc q.rc=true)) →
   (∀ c' w' a',SX G N c' w' f' H' ms a'→Step H.length c H w c' H' w'→Q .normal a' w')→wpAnyIn (FW ro) m P .any A Q fuel listed a w
 | 0,rem,listed,c,w,f,H,a,hl,kz,hs,ht,_,_,hQ=>by
  have:rem = []:=bk hl
  subst this
  cases ht
  refine⟨?_,hQ c w a hs (Step.refl _ _ _ _)⟩
  refine cv.2 fun j hj=>?_
  obtain⟨h1,o,h2,_⟩:=mem_ready.1 hj
  obtain⟨it,iH,_⟩:=(kz.iff j (aO.1 h2).1).1 h1
  cases iH
 | fuel+1,rem,listed,c,w,f,H,a,hl,kz,hs,ht,sP,AM,hQ=>by
  refine⟨fun h0=>?_,fun i hi=>?_⟩
  ·cases rem with
   | nil=>cases hl
   | cons it rem=>
    have:=KD he kz
    rw[h0]at this
    cases this
  ·obtain⟨h1,o,h2,_⟩:=mem_ready.1 hi
   obtain⟨it,iH,rfl⟩:=(kz.iff i (aO.1 h2).1).1 h1
   obtain⟨pre,post,rfl⟩:=List.append_of_mem iH
   have Jt:∀ p∈pre,tt p.e it.e=true∧qY p.rc it.rc=true:=by
    intro p hp
    have ft:p.k<it.k:=(bg.1 kz.sorted).2.2 p hp it (by simp)
    rcases AM p (aR _ hp) it (by simp) ft with h|h
    ·exact absurd h (GQ ho kz hi (aR _ hp))
    ·exact h
   obtain⟨d,δ,hE,hT⟩:=ht.front Jt
   obtain⟨o',Jm,Ao⟩:=sP it (by simp)
   have oM:∀ q∈pre++post,q∈pre++it::post:=fun q hq=>(dh (dC it post) pre).subset hq
   refine M1 hC hs Jm Ao hE fun c' w' a' fW fg=>?_
   refine Me hC he ho fuel (pre++post) _ c' w' _ _ a' (by simp at hl ⊢;omega) (JZ ho kz hi) fW hT (fun q hq=>sP q (oM q hq)) (fun p hp q hq=>AM p (oM p hp) q (oM q hq)) fun c2 w2 a2 lQ pd=>?_
   rw[Mk]at pd
   exact hQ c2 w2 a2 lQ (fg.trans pd (Nat.le_refl _))
theorem Mg(he:tW A=true)(ho:ti A ord=true){F:Fence}{m:Nat}{Q:Exit→Act→World→Prop} :
  ∀ (lasts:List k7) (ops:List Oper) (listed:Array Bool) (a:Act) (w:World),Left A ord lasts listed→(∀ q∈lasts,∀ k,k<q.k→k∈ord.getD q.k [])→lasts.map (fun q=>A[q.k]?)=ops.map some →
   wpListIn F m P A Q ops a w→wpAnyIn F m P .any A Q lasts.length listed a w
 | [],ops,listed,a,w,kz,_,sZ,h=>by
  have:ops = []:=by simpa using sZ.symm
  subst this
  refine⟨cv.2 fun j hj=>?_,h⟩
  obtain⟨h1,o,h2,_⟩:=mem_ready.1 hj
  obtain⟨it,iH,_⟩:=(kz.iff j (aO.1 h2).1).1 h1
  cases iH
 | q::lasts,ops,listed,a,w,kz,hl,sZ,h=>by
  cases ops with
  | nil=>simp at sZ
  | cons o ops=>
   simp only[List.map_cons,bY]at sZ
   refine⟨fun h0=>?_,fun i hi=>?_⟩
   ·have:=KD he kz
    rw[h0]at this
    cases this
   ·obtain⟨h1,o',h2,_⟩:=mem_ready.1 hi
    obtain⟨it,iH,rfl⟩:=(kz.iff i (aO.1 h2).1).1 h1
    have iH:it=q:=by
     rcases aq.1 iH with h|h
     ·exact h
     ·have ft:q.k<it.k:=(aJ.1 kz.sorted).1 it h
      exact absurd (hl it (aW _ h) q.k ft) (GQ ho kz hi (q:=q) (by simp))
    subst iH
    have hn:=JZ (pre:=[]) (post:=lasts) ho kz hi
    have ih:∀ a w,wpListIn F m P A Q ops a w→wpAnyIn F m P .any A Q lasts.length (listed.setIfInBounds it.k true) a w:=fun a w h=>
     Mg he ho lasts ops _ a w hn (fun q hq=>hl q (aW _ hq)) sZ.2 h
    unfold wpOpIn
    simp only[sZ.1]
    simp only[wpListIn]at h
    split
    ·rename_i hw
     simp only[hw,if_true]at h
     exact Oper.wpIn_mono ih h
    ·rename_i hw
     simp only[hw]at h
     exact⟨h.1,ih _ _ h.2⟩
theorem Mf(hC:∀ g args d Hn,C g args d Hn→o5 P g=true∧tA P G g args [] d Hn)(he:tW A=true)(ho:ti A ord=true){ro:Option Nat}{m:Nat}{Q:Exit→Act→World→Prop}{ms:List Nat}{f':fO}{H':U}{lasts:List k7}{ops:List Oper}
  (v7:∀ q∈lasts,∀ k,k<q.k→k∈ord.getD q.k []) (sZ:lasts.map (fun q=>A[q.k]?)=ops.map some) :
  ∀ (fuel:Nat) (rem:List k7) (listed:Array Bool) (c:Ctx) (w:World) (f:fO) (H:U) (a:Act),rem.length=fuel→Left A ord (rem++lasts) listed→SX G N c w f H ms a→Tx C f H rem f' H' →
   (∀ it∈rem,∃ o,A[it.k]? = some o∧rz P G N A o=some it.e) →
   (∀ p∈rem,∀ q∈rem,p.k<q.k→p.k∈ord.getD q.k []∨(tt p.e q.e=true∧qY p.rc q.rc=true)) →
   (∀ c' w' a',SX G N c' w' f' H' ms a'→Step H.length c H w c' H' w'→wpListIn (FW ro) m P A Q ops a' w')→wpAnyIn (FW ro) m P .any A Q (fuel+lasts.length) listed a w
 | 0,rem,listed,c,w,f,H,a,hl,kz,hs,ht,_,_,hQ=>by
  have:rem = []:=bk hl
  subst this
  cases ht
  rw[aY]
  exact Mg he ho lasts ops listed a w kz v7 sZ (hQ c w a hs (Step.refl _ _ _ _))
 | fuel+1,rem,listed,c,w,f,H,a,hl,kz,hs,ht,sP,AM,hQ=>by
  have kb:∀ q∈rem,∀ l∈lasts,q.k<l.k:=fun q hq l hl=>(bg.1 kz.sorted).2.2 q hq l hl
  rw[show fuel+1+lasts.length=(fuel+lasts.length)+1 by omega]
  refine⟨fun h0=>?_,fun i hi=>?_⟩
  ·cases rem with
   | nil=>cases hl
   | cons it rem=>
    have:=KD (rem:=rem++lasts) he kz
    rw[h0]at this
    cases this
  ·obtain⟨h1,o,h2,_⟩:=mem_ready.1 hi
   obtain⟨it,iH,rfl⟩:=(kz.iff i (aO.1 h2).1).1 h1
   have iH:it∈rem:=by
    rcases List.mem_append.1 iH with h|h
    ·exact h
    ·cases rem with
     | nil=>cases hl
     | cons q rem=>exact absurd (v7 it h q.k (kb q (by simp) it h)) (GQ ho kz hi (q:=q) (by simp))
   obtain⟨pre,post,rfl⟩:=List.append_of_mem iH
   have Jg:Left A ord (pre++it::(post++lasts)) listed:=by simpa using kz
   have Jt:∀ p∈pre,tt p.e it.e=true∧qY p.rc it.rc=true:=by
    intro p hp
    have ft:p.k<it.k:=(bg.1 Jg.sorted).2.2 p hp it (by simp)
    rcases AM p (aR _ hp) it (by simp) ft with h|h
    ·exact absurd h (GQ ho Jg hi (aR _ hp))
    ·exact h
   obtain⟨d,δ,hE,hT⟩:=ht.front Jt
   obtain⟨o',Jm,Ao⟩:=sP it (by simp)
   have oM:∀ q∈pre++post,q∈pre++it::post:=fun q hq=>(dh (dC it post) pre).subset hq
   refine M1 hC hs Jm Ao hE fun c' w' a' fW fg=>?_
   refine Mf hC he ho v7 sZ fuel (pre++post) _ c' w' _ _ a' (by simp at hl ⊢;omega) (by simpa using JZ ho Jg hi) fW hT (fun q hq=>sP q (oM q hq)) (fun p hp q hq=>AM p (oM p hp) q (oM q hq)) fun c2 w2 a2 lQ pd=>?_
   rw[Mk]at pd
   exact hQ c2 w2 a2 lQ (fg.trans pd (Nat.le_refl _))
end
end Go.AL
namespace Go.AL
open Go
abbrev room(k:Nat):U:=List.replicate k .hole
section
variable{f:fO}{H:U}{r:Nat}
theorem Fi(v:Nat)(o:Ob)(ho:o≠.hole):(H++room r)[v]? = some o↔H[v]? = some o:=by
 rcases bq v H.length with h|h
 ·rw[ag h]
 ·rw[ak h,aI h]
  constructor
  ·intro h1
   rw[dy]at h1
   split at h1
   ·cases h1;exact absurd rfl ho
   ·cases h1
  ·intro h1;cases h1
theorem KI(v:Nat):rowsOf (H++room r) v=rowsOf H v:=by
 unfold rowsOf
 cases h:H[v]? with
 | none=>
  cases h2:(H++room r)[v]? with
  | none=>rfl
  | some o=>
   cases o<;>first|rfl|skip
   rw[Fi v _ (by simp)]at h2
   rw[h]at h2;cases h2
 | some o=>
  have:(H++room r)[v]? = some o:=by
   rw[ag (ae.1 h).1];exact h
  rw[this]
theorem wO(v g:Nat):rowAt (H++room r) v g=rowAt H v g:=by rw[uP,uP,KI]
theorem Kb(v:Nat):jU (H++room r) v=jU H v:=by
 unfold jU
 cases h:H[v]? with
 | none=>
  cases h2:(H++room r)[v]? with
  | none=>rfl
  | some o=>
   cases o<;>first|rfl|skip
   rw[Fi v _ (by simp)]at h2
   rw[h]at h2;cases h2
 | some o=>
  have:(H++room r)[v]? = some o:=by
   rw[ag (ae.1 h).1];exact h
  rw[this]
theorem K2(sz:Nat)(d:D):jM sz (H++room r) d=jM sz H d:=by
 cases d<;>first|rfl|skip
 simp only[jM,wO]
theorem RO(n:Nat)(op:gC):fH f (H++room r) n op=fH f H n op:=by
 cases op<;>simp only[fH]<;>first|rfl|skip
 case ld1=>simp only[rX,wO]
 case ldN=>simp only[rY,wO]
 case st1=>simp only[wY,wO]
 case stN=>simp only[wZ,wO]
 case lookup=>simp only[wy,Kb]
 case mapUpd=>simp only[uK,Kb]
 case len=>simp only[na,Kb]
 case b2s=>simp only[xm,K2]
 case app=>simp only[py,K2,wO]
 case copy=>simp only[xx,K2,wO]
theorem BD(k:Nat)(d:D):gh (H++room r) k d=gh H k d∧eZ (fun _=>none) (H++room r) k d=eZ (fun _=>none) H k d:=
 BC (H1:=H) (H2:=H++room r) k d fun v _=>(KI v).symm
theorem Ff(op:gC):fJ f (H++room r) op=fJ f H op:=by
 have key:∀ args:List D,args.map (gh (H++room r) 40)=args.map (gh H 40):=fun args=>aj fun d _=>(BD 40 d).1
 cases op<;>first|rfl|skip
 case call g args=>simp only[fJ,key]
 case callN g args=>simp only[fJ,key]
 case callv g args=>simp only[fJ,key]
 case len k x=>cases k<;>rfl
theorem QN{v g:Nat}{x:TypeId×List D}(h:rowAt H v g=some x):v<H.length:=(ae.1 (BJ h)).1
theorem Yh{v:Nat}{x:KK×List (Value×D)}(h:jU H v=some x):v<H.length:=(ae.1 (uJ h)).1
def Safe(H:U):Dl→Prop
 | .no=>True
 | .cells v o xs=>∃ t g cs,H[v]? = some (.row t g cs)∧o+xs.length≤cs.length
 | .obj v _=>v<H.length
 | .new _=>True
theorem RP{op:gC}{n:Nat}{d:D}{δ:Dl}(h:fH f H n op=some (d,δ)):Safe H δ:=by
 have hl:∀ {o:Option D},lift o=some (d,δ)→Safe H δ:=fun h=>by rw[(kB h).2];trivial
 cases op<;>simp only[fH]at h<;>first|exact hl h|(cases h;done)|skip
 case box=>unfold p6 at h;split at h<;>cases h;trivial
 case alloc=>cases h;trivial
 case mkmap=>cases h;trivial
 case buildSl=>
  unfold tO at h
  split at h
  ·split at h<;>cases h;trivial
  ·cases h
 case mksl=>
  unfold yq at h
  split at h
  ·split at h<;>cases h;trivial
  ·cases h
 case st1=>
  unfold wY at h
  split at h
  ·split at h
   ·rename_i v g o _ t cs gf
    split at h
    ·rename_i hc;cases h;exact⟨_,_,_,BJ gf,by simp;omega⟩
    ·cases h
   ·cases h
  ·cases h
 case stN=>
  unfold wZ at h
  split at h
  ·split at h
   ·rename_i v g o xs _ _ t cs gf
    split at h
    ·rename_i hc;cases h;exact⟨_,_,_,BJ gf,by simp;omega⟩
    ·cases h
   ·cases h
  ·cases h
 case mapUpd=>
  unfold uK at h
  split at h
  ·split at h
   ·rename_i hm
    split at h
    ·cases h;exact Yh hm
    ·cases h
   ·cases h
  ·cases h
 case app=>
  unfold py at h
  split at h
  ·split at h
   ·split at h
    ·rename_i gf
     split at h
     ·cases h;exact QN gf
     ·cases h
    ·cases h
   ·split at h
    ·cases h;trivial
    ·split at h
     ·cases h;trivial
     ·cases h
   ·cases h
  ·cases h
 case copy=>
  unfold xx at h
  split at h
  ·split at h
   ·rename_i gf
    split at h
    ·cases h;exact QN gf
    ·cases h
   ·cases h
  ·cases h;trivial
  ·cases h
theorem HC{δ:Dl}(hs:Safe H δ)(k:Nat)(hk:(δ.app H (Al.last H)).length≤k) :
  jD H.length δ (H++room (k-H.length))=δ.app H (Al.last H)++room (k-(δ.app H (Al.last H)).length)∧Fits H.length δ (H++room (k-H.length)):=by
 cases δ with
 | no=>exact⟨rfl,trivial⟩
 | cells v o xs=>
  obtain⟨t,g,cs,h1,h2⟩:=hs
  have ft:=(ae.1 h1).1
  have h3:(H++room (k-H.length))[v]? = some (.row t g cs):=by rw[ag ft];exact h1
  refine⟨?_,t,g,cs,h3,h2⟩
  simp only[jD,Dl.app,h3,h1,bP]
  rw[cN _ _ ft]
 | obj v ob=>
  refine⟨?_,trivial⟩
  simp only[jD,Dl.app,bP]
  rw[cN _ _ hs]
 | new ob=>
  simp only[Dl.app,Al.last,ax,aG,cI,aY]at hk ⊢
  have e:k-H.length=(k-(H.length+1))+1:=by omega
  refine⟨?_,?_⟩
  ·simp only[jD,Dl.app,Al.hole]
   rw[e,room,bL,List.set_append_right _ _ (Nat.le_refl _)]
   simp[bt]
  ·show(H++room (k-H.length))[H.length]? = some .hole
   rw[e,ak (Nat.le_refl _)]
   simp[bL]
end
section
variable{G:GT}{c:Ctx}{w:World}{H:U}
theorem Gi{r v:Nat}{L:Loc}:jN c (H++room r) v L↔jN c H v L:=by
 constructor
 ·rintro⟨o,ho,ha,e7⟩
  rw[Fi v o (by rintro rfl;cases ha)]at ho
  exact⟨o,ho,ha,e7⟩
 ·rintro⟨o,ho,ha,e7⟩
  exact⟨o,(Fi v o (by rintro rfl;cases ha)).2 ho,ha,e7⟩
theorem Kv{r b:Nat}:kj c (H++room r) b↔kj c H b:=by
 constructor
 ·rintro⟨v,L,hl,r⟩;exact⟨v,L,Gi.1 hl,r⟩
 ·rintro⟨v,L,hl,r⟩;exact⟨v,L,Gi.2 hl,r⟩
theorem QL(h:fj G c H w)(r:Nat):fj G c (H++room r) w where
 inj v v' L L' h1 h2:=h.inj v v' L L' (Gi.1 h1) (Gi.1 h2)
 lt b hb:=h.lt b (Kv.1 hb)
 nF b hb:=h.nF b (Kv.1 hb)
 iZ:=h.iZ
 out v k hv:=h.out v k (by simp at hv;omega)
 km v o k ho hk:=by
  rcases bq v H.length with hv|hv
  ·rw[ag hv]at ho;exact h.km v o k ho hk
  ·exact h.out v k hv
 ob v o ho:=by
  rcases bq v H.length with hv|hv
  ·rw[ag hv]at ho;exact h.ob v o ho
  ·rw[ak hv,dy]at ho
   split at ho
   ·cases ho
    simp only[fX]
    exact h.out v _ hv
   ·cases ho
 gl:=h.gl
 rt:=h.rt
theorem QM(r n:Nat):Step n c H w c (H++room r) w:=
 ⟨⟨rfl,Nat.le_refl _⟩,rfl,rfl,Nat.le_refl _,rfl,fun _ h=>h,fun _ h=>.inl h,fun _ _ _=>rfl,fun _ _ _ _ h=>h,fun _ h=>.inr (Kv.1 h)⟩
end
end Go.AL
namespace Go.AL
open Go Go.Proofs Go.Shelf Go.RowKit Go.Lib Go.Sort
structure sx(P:Program)(f:FuncId)(sz:Nat):Prop where
 pos:0<sz
 full:∀ (α:Type) [Inhabited α] (enc:α→List Value) (_:∀ x,(enc x).length=sz) (_:∀ x,∀ v∈enc x,v.oneCell'=true) (cf:α→α→Int) (_:SWO (ltOf cf)) (g k8 off cap:Nat) (d:Array α) (w:World)
  (_:∀ args w,(callFunc g args).run P w = .ok (.enter g args) w) (_:CmpLays P g #[] enc sz cf k8 off d.size w) (_:HoldsK enc sz w k8 off d) (_:k8<w.heap.size) (_:d.size<4611686018427387904),
  Calls P f #[.slice (some ⟨k8,off,none⟩) d.size cap,.func (.func g) #[] #[]] w fun e w'=>e = .returned (.tuple #[])∧∃ d' n os,PermIn 0 d.size d d'∧SortedIn (ltOf cf) 0 d.size d'∧w'=sortWorldK enc sz w k8 off n d' os
 none:∀ (p:Option Addr) (cap:Nat) (fv:Value) (w:World),Calls P f #[.slice p 0 cap,fv] w fun e w'=>e = .returned (.tuple #[])∧w'=w
theorem sx.of{P:Program}{ρ:Ren}(L:SlLaysF0.n6 P ρ){k:Nat}(hk:0<k)(aE:∀ w,(isAgg (ρ.t 24)).run P w = .ok true w)(zE:∀ w,(Go.sizeOf (ρ.t 24)).run P w = .ok k w):sx P (ρ.f 6) k where
 pos:=hk
 full α _ enc h1 h2 cf hO g k8 off cap d w eg hc hH hb hs:=AnyQ.slices_SortFunc L k aE zE enc h1 h2 cf hO g #[] k8 off cap d w eg hc hH hb hs
 none:=AnyF.slices_SortFunc_none L
section
variable{P:Program}{G:GT}{c:Ctx}{H:U}{w:World}{α:Type}
structure El(c:Ctx)(w:World)(fc:α→List D)(l:List α) where
 vs:List Value
 a:α
 mem:a∈l
 cells:Cells (c.data c.F) w vs (fc a)
theorem Q7{β:Type}[Inhabited β](enc:β→List Value)(k k8 off m:Nat)(dk:Array β)(os:Array Obj){b:Nat}(hb:b<w.heap.size)(hn:b≠k8):(sortWorldK enc k w k8 off m dk os).heap[b]? = w.heap[b]? := by
 simp only[sortWorldK,grow,putRowK,putRow,mapBlock,Go.Sort.ahead]
 rw[b9 (by simpa using hb),bN,if_neg (dM hn)]
theorem S3(h:fj G c H w){W:World}(hs:w.heap.size≤W.heap.size)(hk:∀ b,c.F b→W.heap[b]? = w.heap[b]?):fj G (c.data c.F) [] W where
 inj v v' L L' h1:=by obtain⟨o,ho,_⟩:=h1;simp at ho
 lt b hb:=by obtain⟨v,L,⟨o,ho,_⟩,_⟩:=hb;simp at ho
 nF b hb:=by obtain⟨v,L,⟨o,ho,_⟩,_⟩:=hb;simp at ho
 iZ b hb:=aL (h.iZ b hb) hs
 out _ _ _:=rfl
 km _ _ _ _ _:=rfl
 ob v o ho:=by simp at ho
 gl g cs hg:=by
  obtain⟨h1,h2⟩:=(ES h).gl g cs hg
  exact⟨h1,eV.carry (c:=c.data c.F) (c':=c.data c.F) (fun _ _ _ h=>h) (fun _ h=>h) (fun b o hF=>zI (hk b hF)) h2⟩
 rt:=h.rt
theorem aeB{W w':World}(h:iM W w'):∃ q os',w'=grow (W.drewN q) os':=by
 obtain⟨⟨h1,h2⟩,h3,h4,h5,h6⟩:=h
 refine⟨w'.drawn-W.drawn,w'.heap.extract W.heap.size w'.heap.size,?_⟩
 cases w' with
 | mk hp tp dr o ou=>
  cases W with
  | mk qL tp' dr' o' ou'=>
   simp only at *
   subst h1 h3 h4
   simp only[grow,World.drewN]
   congr 1
   ·apply Array.ext_getElem?
    intro i
    rcases bq i qL.size with hi|hi
    ·rw[b9 hi,h6 i hi]
    ·rw[Array.getElem?_append_right hi,Array.getElem?_extract]
     split
     ·congr 1;omega
     ·exact dB (by omega)
   ·omega
theorem ig.two{c:Ctx}{w:World}{vs:List Value}{d e:D}(h:ig c w vs [d,e]):∃ u v,vs = [u,v]∧eV c w u d∧eV c w v e:=by
 cases h with
 | cons h1 h=>cases h with
  | cons h2 h=>cases h;exact⟨_,_,rfl,h1,h2⟩
theorem aeb{f g:FuncId}{sz:Nat}(hS:sx P f sz){x:D}{R:D→U→Prop}(k:R (.tup []) H):re P G f [.emp,x] H R:=by
 intro c w vs eX hr
 obtain⟨u,v,rfl,h1,h2⟩:=ig.two hr
 cases h1
 refine(hS.none none 0 v w).mono ?_
 rintro e w' ⟨rfl,rfl⟩
 exact⟨_,c,_,H,rfl,k,Nat.le_refl _,eX,.tup [] [] rfl (fun i v d hv=>by simp at hv),Step.refl _ _ _ _⟩
theorem aec{f g:FuncId}{sz:Nat}(hS:sx P f sz)(hg:o5 P g=true)(fc:α→List D)(l:List α)(hl:∀ a∈l,(fc a).length=sz)(fQ:∀ a∈l,fy (fc a)=true)(h0:0<l.length)(rF:l.length<4611686018427387904)
  (cf:α→α→Int) (yi:∀ x∈l,¬ cf x x<0) (tr:∀ x∈l,∀ y∈l,∀ z∈l,cf x y<0→cf y z<0→cf x z<0) (nt:∀ x∈l,∀ y∈l,∀ z∈l,¬ cf x y<0→¬ cf y z<0→¬ cf x z<0)
  (hc:∀ x∈l,∀ y∈l,re P G g [.agg (fc x),.agg (fc y)] [] fun d _=>d = .i (cf x y)) {v gen:Nat} {t:TypeId} (hv:H[v]? = some (.row t gen (l.map fc).flatten)) {R:D→U→Prop}
  (k:∀ l':List α,l'.Perm l→l'.Pairwise (fun x y=>¬ cf y x<0)→R (.tup []) (H.set v (.row t gen (l'.map fc).flatten))) :
  re P G f [.eT v gen sz 0 l.length,.fn (.func g) [] []] H R:=by
 have jr:=hS.pos
 intro c w vs eX hr
 obtain⟨u,v1,rfl,h1,h2⟩:=ig.two hr
 clear hr
 have hn:l.length=l.length:=rfl
 revert hn
 generalize hN:l.length=N at h1
 intro hn
 have ke:v1 = .func (.func g) #[] #[]:=by
  cases h2 with
  | fn _ fs cs df dc gW hJ _ _=>
   have e1:fs = []:=aC.1 gW
   have e2:cs = []:=aC.1 hJ
   subst e1;subst e2;rfl
 subst ke
 clear h2
 cases h1 with
 | lu=>omega
 | eT _ _ _ _ _ cap L e7 gw iQ ji kc=>
 have gi:=eX.ob v _ hv
 simp only[Ob.gen]at gi
 rw[e7]at gi
 simp only[fX,gw]at gi
 obtain⟨arr,lD,JG,hlen,nK⟩:=gi
 have oh:(l.map fc).flatten.length=N*sz:=by
  rw[Fb sz _ (by simpa using hl),List.length_map,hN]
 rw[oh]at hlen
 have uu:kj c H L.b:=⟨v,L,⟨_,hv,rfl,e7⟩,gw,rfl⟩
 have hblk:=eX.lt _ uu
 have hmul:∀ i,i<N→L.base+i*sz+sz≤arr.size:=fun i hi=>by
  have:(i+1)*sz≤N*sz:=bx _ hi
  rw[bU]at this
  omega
 let mk:Fin l.length→El c w fc l:=fun i=>{
  vs:=(arr.toList.drop (L.base+i.val*sz)).take sz
  a:=l[i.val]
  mem:=bJ _
  cells:=by
   have hi:i.val<N:=by rw[← hN];exact i.isLt
   have hm:=hmul _ hi
   have ur:(fc l[i.val]).length=sz:=hl _ (bJ _)
   have gM:∀ r,r<sz→∃ y d,((arr.toList.drop (L.base+i.val*sz)).take sz)[r]? = some y∧(fc l[i.val])[r]? = some d∧y.oneCell'=true∧eV c w y d:=fun r hr=>by
    have hd:(l.map fc).flatten[i.val*sz+r]? = (fc l[i.val])[r]? := by
     rw[Fa sz jr _ (by simpa using hl),show(i.val*sz+r) / sz=i.val from by rw[di,Nat.mul_add_div jr,Nat.div_eq_of_lt hr];rfl,show(i.val*sz+r) % sz=r from by rw[di,Nat.mul_add_mod,eA hr]]
     simp
    have hx:(fc l[i.val])[r]? = some (fc l[i.val])[r]:=List.getElem?_eq_getElem (by omega)
    obtain⟨y,Wz,WA,WB⟩:=nK (i.val*sz+r) _ (hd.trans hx)
    refine⟨y,_,?_,hx,WA,WB⟩
    rw[aA,if_pos hr,aB,bE,← Wz]
    congr 1;omega
   have pa:((arr.toList.drop (L.base+i.val*sz)).take sz).length=sz:=by simp;omega
   refine⟨by rw[pa,ur],fun y hy=>?_,fun r y d hy hd=>?_⟩
   ·obtain⟨r,hr⟩:=aD.1 hy
    have lG:r<sz:=by have:=(ae.1 hr).1;omega
    obtain⟨y',d,e1,_,e3,_⟩:=gM r lG
    rw[hr]at e1;cases e1;exact e3
   ·have lG:r<sz:=by have:=(ae.1 hy).1;omega
    obtain⟨y',d',e1,e2,_,e4⟩:=gM r lG
    rw[hy]at e1;cases e1
    rw[hd]at e2;cases e2
    exact eV.closed (c:=c) (c':=c.data c.F) (fun b hb=>hb) e4 (sI (fQ _ (bJ _)) hd) }
 haveI:Inhabited (El c w fc l):=⟨mk ⟨0,h0⟩⟩
 let enc:El c w fc l→List Value:=fun e=>e.vs
 let d:Array (El c w fc l):=Array.ofFn mk
 have lh:d.size=N:=by simp[d,hN]
 have gy:∀ x:El c w fc l,(enc x).length=sz:=fun x=>by rw[show enc x=x.vs from rfl,x.cells.len,hl _ x.mem]
 have Jo:∀ x:El c w fc l,∀ y∈enc x,y.oneCell'=true:=fun x y hy=>x.cells.one y hy
 have U4:d.toList.map (fun e=>e.a)=l:=by
  apply bM
  intro i
  simp only[d,au,bE,Array.getElem?_ofFn]
  by_cases hi:i<l.length
  ·simp[hi,mk]
  ·simp[hi]
 have hO:SWO (ltOf fun x y:El c w fc l=>cf x.a y.a):=by
  refine⟨fun x=>?_,fun x y z=>?_,fun x y z=>?_⟩
  ·simpa[ltOf]using yi x.a x.mem
  ·simpa[ltOf]using tr x.a x.mem y.a y.mem z.a z.mem
  ·simpa[ltOf]using nt x.a x.mem y.a y.mem z.a z.mem
 have xR:∀ j,w.cell? ⟨L.b,j,none⟩=arr[j]? := fun j=>by simp[World.cell?,lD]
 have hH:HoldsK enc sz w L.b (L.base+0*sz) d:=by
  intro j hj
  have vW:j<N*sz:=by simpa[lh]using hj
  have hq:j / sz<N:=Nat.div_lt_of_lt_mul (by rw[di];exact vW)
  have hr:j % sz<sz:=Nat.mod_lt _ jr
  have hm:=hmul _ hq
  have hjj:j / sz*sz+j % sz=j:=by rw[di];exact Nat.div_add_mod j sz
  rw[get_flatK _ _ _ _ (by rw[lh];exact vW)]
  refine⟨?_,?_⟩
  ·have e1:d[j / sz]! = mk ⟨j / sz,by omega⟩:=by
    rw[getElem!_pos d (j / sz) (by omega)];simp[d]
   rw[xR,e1]
   show _=some (id ((arr.toList.drop (L.base+j / sz*sz)).take sz)[j % sz]!)
   rw[getElem!_pos _ (j % sz) (by simp;omega),List.getElem_take,List.getElem_drop,Array.getElem_toList,cm (by omega)]
   simp only[id]
   congr 2;omega
  ·simp[World.frozen?,lD]
 have U0:CmpLays P g #[] enc sz (fun x y:El c w fc l=>cf x.a y.a) L.b (L.base+0*sz) d.size w:=by
  intro m os dk _ x y
  have hW:∀ b,c.F b→(sortWorldK enc sz w L.b (L.base+0*sz) m dk os).heap[b]? = w.heap[b]? := fun b hb=>Q7 _ _ _ _ _ _ _ (eX.iZ b hb) fun e=>eX.nF _ uu (e▸hb)
  have oL:fj G (c.data c.F) [] (sortWorldK enc sz w L.b (L.base+0*sz) m dk os):=S3 eX (size_sortWorldK_c _ _ _ _ _ _ _ _) hW
  have qO:∀ x:El c w fc l,eV (c.data c.F) (sortWorldK enc sz w L.b (L.base+0*sz) m dk os) (.agg (enc x).toArray) (.agg (fc x.a)):=fun x=>
   .agg _ _ x.cells.len x.cells.one fun i y d hy hd=>eV.carry (c:=c.data c.F) (c':=c.data c.F) (fun _ _ _ h=>h) (fun _ h=>h) (fun b o hF=>zI (hW b hF)) (x.cells.rep i y d hy hd)
  have:=hc x.a x.mem y.a y.mem _ _ _ oL (.cons (qO x) (.cons (qO y) .nil))
  rw[show(#[Value.agg (enc x).toArray,Value.agg (enc y).toArray] ++ #[]:Array Value) = [Value.agg (enc x).toArray,Value.agg (enc y).toArray].toArray by simp]
  refine Calls.mono this ?_
  rintro e w' ⟨u,c',d',H',he,rfl,_,_,hu,fg⟩
  cases hu
  exact⟨he,aeB (vG fg)⟩
 have eg:∀ args w,(callFunc g args).run P w = .ok (.enter g args) w:=G5 hg
 have ix:=hS.full (El c w fc l) enc gy Jo _ hO g L.b (L.base+0*sz) cap d w eg U0 hH hblk (by omega)
 rw[lh]at ix
 refine ix.mono ?_
 rintro e w' ⟨rfl,d',n,os,⟨Jq,_,xZ⟩,V9,rfl⟩
 have mE:d'.size=N:=by rw[Jq,lh]
 have VU:(d'.toList.map fun e=>e.a).Perm l:=by
  refine List.Perm.trans (List.Perm.map _ ?_) (List.Perm.of_eq U4)
  have e1:(d'.extract 0 N).toList=d'.toList:=by rw[← mE];simp
  have e2:(d.extract 0 N).toList=d.toList:=by rw[← lh];simp
  rw[e1,e2]at xZ
  exact xZ
 have VY:(d'.toList.map fun e=>e.a).Pairwise fun x y=>¬ cf y x<0:=by
  rw[eo,bz]
  intro i j hi hj vV
  have l3:i<d'.size:=by simpa using hi
  have vW:j<d'.size:=by simpa using hj
  have:=V9 i j (Nat.zero_le _) vV (by omega)
  rw[getElem!_pos d' j vW,getElem!_pos d' i l3]at this
  simpa[ltOf]using this
 have FG:((d'.toList.map fun e=>e.a).map fc).flatten.length=N*sz:=by
  rw[Fb sz _ (fun x hx=>?_)]
  ·simp[mE]
  ·simp only[ao]at hx
   obtain⟨a,⟨e,_,rfl⟩,rfl⟩:=hx
   exact hl _ e.mem
 have hF:(flatK enc sz d').size=N*sz:=by rw[size_flatK,mE]
 have hF2:N*sz≤arr.size-L.base:=by omega
 obtain⟨w1,w2⟩:=B9 eX hv e7 gw lD (putCells id (L.base+0*sz) (flatK enc sz d') arr) (by simp[putCells]) JG ((d'.toList.map fun e=>e.a).map fc).flatten (by rw[FG];exact hlen) (fun i dd hi=>by
  have l3:i<N*sz:=by rw[← FG];exact(ae.1 hi).1
  have hq:i / sz<N:=Nat.div_lt_of_lt_mul (by rw[di];exact l3)
  have hr:i % sz<sz:=Nat.mod_lt _ jr
  have hx:=d'[i / sz].cells
  rw[Fa sz jr _ (fun x hx=>by
   simp only[ao]at hx
   obtain⟨a,⟨e,_,rfl⟩,rfl⟩:=hx
   exact hl _ e.mem)]at hi
  have e1:(List.map fc (List.map (fun e=>e.a) d'.toList))[i / sz]? = some (fc d'[i / sz].a):=by
   simp only[au,bE]
   rw[cm (by omega)];rfl
  rw[e1,Option.bind_some]at hi
  have gT:(d'[i / sz].vs).length=sz:=gy d'[i / sz]
  have e2:(d'[i / sz].vs)[i % sz]? = some (d'[i / sz].vs)[i % sz]:=List.getElem?_eq_getElem (by omega)
  refine⟨(d'[i / sz].vs)[i % sz],?_,hx.one _ (bJ _),eV.closed (c:=c.data c.F) (c':=c) (fun b hb=>hb) (hx.rep _ _ _ e2 hi) (sI (fQ _ d'[i / sz].mem) hi)⟩
  rw[putCells,eI,cm (by omega),a8,if_pos ⟨by omega,by rw[hF];omega⟩]
  rw[show L.base+i-(L.base+0*sz)=i by omega,get_flatK _ _ _ _ (by rw[mE];exact l3),getElem!_pos d' (i / sz) (by omega)]
  show some (id (d'[i / sz].vs)[i % sz]!)=_
  rw[getElem!_pos _ (i % sz) (by omega)];rfl)
 have As:iM (w.setRow L.b (putCells id (L.base+0*sz) (flatK enc sz d') arr)) (sortWorldK enc sz w L.b (L.base+0*sz) n d' os):=by
  refine⟨⟨rfl,Nat.le_add_right _ _⟩,rfl,rfl,?_,fun b hb=>?_⟩
  ·simp[World.setRow,sortWorldK,grow,putRowK,putRow,mapBlock,Go.Sort.ahead]
  ·have mB:b<w.heap.size:=by simpa[World.setRow]using hb
   by_cases rI:b=L.b
   ·subst rI
    rw[setRow_heap w L.b arr _ t _ lD]
    simp only[sortWorldK,grow,putRowK,putRow,mapBlock,Go.Sort.ahead]
    rw[b9 (by simpa using mB),bN,if_pos rfl,lD]
    rfl
   ·rw[Q7 _ _ _ _ _ _ _ mB rI]
    simp only[World.setRow,bN]
    rw[if_neg (dM rI)]
 exact⟨_,c,_,_,rfl,k _ VU VY,by simp,w1.nq As,.tup [] [] rfl (fun i v d hv=>by simp at hv),w2.trans (yQ _ As) (Nat.le_refl _)⟩
end
end Go.AL
namespace Go.AL
open Go Go.Proofs Go.Shelf Go.RowKit Go.Lib Go.Sort
structure vf(P:Program)(f:FuncId):Prop where
 full:∀ (k8 off cap:Nat) (zs:List Int) (w:World) (_:Holds (Value.int .i64) w k8 off zs.toArray) (_:k8<w.heap.size) (_:zs.length<4611686018427387904),
  Calls P f #[.slice (some ⟨k8,off,none⟩) zs.length cap] w fun e w'=>e = .returned (.tuple #[])∧∃ n os,w'=grow (putRow (Value.int .i64) (Go.Sort.ahead w n) k8 off (zs.mergeSort fun x y=>decide (x≤y)).toArray) os
section
variable{P:Program}{G:GT}{c:Ctx}{H:U}{w:World}
theorem aee{f:FuncId}(hS:vf P f)(l:List Int)(h0:0<l.length)(rF:l.length<4611686018427387904){v gen:Nat}{t:TypeId}(hv:H[v]? = some (.row t gen (l.map fun n=>D.i n))){R:D→U→Prop}
  (k:R (.tup []) (H.set v (.row t gen ((l.mergeSort fun x y=>decide (x≤y)).map fun n=>D.i n)))):re P G f [.eT v gen 1 0 l.length] H R:=by
 intro c w vs eX hr
 cases hr with
 | @cons u _ _ _ h1 hr=>
 cases hr
 have hn:l.length=l.length:=rfl
 revert hn
 generalize hN:l.length=N at h1
 intro hn
 cases h1 with
 | lu=>omega
 | eT _ _ _ _ _ cap L e7 gw iQ ji kc=>
 have gi:=eX.ob v _ hv
 simp only[Ob.gen]at gi
 rw[e7]at gi
 simp only[fX,gw]at gi
 obtain⟨arr,lD,JG,hlen,nK⟩:=gi
 rw[List.length_map,hN]at hlen
 have uu:kj c H L.b:=⟨v,L,⟨_,hv,rfl,e7⟩,gw,rfl⟩
 have hblk:=eX.lt _ uu
 have xR:∀ j,w.cell? ⟨L.b,j,none⟩=arr[j]? := fun j=>by simp[World.cell?,lD]
 have hH:Holds (Value.int .i64) w L.b (L.base+0*1) l.toArray:=by
  intro j hj
  have vW:j<l.length:=by simpa using hj
  obtain⟨y,h1,h2,h3⟩:=nK j (.i l[j]) (by simp[vW])
  cases h3
  refine⟨?_,by simp[World.frozen?,lD]⟩
  rw[xR,show L.base+0*1+j=L.base+j by omega,h1]
  simp[vW]
 have ix:=hS.full L.b (L.base+0*1) cap l w hH hblk rF
 rw[hN]at ix
 refine ix.mono ?_
 rintro e w' ⟨rfl,n,os,rfl⟩
 generalize lj:(l.mergeSort fun x y=>decide (x≤y))=l' at k ⊢
 have FG:l'.length=N:=by rw[← lj,List.length_mergeSort,hN]
 obtain⟨w1,w2⟩:=B9 eX hv e7 gw lD (putCells (Value.int .i64) (L.base+0*1) l'.toArray arr) (by simp[putCells]) JG (l'.map fun n=>D.i n) (by rw[List.length_map,FG];exact hlen) (fun i dd hi=>by
  rw[au]at hi
  obtain⟨a,ha,rfl⟩:=ai.1 hi
  have l3:i<l'.length:=(ae.1 ha).1
  refine⟨.int .i64 a,?_,rfl,.val _⟩
  rw[putCells,eI,cm (by omega),a8,if_pos ⟨by omega,by simp;omega⟩]
  rw[show L.base+i-(L.base+0*1)=i by omega,getElem!_pos l'.toArray i (by simpa using l3)]
  have:=(ae.1 ha).2
  simp[this])
 have As:iM (w.setRow L.b (putCells (Value.int .i64) (L.base+0*1) l'.toArray arr)) (grow (putRow (Value.int .i64) (Go.Sort.ahead w n) L.b (L.base+0*1) l'.toArray) os):=by
  refine⟨⟨rfl,Nat.le_add_right _ _⟩,rfl,rfl,?_,fun b hb=>?_⟩
  ·simp[World.setRow,grow,putRow,mapBlock,Go.Sort.ahead]
  ·have mB:b<w.heap.size:=by simpa[World.setRow]using hb
   simp only[grow,putRow,mapBlock,Go.Sort.ahead]
   rw[b9 (by simpa using mB),bN]
   by_cases rI:L.b=b
   ·subst rI
    rw[setRow_heap w L.b arr _ t _ lD,if_pos rfl,lD]
    rfl
   ·simp only[World.setRow,bN]
    rw[if_neg rI,if_neg rI]
 exact⟨_,c,_,_,rfl,k,by simp,w1.nq As,.tup [] [] rfl (fun i v d hv=>by simp at hv),w2.trans (yQ _ As) (Nat.le_refl _)⟩
end
end Go.AL
namespace Go.AL
open Go
def Out.ex:Out→Exit
 | .norm _=>.normal
 | .exit id _=>.exit id
 | .ret _=>.ret
def acN(A:Array Oper):List (List Nat):=A.toList.foldl (init:=[]) fun acc o=>
 acc ++ [dedup ((o.after.toList.filter fun e=>Region.binds .any e).flatMap fun e=>e.on::acc.getD e.on [])]
def acX(l:List fC)(ord:List (List Nat)):List (Nat×Nat):=(List.range l.length).flatMap fun i=>(List.range i).filterMap fun k=>
 if (ord.getD i []).contains k then none else match l[k]?,l[i]? with
  | some a,some b=>if Hi a.op b.op then none else some (k,i)
  | _,_=>none
def Pe:List FuncId:=[227]
def WZ:gC→Bool
 | .call f _=>Pe.contains f
 | .callN f _=>Pe.contains f
 | _=>false
def Pf(l:List fC)(ord:List (List Nat))(n:Nat):Bool:=n<l.length&&(List.range l.length).all fun i=>decide (i<n)||(List.range i).all fun k=>(ord.getD i []).contains k
def MY(im:List (Nat×Nat))(l:List fC)(ord:List (List Nat)):IR:=
 let n:=l.findIdx fun e=>WZ e.op
 if Pf l ord n then .kF im (l.take n) (l.drop n)else .draw im l
def ml:Code→List (Array Tmp×Code×Code)
 | .seq a b=>ml a++ml b
 | .cond _ a b=>ml a++ml b
 | .block _ a=>ml a
 | .loop a=>ml a
 | .rangeFunc _ ps a b=>(ps,a,b)::(ml a++ml b)
 | _=>[]
def cC(P:Program)(G:GT)(N:Nat)(rf:Nat):List (List Nat)→Code→Option (IR×List (List Nat))
 | hs,.skip=>some (.skip,hs)
 | hs,.region _ ops false=>match mU P G N ops ops.toList with
  | some l=>some (.ops l,hs)
  | none=>some (.bad,hs)
 | hs,.region _ ops true=>match mU P G N ops ops.toList with
  | some l=>
   let ord:=acN ops
   let im:=acX l ord
   if tW ops&&ti ops ord&&Kw l ord im then some (MY im l ord,hs)else some (.bad,hs)
  | none=>some (.bad,hs)
 | hs,.seq a b=>match cC P G N rf hs a with
  | some (x,kH)=>match cC P G N (rf+(ml a).length) kH b with
   | some (y,lQ)=>some (.seq x y,lQ)
   | none=>none
  | none=>none
 | hs,.cond c a b=>match cX G c with
  | some x=>match cC P G N rf hs a with
   | some (y,kH)=>match cC P G N (rf+(ml a).length) kH b with
    | some (z,lQ)=>some (.cond x y z,lQ)
    | none=>none
   | none=>none
  | none=>some (.bad,hs)
 | hs,.block id a=>match hs with
  | l::hs=>match cC P G N rf hs a with
   | some (x,kH)=>some (.block id l x,kH)
   | none=>none
  | []=>none
 | hs,.loop a=>match hs with
  | l::hs=>match cC P G N rf hs a with
   | some (x,kH)=>some (.loop l x,kH)
   | none=>none
  | []=>none
 | hs,.rangeFunc g _ _ _=>match cX G g,hs with
  | some x,l::hs=>some (.kX rf l x,hs)
  | _,_=>some (.bad,hs)
 | hs,.exit id=>some (.exit id,hs)
 | hs,.ret=>some (.ret,hs)
 | hs,_=>some (.bad,hs)
inductive lL(P:Program)(G:GT)(N:Nat):IR→Code→Prop
 | skip:lL P G N .skip .skip
 | ops {l id A} (h:mU P G N A A.toList=some l):lL P G N (.ops l) (.region id A false)
 | draw {im l id A} (ord:List (List Nat)) (h:mU P G N A A.toList=some l) (he:tW A=true) (ho:ti A ord=true) (hp:Kw l ord im=true):lL P G N (.draw im l) (.region id A true)
 | kF {im l es id A} (ord:List (List Nat)) (h:mU P G N A A.toList=some (l++es)) (he:tW A=true) (ho:ti A ord=true) (hp:Kw (l++es) ord im=true) (ur:∀ i,l.length≤i→i<(l++es).length→∀ k,k<i→k∈ord.getD i []):lL P G N (.kF im l es) (.region id A true)
 | seq {a b x y} (h1:lL P G N x a) (h2:lL P G N y b):lL P G N (.seq x y) (.seq a b)
 | cond {c a b x y z} (hc:cX G c=some x) (h1:lL P G N y a) (h2:lL P G N z b):lL P G N (.cond x y z) (.cond c a b)
 | block {id l a x} (h:lL P G N x a):lL P G N (.block id l x) (.block id a)
 | loop {l a x} (h:lL P G N x a):lL P G N (.loop l x) (.loop a)
 | kX {rf l x g ps ac bc} (hx:cX G g=some x) (h:G.rt rf=some (N,ps,ac,bc)):lL P G N (.kX rf l x) (.rangeFunc g ps ac bc)
 | exit {id}:lL P G N (.exit id) (.exit id)
 | ret:lL P G N .ret .ret
 | bad {c}:lL P G N .bad c
def vd(G:GT)(N rf:Nat)(code:Code):Prop:=∀ (i:Nat) (x:Array Tmp×Code×Code),(ml code)[i]? = some x→G.rt (rf+i)=some (N,x)
theorem vd.left{G:GT}{N rf:Nat}{a b:Code}{l:List (Array Tmp×Code×Code)}(hl:l=ml a++ml b)(h:∀ (i:Nat) (x:Array Tmp×Code×Code),l[i]? = some x→G.rt (rf+i)=some (N,x)):vd G N rf a∧vd G N (rf+(ml a).length) b:=by
 subst hl
 refine⟨fun i x hx=>h i x ?_,fun i x hx=>?_⟩
 ·rw[ag (ae.1 hx).1];exact hx
 ·rw[bj]
  exact h _ x (by rw[ak (by omega)];simpa using hx)
theorem HN{P:Program}{G:GT}{N:Nat}:∀ {code:Code} {rf:Nat} {hs fW:List (List Nat)} {ir:IR},vd G N rf code→cC P G N rf hs code=some (ir,fW)→lL P G N ir code:=by
 intro code
 induction code with
 | skip=>intro rf hs fW ir hR h;simp only[cC]at h;cases h;exact .skip
 | region id A draw=>
  intro rf hs fW ir hR h
  cases draw
  ·simp only[cC]at h
   split at h
   ·rename_i l hl;cases h;exact .ops hl
   ·cases h;exact .bad
  ·simp only[cC]at h
   split at h
   ·rename_i l hl
    split at h
    ·rename_i hc
     cases h
     simp only[ah]at hc
     unfold MY
     dsimp only
     split
     ·rename_i hL
      unfold Pf at hL
      simp only[ah,cu,decide_eq_true_eq,ar,aX,c7]at hL
      refine .kF _ (by rw[bO];exact hl) hc.1.1 hc.1.2 (by rw[bO];exact hc.2) fun i hi ka k hk=>?_
      rw[bO]at ka
      rw[aS]at hi
      rcases hL.2 i ka with h|h
      ·omega
      ·exact h k hk
     ·exact .draw _ hl hc.1.1 hc.1.2 hc.2
    ·cases h;exact .bad
   ·cases h;exact .bad
 | seq a b nB rU=>
  intro rf hs fW ir hR h
  obtain⟨uh,ui⟩:=vd.left rfl hR
  simp only[cC]at h
  split at h
  ·rename_i x kH ha
   split at h
   ·rename_i y lQ hb;cases h;exact .seq (nB uh ha) (rU ui hb)
   ·cases h
  ·cases h
 | cond c a b nB rU=>
  intro rf hs fW ir hR h
  obtain⟨uh,ui⟩:=vd.left rfl hR
  simp only[cC]at h
  split at h
  ·rename_i x hx
   split at h
   ·rename_i y kH ha
    split at h
    ·rename_i z lQ hb;cases h;exact .cond hx (nB uh ha) (rU ui hb)
    ·cases h
   ·cases h
  ·cases h;exact .bad
 | block id a nB=>
  intro rf hs fW ir hR h
  simp only[cC]at h
  split at h
  ·split at h
   ·rename_i x kH ha;cases h;exact .block (nB hR ha)
   ·cases h
  ·cases h
 | loop a nB=>
  intro rf hs fW ir hR h
  simp only[cC]at h
  split at h
  ·split at h
   ·rename_i x kH ha;cases h;exact .loop (nB hR ha)
   ·cases h
  ·cases h
 | rangeFunc g ps a b nB rU=>
  intro rf hs fW ir hR h
  simp only[cC]at h
  split at h
  ·rename_i x l kH hx
   cases h
   exact .kX hx (hR 0 _ rfl)
  ·cases h;exact .bad
 | exit id=>intro rf hs fW ir hR h;simp only[cC]at h;cases h;exact .exit
 | ret=>intro rf hs fW ir hR h;simp only[cC]at h;cases h;exact .ret
 | _=>intro rf hs fW ir hR h;simp only[cC]at h;cases h;exact .bad
def cR(P:Program):ResultVar→Option rp
 | .tmp t=>some (.tmp t)
 | .cell a t=>match nf P t,jg P t with
  | some false,some _=>some (.tQ a)
  | some true,some n=>some (.kM n a)
  | _,_=>none
def vi(P:Program):List ResultVar→Option (List rp)
 | []=>some []
 | x::r=>match cR P x,vi P r with
  | some a,some l=>some (a::l)
  | _,_=>none
def uS(P:Program)(k:Nat):Option (Nat×Array Tmp×Code×Code):=match P.funcs[k / 64]? with
 | some fn=>match fn.body with
  | some code=>(ml code)[k % 64]?.map fun x=>(fn.ntmps,x)
  | none=>none
 | none=>none
theorem ac5{P:Program}{G:GT}(hG:G.rt=uS P){f:Nat}{fn:Func}{code:Code}(hf:P.funcs[f]? = some fn)(hb:fn.body=some code)(hl:(ml code).length≤64):vd G fn.ntmps (64*f) code:=by
 intro i x hx
 have hi:i<64:=aL (ae.1 hx).1 hl
 rw[hG]
 unfold uS
 rw[show(64*f+i) / 64=f by omega,show(64*f+i) % 64=i by omega,hf]
 simp[hb,hx]
structure zj(P:Program)(G:GT)(f:FuncId)(fn:eW):Prop where
 ex:∃ func code hs fW,P.funcs[f]? = some func∧func.body=some code∧o5 P f=true∧(ml code).length≤64∧cC P G fn.ntmps (64*f) hs code=some (fn.body,fW)∧func.ntmps=fn.ntmps∧vi P func.results.toList=some fn.results
structure tH(P:Program)(G:GT)(rf:Nat)(R:nI):Prop where
 ex:∃ N ps ac bc,G.rt rf=some (N,ps,ac,bc)∧ps.toList=R.params∧(R.params.all fun p=>decide (p<N))=true∧lL P G N R.a ac∧lL P G N R.b bc
structure Hx(P:Program)(G:GT)(T:gj):Prop where
 rt:G.rt=uS P
 fn:∀ f fn,T.fn f=some fn→zj P G f fn
 round:∀ rf R,T.round rf=some R→tH P G rf R
 sort:∀ f sz,T.sort f=some sz→sx P f sz
 po:∀ f,T.po f=true→vf P f
def Em(F:Fence)(n:Nat)(P:Program)(c:Code)(Q:Exit→Act→World→Prop)(a:Act)(w:World):Prop:=
 ∀ (b:Frame) (k:List Item) (cs:List Frame),b.roundOf=F.round→F.fn b.fn→F.room (cs.length+1+n) →
  ∃ e a' w',Q e a' w'∧ArrivesIn (Machine.fenced P F) P (lone (b.atR a (.code c :: .inLoop c::k)) cs w) b k cs e a' w'
section
variable{F:Fence}{n:Nat}{P:Program}{Q:Exit→Act→World→Prop}{a:Act}{w:World}
theorem X6{c:Code}(h:c.wpIn F n P (Exit.then (Em F n P c Q) Q) a w):Em F n P c Q a w:=by
 intro b k cs gN hb hr
 obtain⟨e,zx,Ca,hq,lD⟩:=h b (.inLoop c::k) cs gN hb hr
 cases e with
 | normal=>
  obtain⟨Tt,RW,aeJ,V1,UL⟩:=hq b k cs gN hb hr
  exact⟨Tt,RW,aeJ,V1,.of_steps (StepsIn.trans lD (.one (fenced_calm hb hr rfl) stepR_inLoop)) UL⟩
 | exit id=>exact⟨_,zx,Ca,hq,.pass (x:=.inLoop c) rfl (fun _ _=>.inl (by simp)) lD⟩
 | goto l=>exact⟨_,zx,Ca,hq,.pass (x:=.inLoop c) rfl (fun _ _=>.inl (by simp)) lD⟩
 | ret=>exact⟨_,zx,Ca,hq,.pass (x:=.inLoop c) rfl (fun _ _=>.inl (by simp)) lD⟩
 | panic ch=>exact⟨_,zx,Ca,hq,.pass (x:=.inLoop c) rfl (fun _ _=>.inl (by simp)) lD⟩
 | outgrown=>exact⟨_,zx,Ca,hq,.pass (x:=.inLoop c) rfl (fun _ _=>.inl (by simp)) lD⟩
theorem aeC{c:Code}(h:Em F n P c Q a w):(Code.loop c).wpIn F n P Q a w:=by
 intro b k cs gN hb hr
 obtain⟨e,a',w',hq,lD⟩:=h b k cs gN hb hr
 exact⟨e,a',w',hq,.of_steps (.one (fenced_calm hb hr rfl) stepR_loop) lD⟩
end
section
variable{P:Program}{G:GT}{c:Ctx}{w:World}{a:Act}{N:Nat}
theorem HB(δ:Dl)(H:U):H.length≤(δ.app H (Al.last H)).length:=by
 cases δ with
 | no=>exact Nat.le_refl _
 | cells v o xs=>simp only[Dl.app];split<;>simp
 | obj v ob=>simp[Dl.app]
 | new ob=>simp[Dl.app,Al.last]
theorem G'(ks:ki)(H:U):(lV ks H).length=ks.length:=by simp[lV]
theorem PS{ks:ki}{H:U}{f:Nat→Nat}:∀ {vs:List Nat} {ds:List Deferred},ko c vs ds→(∀ v∈vs,∀ L,c.ι v 0=some L→(c.eZ ks H).ι (f v) 0=some L)→ko (c.eZ ks H) (vs.map f) ds:=by
 intro vs ds h
 induction h with
 | nil=>intro _;exact .nil
 | cons L h1 h2 _ ih=>intro hf;exact .cons L (hf _ (by simp) L h1) h2 (ih fun v hv=>hf v (by simp[hv]))
theorem Rl{n:Nat}{d:D}{v:Nat}(hv:v∈gG n d):n≤v:=by
 cases d<;>simp only[gG]at hv<;>first|(split at hv<;>simp at hv;omega)|(simp at hv)
theorem P1{n:Nat}{o:Ob}{v:Nat}(hv:v∈lU n o):n≤v:=by
 unfold lU at hv
 split at hv
 ·obtain⟨l2,hJ,JI⟩:=aQ.1 hv
  obtain⟨d,_,rfl⟩:=ao.1 hJ
  exact Rl JI
 ·obtain⟨l2,hJ,JI⟩:=aQ.1 hv
  obtain⟨d,_,rfl⟩:=ao.1 hJ
  exact Rl JI
 ·cases hv
theorem Ie{s:St}(hs:ju G N c w s a){n:Nat}(hn:n≤s.H.length)(live:List Nat) :
  ∃ c',ju G N c' w (cut n live s) a∧Step n c s.H w c' (cut n live s).H w∧n≤(cut n live s).H.length:=by
 unfold cut
 split
 ·exact⟨c,⟨hs.eX,xB hs.env live,hs.size,hs.marks⟩,Step.refl _ _ _ _,hn⟩
 ·dsimp only
  generalize hK:dedup _=K
  have kb:∀ v∈K,v∈(((forget live s.env).map fun p=>gG n p.2).flatten++((s.H.take n).map (lU n)).flatten++s.marks.filter (n≤·)).filter (· < s.H.length):=fun v hv=>by
   rw[← hK]at hv;exact Bg hv
  have kc:∀ (d:D) (v:Nat),v∈gG n d→n≤v:=by
   intro d v hv
   cases d<;>simp only[gG]at hv<;>first|(split at hv<;>simp at hv;omega)|(simp at hv)
  have I8:∀ v∈K,n≤v:=by
   intro v hv
   have:=(aK.1 (kb v hv)).1
   rcases List.mem_append.1 this with h|h
   ·rcases List.mem_append.1 h with h|h
    ·obtain⟨l,hl,gT⟩:=aQ.1 h
     obtain⟨p,_,rfl⟩:=ao.1 hl
     exact kc _ _ gT
    ·obtain⟨l,hl,gT⟩:=aQ.1 h
     obtain⟨o,_,rfl⟩:=ao.1 hl
     exact P1 gT
   ·simpa using (aK.1 h).2
  have jT:u0 (gq n K):=O8 I8 (by rw[← hK];exact Gy _)
  have fg:=KV (ks:=gq n K) hs.eX (n:=n) O7
  refine⟨c.eZ (gq n K) s.H,⟨yI hs.eX jT,M8 hs.eX (xB hs.env live),hs.size,?_⟩,fg,?_⟩
  ·refine PS hs.marks fun v hv L hL=>?_
   have ft:v<s.H.length:=by
    rcases bq v s.H.length with h|h
    ·exact h
    ·rw[hs.eX.out v 0 h]at hL;cases hL
   have:∃ i,fL (gq n K) v=some i:=by
    by_cases JJ:v<n
    ·refine⟨v,KH jT ?_⟩
     unfold gq
     rw[ag (by simpa using JJ)]
     simp[JJ]
    ·have Wm:v∈K:=by
      rw[← hK]
      refine zV (aK.2 ⟨bw _ (aK.2 ⟨hv,by simpa using eO.1 JJ⟩),by simpa using ft⟩)
     obtain⟨i,hi⟩:=aD.1 Wm
     refine⟨n+i,KH jT ?_⟩
     unfold gq
     rw[ak (by simp)]
     simp[hi]
   obtain⟨i,hi⟩:=this
   rw[hi]
   simp only[aV]
   rw[yU hi]
   exact hL
  ·rw[G'];simp[gq]
theorem NH{s:St}(hs:ju G N c w s a)(S:List Nat):∃ c',ju G N c' w (jx S s) a∧Step s.H.length c s.H w c' (jx S s).H w∧(jx S s).H.length=s.H.length:=by
 refine⟨c.eZ (jR s.H S) s.H,⟨yI hs.eX NG,M8 hs.eX hs.env,hs.size,?_⟩,KV hs.eX NF,IC⟩
 have:=PS (ks:=jR s.H S) (H:=s.H) (f:=id) hs.marks fun v _ L hL=>by
  have ft:v<s.H.length:=by
   rcases bq v s.H.length with h|h
   ·exact h
   ·rw[hs.eX.out v 0 h]at hL;cases hL
  have hk:=NF (S:=S) v ft
  simp only[ai]at hk
  obtain⟨p,hp,e⟩:=hk
  simp only[Ctx.eZ,id,hp,e]
  exact hL
 simpa[jx]using this
theorem acP{n:Nat}{d:D}{v:Nat}(hv:v∈yz n d):n≤v:=by
 unfold yz at hv
 split at hv
 ·split at hv
  ·simp at hv;omega
  ·simp at hv
 ·obtain⟨l,hl,gT⟩:=aQ.1 hv
  obtain⟨d,_,rfl⟩:=ao.1 hl
  split at gT
  ·split at gT
   ·simp at gT;omega
   ·simp at gT
  ·simp at gT
 ·simp at hv
theorem XL{H:U}(eX:fj G c H w){n:Nat}(hn:n≤H.length)(own:Nat){u:Value}{d:D}(hr:eV c w u d) :
  ∃ c',fj G c' (leave own n H d).2 w∧eV c' w u (leave own n H d).1∧Step n c H w c' (leave own n H d).2 w∧n≤(leave own n H d).2.length:=by
 unfold leave
 split
 ·exact⟨c,eX,hr,Step.refl _ _ _ _,hn⟩
 ·dsimp only
  generalize hK:dedup _=K
  have I8:∀ v∈K,n≤v:=by
   intro v hv
   rw[← hK]at hv
   have:=(aK.1 (Bg hv)).1
   rcases List.mem_append.1 this with h|h
   ·split at h
    ·simp at h
    ·exact acP h
    ·simpa using (aK.1 (aM h)).2
    ·simpa using (aK.1 h).2
   ·obtain⟨l,hl,gT⟩:=aQ.1 h
    obtain⟨o,_,rfl⟩:=ao.1 hl
    exact P1 gT
  have jT:u0 (gq n K):=O8 I8 (by rw[← hK];exact Gy _)
  exact⟨c.eZ (gq n K) H,yI eX jT,uN eX 40 hr,KV eX O7,by rw[G'];simp[gq]⟩
theorem Yp(args:List D)(k:Nat):(pL args).get k=(args[k]?).getD .any:=by
 have key:∀ (l:List D) (i k:Nat),Env.get ((l.zipIdx i).map fun p=>(p.2,p.1)) k=if k<i then .any else(l[k-i]?).getD .any:=by
  intro l
  induction l with
  | nil=>intro i k;simp[Env.get]
  | cons d l ih=>
   intro i k
   simp only[List.zipIdx_cons,List.map_cons,Env.rE]
   split
   ·rename_i e;subst e;simp
   ·rename_i e
    rw[ih (i+1) k]
    by_cases hk:k<i
    ·rw[if_pos (by omega),if_pos hk]
    ·rw[if_neg (by omega),if_neg hk]
     rw[show k-i=(k-(i+1))+1 by omega,cB]
 have:=key args 0 k
 simpa[pL]using this
theorem Te{vs:List Value}{args:List D}(hr:ig c w vs args)(n:Nat):jt c w (pL args).get { tmps:=vs.toArray++Array.replicate (n-vs.toArray.size) undef,defers:=[] }:=fun k=>by
 rw[Yp]
 have hl:=hr.length
 cases hk:args[k]? with
 | none=>exact .any _
 | some d=>
  have ft:k<vs.length:=by rw[hl];exact(ae.1 hk).1
  have hv:vs[k]? = some vs[k]:=by simp[ft]
  have:=hr.get k vs[k] d hv hk
  simp only[aV]
  have e:(vs.toArray++Array.replicate (n-vs.toArray.size) undef).getD k undef=vs[k]:=by
   rw[bR,b9 (by simpa using ft)]
   simp[ft]
  rw[e];exact this
theorem XY{H:U}(h:fj G c H w){t:TypeId}(ha:nf P t=some false){x d:D}{u:Value}(hr:eV c w u x)(hk:rX x H=some d) :
  ∃ v,(Instr.loadAt t u).run P w = .ok v w∧eV c w v d∧∃ b o,u = .pointer (some ⟨b,o,none⟩):=by
 unfold rX at hk
 split at hk
 ·rename_i v g o
  split at hk
  ·rename_i t' cs gf
   have hv:=qt gf
   obtain⟨b,p,rfl,hc⟩:=ED h hv hr
   obtain⟨u,hu,_,h2⟩:=G6 ha hc (d:=d) (by simpa using hk)
   exact⟨u,hu,h2,b,p,rfl⟩
  ·cases hk
 ·rename_i cs
  obtain⟨b,p,rfl,_,hc⟩:=vo hr
  obtain⟨u,hu,_,h2⟩:=G6 ha hc hk
  exact⟨u,hu,h2,b,p,rfl⟩
 ·cases hk
theorem XZ{H:U}(h:fj G c H w){t:TypeId}{n:Nat}(ha:nf P t=some true)(hs:jg P t=some n){x d:D}{u:Value}(hr:eV c w u x)(hk:rY n x H=some d) :
  ∃ v,(Instr.loadAt t u).run P w = .ok v w∧eV c w v d∧∃ b o,u = .pointer (some ⟨b,o,none⟩):=by
 unfold rY at hk
 split at hk
 ·rename_i v g o
  split at hk
  ·rename_i t' cs gf
   split at hk
   ·rename_i hle
    cases hk
    have hv:=qt gf
    obtain⟨b,p,rfl,hc⟩:=ED h hv hr
    obtain⟨u,hu,h2⟩:=G7 (n:=n) ha hs hc (by simp;omega)
    exact⟨u,hu,h2,b,p,rfl⟩
   ·cases hk
  ·cases hk
 ·rename_i cs
  split at hk
  ·rename_i hle
   cases hk
   obtain⟨b,p,rfl,_,hc⟩:=vo hr
   obtain⟨u,hu,h2⟩:=G7 (n:=n) ha hs hc hle
   exact⟨u,hu,h2,b,p,rfl⟩
  ·cases hk
 ·cases hk
def wM(tmps:Array Value):ResultVar→Sem Value
 | .tmp t=>pure (tmps.getD t undef)
 | .cell a t=>do loadVar t (← asAddr (tmps.getD a undef))
theorem adh{s:St}(hs:ju G N c w s a){x:ResultVar}{X:rp}(hx:cR P x=some X){d:D}(hd:yG s X=some d) :
  ∃ v,(wM a.tmps x).run P w = .ok v w∧eV c w v d:=by
 cases x with
 | tmp t=>
  cases hx
  simp only[yG,av]at hd
  subst hd
  exact⟨_,rfl,hs.env t⟩
 | cell p t=>
  have hp:=hs.env p
  generalize hu:a.tmps.getD p undef=u at hp
  have key:∀ v,(Instr.loadAt t u).run P w = .ok v w→(∃ b o,u = .pointer (some ⟨b,o,none⟩))→(wM a.tmps (.cell p t)).run P w = .ok v w:=by
   rintro v h ⟨b,o,rfl⟩
   simpa[Instr.loadAt,Instr.sureAddr,asAddr,wM,hu]using h
  simp only[cR]at hx
  split at hx
  ·rename_i n IV gy
   cases hx
   obtain⟨v,hv,hr,Jv⟩:=XY hs.eX IV hp hd
   exact⟨v,key v hv Jv,hr⟩
  ·rename_i n IV gy
   cases hx
   obtain⟨v,hv,hr,Jv⟩:=XZ hs.eX IV gy hp hd
   exact⟨v,key v hv Jv,hr⟩
  ·cases hx
theorem KG{s:St}(hs:ju G N c w s a):∀ (l:List ResultVar) {xs:List rp} {ds:List D},vi P l=some xs→qq s xs=some ds →
  ∃ vs:List Value,(l.mapM (wM a.tmps)).run P w = .ok vs w∧ig c w vs ds
 | [],xs,ds,h1,h2=>by
  cases h1;cases h2
  exact⟨[],rfl,.nil⟩
 | x::l,xs,ds,h1,h2=>by
  simp only[vi]at h1
  split at h1
  ·rename_i X Ld hX JO
   cases h1
   simp only[qq]at h2
   split at h2
   ·rename_i d ds' hd lh
    cases h2
    obtain⟨v,hv,hr⟩:=adh hs hX hd
    obtain⟨vs,jb,s6⟩:=KG hs l JO lh
    exact⟨v::vs,by simp[dY,hv,jb],.cons hr s6⟩
   ·cases h2
  ·cases h1
theorem adj{s:St}(hs:ju G N c w s a){func:Func}{fn:eW}(hx:vi P func.results.toList=some fn.results){d:D}(hd:AL.results fn s=some d) :
  ∃ v,(Go.results func a.tmps).run P w = .ok v w∧eV c w v d:=by
 have e:∀ vs:List Value,(func.results.toList.mapM (wM a.tmps)).run P w = .ok vs w→(Go.results func a.tmps).run P w = .ok (if h:vs.toArray.size=1 then vs.toArray[0]else .tuple vs.toArray) w:=by
  intro vs jb
  have h1:(func.results.mapM (wM a.tmps)).run P w = .ok vs.toArray w:=by
   rw[ew,Sem.run_map,jb];rfl
  have h2:Go.results func a.tmps=(do let vs ← func.results.mapM (wM a.tmps);pure (if h:vs.size=1 then vs[0]else .tuple vs)):=rfl
  rw[h2,Sem.run_bind,h1]
  rfl
 unfold AL.results at hd
 split at hd
 ·rename_i d' gu
  cases hd
  obtain⟨vs,jb,hr⟩:=KG hs _ hx gu
  cases hr with
  | cons h t=>
   cases t
   exact⟨_,e _ jb,h⟩
 ·rename_i ds gd gu
  cases hd
  obtain⟨vs,jb,hr⟩:=KG hs _ hx gu
  refine⟨_,e _ jb,?_⟩
  have hl:vs.toArray.size≠1:=by
   intro h1
   have h2:ds.length=1:=by rw[← hr.length];simpa using h1
   match ds,h2 with
   | [d],_=>exact gd d rfl
  rw[dif_neg hl]
  exact .tup vs ds hr.length hr.get
 ·cases hd
end
end Go.AL
namespace Go.AL
open Go
section
variable{P:Program}{G:GT}{c:Ctx}{H:U}{w:World}{env:fO}{a:Act}{N:Nat}
theorem MZ(h:fj G c H w){v:Nat}{ob:Ob}(hv:H[v]? = some ob)(ha:ob.alive=true){L:Loc}(e7:c.ι v ob.gen=some L)(gw:L.iv=false)
  {w':World} (oi:w'.os=w.os∧w.drawn≤w'.drawn) (JE:w'.tape=w.tape) (ln:w'.output=w.output) (AR:w'.heap.size=w.heap.size) (jT:∀ b,b≠L.b→w'.heap[b]? = w.heap[b]?) :
  fj G c (H.set v .dead) w'∧Step H.length c H w c (H.set v .dead) w':=by
 have ft:=(ae.1 hv).1
 have AB:jN c H v L:=⟨ob,hv,ha,e7⟩
 have uu:kj c H L.b:=⟨v,L,AB,gw,rfl⟩
 have hL:∀ u l,jN c (H.set v .dead) u l→u≠v∧jN c H u l:=by
  rintro u l ⟨o,ho,fZ,hi⟩
  rw[oQ ft]at ho
  split at ho
  ·cases ho;cases fZ
  ·rename_i gd;exact⟨gd,o,ho,fZ,hi⟩
 have o6:∀ b,kj c (H.set v .dead) b→kj c H b:=fun b ⟨u,l,hl,r⟩=>⟨u,l,(hL u l hl).2,r⟩
 have hs:Step H.length c H w c (H.set v .dead) w':=
  ⟨oi,JE,ln,by omega,rfl,fun _ h=>h,fun _ h=>.inl h,fun b _ hn=>jT b (fun e=>hn (e▸uu)),fun _ _ _ _ h=>h,fun b hb=>.inr (o6 b hb)⟩
 have hr:∀ u d,eV c w u d→eV c w' u d:=fun u d hd=>hd.nX h.toHeapOK hs
 refine⟨{
  inj:=fun u u' l l' h1 h2=>h.inj u u' l l' (hL _ _ h1).2 (hL _ _ h2).2
  lt:=fun b hb=>by rw[AR];exact h.lt b (o6 b hb)
  nF:=fun b hb=>h.nF b (o6 b hb)
  iZ:=fun b hb=>by rw[AR];exact h.iZ b hb
  out:=fun u k hu=>h.out u k (by simpa using hu)
  km:=fun u o k ho hk=>by
   rw[oQ ft]at ho
   split at ho
   ·cases ho
    rcases hk with hk|⟨hk,_⟩<;>cases hk
   ·exact h.km u o k ho hk
  ob:=fun u o ho=>by
   rw[oQ ft]at ho
   split at ho
   ·cases ho;simp[fX]
   ·rename_i gd
    refine fX.mZ (c:=c) (c':=c) rfl hr (fun l hl kd hd=>jT _ fun e=>gd (h.inj u v l L ⟨o,ho,hd,hl⟩ AB kd gw e)) (h.ob u o ho)
  gl:=fun g cs hg=>let ⟨a,b⟩:=h.gl g cs hg;⟨a,hr _ _ b⟩
  rt:=h.rt },hs⟩
theorem XM{fn:Func}{tmps:Array Value}{R:Ending→World→Prop}:∀ {ms:List Nat} {ds:List Deferred} {H H1:U} {w:World},ko c ms ds→fj G c H w→kill ms H=some H1 →
  (∀ w1,fj G c H1 w1→Step H.length c H w c H1 w1→H1.length=H.length→LeavesIn (FW none) 0 P fn tmps R [] .returning w1)→LeavesInM (FW none) 0 P fn tmps R ds .returning w:=by
 intro ms
 induction ms with
 | nil=>
  intro ds H H1 w hm eX hk k
  cases hm
  cases hk
  exact k w eX (Step.refl _ _ _ _) rfl
 | cons v ms ih=>
  intro ds H H1 w hm eX hk k
  cases hm with
  | @cons _ _ ds L h1 h2 hm=>
   simp only[kill]at hk
   split at hk
   ·rename_i hv
    have gi:=eX.ob v _ hv
    simp only[Ob.gen]at gi
    rw[h1]at gi
    simp only[fX]at gi
    have hblk:=gi.resolve_left (by simp[h2])
    have ft:L.b<w.heap.size:=(aO.1 hblk).1
    obtain⟨k1,k2⟩:=MZ (w':={ w with heap:=w.heap.setIfInBounds L.b (.deferred none) }) eX hv rfl h1 h2 ⟨rfl,Nat.le_refl _⟩ rfl rfl (by simp) (fun b hb=>by rw[bG (dM hb)])
    refine⟨by simp,.inl ⟨L.b,{ w with heap:=w.heap.setIfInBounds L.b (.deferred none) },rfl,?_,?_⟩⟩
    ·simp[Instr.takeDeferred,getObj,setObj,Sem.run,hblk]
    ·refine ih hm k1 hk fun w1 q1 q2 q3=>k w1 q1 (k2.trans q2 (by simp)) (by rw[q3];simp)
   ·cases hk
theorem adD(eX:fj G c H w)(he:jt c w env a){o:Oper}{io:gC}(hc:ly P G o=some io){v:Nat}{args:List D}(iz:yieldOf env io=some (v,args)){rf:Nat}{e0:Env}(hv:H[v]? = some (.gg rf e0 .ready)) :
  ∃ (L:Loc) (r:Loop) (vs:List Value),c.ι v 0=some L∧L.iv=false∧w.heap[L.b]? = some (.loop r)∧ig c w vs args ∧
   (vs.length=r.params.size→(execOp a.eval o).run P w = .ok (.round L.b r.fn ((r.params.zip vs.toArray).foldl (fun tmps (t,a)=>tmps.setIfInBounds t a) r.tmps) r.assign r.body) w):=by
 unfold yieldOf at iz
 split at iz
 ·rename_i fx RV
  split at iz
  ·rename_i v' nL
   cases iz
   obtain⟨cl,ho⟩:=MQ hc rfl
   have Fw:=hc
   unfold ly at hc
   simp only[ho,ay,af]at hc
   obtain⟨xs,pD,hc⟩:=hc
   have gX:=vj eX he cl.args.toList pD
   have kR:∃ x X,cl.callee = .value x∧cX G x=some X∧X=fx∧xs=RV:=by
    split at hc
    ·split at hc
     ·exfalso
      simp only[aH,av]at hc
      split at hc<;>cases hc
     ·cases hc
    ·rename_i x gd vN
     simp only[af,aH,av]at hc
     obtain⟨X,hX,hh⟩:=hc
     cases hh
     exact⟨x,fx,vN,hX,rfl,rfl⟩
    ·split at hc
     ·simp only[af]at hc
      obtain⟨td,_,hc⟩:=hc
      split at hc
      ·simp only[af]at hc
       obtain⟨i,_,z,_,ud,_,hc⟩:=hc
       split at hc
       ·split at hc
        ·cases hc
        ·cases hc
       ·cases hc
      ·cases hc
     ·cases hc
    ·split at hc
     ·simp only[af]at hc
      obtain⟨td,_,hc⟩:=hc
      split at hc
      ·simp only[af]at hc
       obtain⟨ud,_,hc⟩:=hc
       split at hc
       ·simp only[af]at hc
        obtain⟨n,_,hc⟩:=hc
        split at hc
        ·cases hc
        ·cases hc
       ·cases hc
      ·cases hc
     ·cases hc
    ·split at hc
     ·split at hc
      ·cases hc
      ·cases hc
      ·cases hc
      ·cases hc
     ·cases hc
    ·cases hc
    ·cases hc
    ·cases hc
   obtain⟨x,X,vN,hX,rfl,rfl⟩:=kR
   have hr:=gJ eX he hX
   rw[nL]at hr
   generalize hu:a.eval x=u at hr
   cases hr with
   | gP _ L e7 gw=>
    have gi:=eX.ob v _ hv
    simp only[Ob.gen]at gi
    rw[e7]at gi
    simp only[fX]at gi
    obtain⟨_,r,hblk,_⟩:=gi
    refine⟨L,r,_,e7,gw,hblk,gX,fun gy=>?_⟩
    have e:cl.args.map a.eval=(cl.args.toList.map a.eval).toArray:=by cases cl.args;simp
    have Wb:cl.args.size=r.params.size:=by simpa using gy
    simp only[execOp,ho,resolve,vN,hu,Deferred.ofValue,Sem.run_bind,Sem.run_pure,Result.andThen_ok,invoke,Instr.yield,Instr.getLoop,getObj,Sem.run,hblk]
    simp[Sem.run,hblk,Wb,e]
  ·cases iz
 ·cases iz
theorem M7:∀ (ps:List Tmp) (vs:List Value) (ds:List D) (tmps:Array Value) (e0:Env),ig c w vs ds→(∀ p∈ps,p<tmps.size)→(∀ k,eV c w (tmps.getD k undef) (e0.get k)) →
  ∀ k,eV c w (((ps.zip vs).foldl (fun(tmps:Array Value) (p:Tmp×Value)=>tmps.setIfInBounds p.1 p.2) tmps).getD k undef) ((pS ps ds e0).get k)
 | [],vs,ds,tmps,e0,_,_,h,k=>by simpa[pS]using h k
 | p::ps,[],ds,tmps,e0,hr,_,h,k=>by cases hr;simpa[pS]using h k
 | p::ps,v::vs,ds,tmps,e0,hr,hp,h,k=>by
  cases hr with
  | @cons _ d _ ds hd hr=>
   simp only[List.zip_cons_cons,cH,pS]
   refine M7 ps vs ds (tmps.setIfInBounds p v) ((p,d)::e0) hr (fun q hq=>by simpa using hp q (by simp[hq])) (fun j=>?_) k
   have ft:p<tmps.size:=hp p (by simp)
   simp only[Env.rE]
   split
   ·rename_i e;subst e
    have:(tmps.setIfInBounds p v).getD p undef=v:=by simp[Array.getD,ft]
    rw[this];exact hd
   ·rename_i e
    have:(tmps.setIfInBounds p v).getD j undef=tmps.getD j undef:=by
     simp only[bR,bG e]
    rw[this];exact h j
theorem NA:∀ (l:List (Tmp×Value)) (tmps:Array Value),(l.foldl (fun(tmps:Array Value) (p:Tmp×Value)=>tmps.setIfInBounds p.1 p.2) tmps).size=tmps.size
 | [],_=>rfl
 | p::l,tmps=>by simp only[cH];rw[NA l];simp
def sn(G:GT)(N n:Nat)(fG:Bool)(c:Ctx)(H:U)(w:World)(R:Out→Prop)(Q:Exit→Act→World→Prop):Prop:=
 ∀ (o:Out) (c':Ctx) (w':World) (a':Act),R o→o.st.fG=fG→n≤o.st.H.length→ju G N c' w' o.st a'→Step n c H w c' o.st.H w'→Q o.ex a' w'
theorem GO{s:St}(hs:ju G N c w s a){v rf:Nat}{e0:Env}{st:oV}(hv:s.H[v]? = some (.gg rf e0 st)){L:Loc}(e7:c.ι v 0=some L) :
  ∃ r:Loop,w.heap[L.b]? = some (.loop r)∧L.iv=false∧(∀ k,eV c w (r.tmps.getD k undef) (e0.get k))∧(∃ M,G.rt rf=some (M,r.params,r.assign,r.body)∧M≤r.tmps.size)∧st.is r:=by
 have gi:=hs.eX.ob v _ hv
 simp only[Ob.gen]at gi
 rw[e7]at gi
 simp only[fX]at gi
 obtain⟨h1,r,h2,h3,h4,h5⟩:=gi
 rw[hs.eX.rt]at h4
 exact⟨r,h2,h1,h3,h4,h5⟩
theorem Qs{s:St}(hs:ju G N c w s a){v rf:Nat}{e0:Env}{st st':oV}(hv:s.H[v]? = some (.gg rf e0 st)){L:Loc}(e7:c.ι v 0=some L){r:Loop}(hr:w.heap[L.b]? = some (.loop r))
  (r':Loop) (h1:r'.tmps=r.tmps) (h2:r'.params=r.params) (h3:r'.assign=r.assign) (h4:r'.body=r.body) (h5:st'.is r') :
  ju G N c { w with heap:=w.heap.setIfInBounds L.b (.loop r') } { s with H:=s.H.set v (.gg rf e0 st') } a∧Step s.H.length c s.H w c (s.H.set v (.gg rf e0 st')) { w with heap:=w.heap.setIfInBounds L.b (.loop r') } ∧
   (setObj L.b (.loop r')).run P w = .ok () { w with heap:=w.heap.setIfInBounds L.b (.loop r') }:=by
 obtain⟨r0,a1,a2,a3,⟨M,a4,a6⟩,a5⟩:=GO hs hv e7
 rw[hr]at a1
 cases a1
 obtain⟨k1,k2⟩:=B8 hs.eX hv rfl rfl (ob':=.gg rf e0 st') rfl e7 a2 (.loop r') (fun w' qQ qO=>by
  simp only[fX]
  refine⟨a2,r',qQ,fun k=>by rw[h1];exact qO _ _ (a3 k),⟨M,?_,by rw[h1];exact a6⟩,h5⟩
  rw[hs.eX.rt,a4,h2,h3,h4])
 exact⟨⟨k1,fun k=>(hs.env k).nX hs.eX.toHeapOK k2,hs.size,hs.marks⟩,k2,by simp[setObj,Sem.run,hr]⟩
theorem WX(ro:Option Nat)(l:Nat):(FW ro).inRound l=FW (some l):=rfl
theorem aeH{s:St}{ro:Option Nat}{n:Nat}{o:Oper}{io:gC}{next:Act→World→Prop}{Q:Exit→Act→World→Prop}(hs:ju G N c w s a)(hc:ly P G o=some io)
  (hd:pA N o.dst=true) {v rf:Nat} {args:List D} {e0:Env} (iz:yieldOf s.env.get io=some (v,args)) (hv:s.H[v]? = some (.gg rf e0 .ready)) {M:Nat} {ps:Array Tmp} {ac bc:Code} (qI:G.rt rf=some (M,ps,ac,bc))
  (hlen:args.length=ps.size) (FQ:∀ p∈ps.toList,p<M) {Ra Rb:Out→Prop}
  (hA:∀ (ro:Option Nat) (n:Nat) (Q:Exit→Act→World→Prop) (c:Ctx) (w:World) (a:Act),ju G M c w { env:=pS ps.toList args e0,H:=s.H,fG:=true } a →
   sn G M s.H.length true c s.H w Ra Q→ac.wpIn (FW ro) n P Q a w)
  (hn:∀ o,Ra o→o.stop=false∧∃ jw,o.st.H[v]? = some (.gg rf jw .ready))
  (hB:∀ s1 jw,Ra (.norm s1)→s1.fG=true→s1.H[v]? = some (.gg rf jw .ready)→∀ (ro:Option Nat) (n:Nat) (Q:Exit→Act→World→Prop) (c:Ctx) (w:World) (a:Act),ju G M c w { s1 with H:=s1.H.set v (.gg rf jw .busy) } a →
   sn G M s1.H.length true c (s1.H.set v (.gg rf jw .busy)) w Rb Q→bc.wpIn (FW ro) n P Q a w)
  (hm:∀ o,Rb o→∃ jo,o.st.H[v]? = some (.gg rf jo .busy))
  (k:∀ (q:Out) (jo:Env) (c':Ctx) (w':World) (a':Act),Rb q→q.st.H[v]? = some (.gg rf jo .busy)→s.H.length≤q.st.H.length→ju G N c' w' { s with env:=put s.env o.dst (.b !q.stop),H:=q.st.H.set v (.gg rf jo q.uR) } a' →
   Step s.H.length c s.H w c' (q.st.H.set v (.gg rf jo q.uR)) w'→next a' w'):o.wpIn (FW ro) n P a w next Q:=by
 obtain⟨L,r,vs,e7,gw,hblk,gX,gS⟩:=adD hs.eX hs.env hc iz hv
 obtain⟨r0,a1,_,a3,⟨M',a4,a6⟩,a5⟩:=GO hs hv e7
 rw[hblk]at a1
 cases a1
 rw[qI]at a4
 cases a4
 have gT:v<s.H.length:=(ae.1 hv).1
 have gy:vs.length=r.params.size:=by rw[gX.length];exact hlen
 refine⟨fun _ _=>trivial,?_⟩
 rw[Oper.semAt_plain (FW ro) a.eval o (wG hc),gS gy]
 refine⟨fun h=>by simp[Fence.wide]at h,roundIn_of_wpIn (F:=FW ro) trivial ?_⟩
 rw[WX]
 have N':(r.params.zip vs.toArray).foldl (fun tmps (t,a)=>tmps.setIfInBounds t a) r.tmps=(r.params.toList.zip vs).foldl (fun(tmps:Array Value) (p:Tmp×Value)=>tmps.setIfInBounds p.1 p.2) r.tmps:=by
  rw[← Array.foldl_toList];simp
 refine hA (some L.b) _ _ c w _ ⟨hs.eX,fun j=>?_,?_,.nil⟩ ?_
 ·show eV c w (Array.getD ((r.params.zip vs.toArray).foldl (fun tmps (t,a)=>tmps.setIfInBounds t a) r.tmps) j undef) _
  rw[N']
  exact M7 _ _ _ _ _ gX (fun p hp=>aL (FQ p hp) a6) a3 j
 ·show M≤Array.size ((r.params.zip vs.toArray).foldl (fun tmps (t,a)=>tmps.setIfInBounds t a) r.tmps)
  rw[N',NA];exact a6
 ·intro o1 c1 w1 a1 uh V3 Az kH uB
  obtain⟨OM,jw,ke⟩:=hn o1 uh
  cases o1 with
  | exit=>cases OM
  | ret=>cases OM
  | norm s1=>
   have ta:c1.ι v 0=some L:=uB.old v 0 L gT e7
   obtain⟨r1,b1,b2,b3,_,b5⟩:=GO kH ke ta
   have RZ:r1.state = .ready∧r1.pending=none:=b5
   obtain⟨k1,k2,k3⟩:=Qs (P:=P) (st':=.busy) kH ke ta b1 { r1 with state:=.busy } rfl rfl rfl rfl rfl
   refine⟨{ w1 with heap:=w1.heap.setIfInBounds L.b (.loop { r1 with state:=.busy }) },?_,?_⟩
   ·have hg:(Instr.getLoop L.b).run P w1 = .ok r1 w1:=by simp[Instr.getLoop,getObj,Sem.run,b1]
    simp only[Instr.beginRound,Sem.run_bind,hg,Result.andThen_ok,k3,RZ.1]
    simp
   ·refine hB s1 jw uh V3 ke (some L.b) _ _ c1 _ a1 k1 ?_
    intro o2 c2 w3 a3' ui ajJ rN FX yd
    obtain⟨jo,nA⟩:=hm o2 ui
    have Wp:v<s1.H.length:=aL gT Az
    have uD:c2.ι v 0=some L:=yd.old v 0 L Wp ta
    obtain⟨r2,d1,d2,d3,_,d5⟩:=GO FX nA uD
    have key:∀ (j:Option Code),o2.uR.is { r2 with state:=if j.isNone then .ready else .done,pending:=j }→j.isNone = !o2.stop→∃ v w',(Instr.endRound L.b j).run P w3 = .ok v w'∧next (a.put o.dst v) w':=by
     intro j hj Vq
     obtain⟨e1,e2,e3⟩:=Qs (P:=P) (st':=o2.uR) FX nA uD d1 { r2 with state:=if j.isNone then .ready else .done,pending:=j } rfl rfl rfl rfl hj
     have hg:(Instr.getLoop L.b).run P w3 = .ok r2 w3:=by simp[Instr.getLoop,getObj,Sem.run,d1]
     refine⟨.bool j.isNone,{ w3 with heap:=w3.heap.setIfInBounds L.b (.loop { r2 with state:=if j.isNone then .ready else .done,pending:=j }) },?_,?_⟩
     ·simp only[Instr.endRound,Sem.run_bind,hg,Result.andThen_ok,e3]
      rfl
     ·have UO:eV c2 { w3 with heap:=w3.heap.setIfInBounds L.b (.loop { r2 with state:=if j.isNone then .ready else .done,pending:=j }) } (.bool j.isNone) (.b !o2.stop):=by
       have:D.b (!o2.stop)=D.val (.bool j.isNone):=by rw[Vq]
       rw[this];exact .val _
      have fg:Step s.H.length c s.H w c2 (o2.st.H.set v (.gg rf jo o2.uR)) { w3 with heap:=w3.heap.setIfInBounds L.b (.loop { r2 with state:=if j.isNone then .ready else .done,pending:=j }) }:=
       (uB.trans (k2.trans (yd.trans e2 rN) (Nat.le_refl _)) Az)
      refine k o2 jo c2 _ _ ui nA (Nat.le_trans Az rN) (hs.next e1.eX fg hd UO) fg
    cases o2 with
    | norm s2=>exact key none ⟨rfl,rfl⟩ rfl
    | ret s2=>exact key (some .ret) ⟨rfl,rfl⟩ rfl
    | exit id s2=>exact key (some (.exit id)) ⟨rfl,rfl⟩ rfl
theorem Td{s:St}(hs:ju G N c w s a){rf:Nat}{ps:Array Tmp}{ac bc:Code}(qI:G.rt rf=some (N,ps,ac,bc))(live:List Nat)(fn:FuncId) :
  ∃ (c2:Ctx) (w2:World) (L1 L2:Loc),(Instr.enterLoop fn a.tmps ps ac bc none).run P w = .ok (L2.b,[{ target:=.collected L1.b,args:=#[] }]) w2∧L1.iv=false∧L2.iv=false ∧
   c2.ι s.H.length 0=some L1∧c2.ι (s.H.length+1) 0=some L2∧fj G c2 (s.H ++ [.jv,.gg rf (forget live s.env) .ready]) w2∧Step s.H.length c s.H w c2 (s.H ++ [.jv,.gg rf (forget live s.env) .ready]) w2:=by
 obtain⟨wg,_,uB⟩:=Gv hs.eX (kZ.last s.H) (.deferred (some [])) .jv rfl rfl (fun _ hb=>by simp only[fX];exact .inr hb)
 simp only[Al.last]at wg uB
 generalize Ak:c.set s.H.length 0 ⟨w.heap.size,0,0,false⟩=c1 at wg uB
 have ta:c1.ι s.H.length 0=some ⟨w.heap.size,0,0,false⟩:=by rw[← Ak];exact Ctx.pT _ _ _ _
 generalize F6:w.alloc (.deferred (some []))=w1 at wg uB
 have ON:w1.heap.size=w.heap.size+1:=by rw[← F6];simp
 have Az:(s.H ++ [Ob.jv]).length=s.H.length+1:=by simp
 obtain⟨lk,_,pd⟩:=Gv wg (kZ.last (s.H ++ [.jv])) (.loop { state:=.ready,pending:=none,fn:=fn,tmps:=a.tmps,params:=ps,assign:=ac,body:=bc,defers:=w.heap.size }) (.gg rf (forget live s.env) .ready) rfl rfl (fun qO hb=>by
  simp only[fX]
  refine⟨trivial,_,hb,fun j=>qO _ _ ((xB hs.env live j).nX hs.eX.toHeapOK uB),⟨N,?_,hs.size⟩,rfl,rfl⟩
  rw[← qI,← wg.rt];rfl)
 simp only[Al.last,Az,bt,dO]at lk pd
 refine⟨_,_,⟨w.heap.size,0,0,false⟩,⟨w1.heap.size,0,0,false⟩,?_,rfl,rfl,?_,Ctx.pT _ _ _ _,lk,uB.trans pd (by omega)⟩
 ·subst F6
  simp[Instr.enterLoop]
 ·rw[Ctx.q5 _ _ (by omega)];exact ta
theorem aeF{s:St}{n:Nat}{Q:Exit→Act→World→Prop}(hs:ju G N c w s a){g:Operand}{X:X}(hx:cX G g=some X){f:FuncId}{first cap:List D}(nL:ev s.env.get X = .fn (.func f) first cap)
  (jS:o5 P f=true) {rf:Nat} {ps:Array Tmp} {ac bc:Code} (qI:G.rt rf=some (N,ps,ac,bc)) {live:List Nat} {R1:D→U→Prop} {R:Out→Prop}
  (ix:re P G f (first ++ [.gP (s.H.length+1)]++cap) (s.H ++ [.jv,.gg rf (forget live s.env) .ready]) R1)
  (k:∀ d H',R1 d H'→∃ env st o,H'[s.H.length+1]? = some (.gg rf env st)∧wL { s with H:=H'.set (s.H.length+1) .dead,marks:=s.H.length::s.marks } st=some o∧R o)
  (hk:sn G N s.H.length s.fG c s.H w R Q):(Code.rangeFunc g ps ac bc).wpIn (FW none) n P Q a w:=by
 refine wpIn_rangeFunc fun fn _=>?_
 obtain⟨c2,w2,L1,L2,U6,ke,nA,ta,uD,lk,OJ⟩:=Td (P:=P) hs qI live fn
 have OC:∀ u d,eV c w u d→eV c2 w2 u d:=fun u d hd=>hd.nX hs.eX.toHeapOK OJ
 have hr:=gJ hs.eX hs.env hx
 rw[nL]at hr
 generalize hu:a.eval g=u at hr
 cases hr with
 | fn _ fs cs _ _ q1 q2 q3 q4=>
  have WI:eV c2 w2 (.func (.yield L2.b) #[] #[]) (.gP (s.H.length+1)):=.gP _ L2 uD nA
  have gX:ig c2 w2 (fs ++ [Value.func (.yield L2.b) #[] #[]]++cs) (first ++ [.gP (s.H.length+1)]++cap):=
   ((ig.Bo q1 fun i v d h1 h2=>OC _ _ (q3 i v d h1 h2)).append (.cons WI .nil)).append (ig.Bo q2 fun i v d h1 h2=>OC _ _ (q4 i v d h1 h2))
  have x8:(resolve a.eval (rangeCall g L2.b) 0).run P w2 = .ok { target:=.fn (.func f) cs.toArray,args:=fs.toArray ++ #[Value.func (.yield L2.b) #[] #[]] } w2:=by
   simp[resolve,hu,Deferred.ofValue]
   rfl
  have hinv:(invoke (.fn (.func f) cs.toArray) (fs.toArray ++ #[Value.func (.yield L2.b) #[] #[]])).run P w2 = .ok (.enter f (fs ++ [Value.func (.yield L2.b) #[] #[]]++cs).toArray) w2:=by
   have h2:=G5 (P:=P) jS (fs ++ [Value.func (.yield L2.b) #[] #[]]++cs).toArray w2
   simpa[invoke]using h2
  have Fw:=ix c2 w2 _ lk gX
  have kR:CallsIn (FW none) (n-1) P f (fs ++ [Value.func (.yield L2.b) #[] #[]]++cs).toArray w2 (rangePost (FW none) n P L2.b Q { a with defers:=[{ target:=.collected L1.b,args:=#[] }]++a.defers }):=by
   refine zH.2 (Fw.mono ?_)
   rintro e w3 ⟨v,c3,d,H3,rfl,hR,hlen,Oy,_,yd⟩
   obtain⟨env,st,q,lZ,ln,IQ⟩:=k d H3 hR
   have Ft:(s.H ++ [Ob.jv,Ob.gg rf (forget live s.env) .ready]).length=s.H.length+2:=by simp
   have ta:c3.ι s.H.length 0=some L1:=yd.old _ 0 L1 (by rw[Ft];omega) ta
   have uD:c3.ι (s.H.length+1) 0=some L2:=yd.old _ 0 L2 (by rw[Ft];omega) uD
   have gi:=Oy.ob _ _ lZ
   simp only[Ob.gen]at gi
   rw[uD]at gi
   simp only[fX]at gi
   obtain⟨_,r3,IW,_,_,xW⟩:=gi
   have ajH:L2.b<w3.heap.size:=(aO.1 IW).1
   obtain⟨m1,m2⟩:=MZ (w':={ w3 with heap:=w3.heap.setIfInBounds L2.b (.loop { r3 with state:=.exhausted }) }) Oy lZ rfl uD nA ⟨rfl,Nat.le_refl _⟩ rfl rfl (by simp) (fun b hb=>by rw[bG (dM hb)])
   have xS:Step s.H.length c s.H w c3 (H3.set (s.H.length+1) .dead) { w3 with heap:=w3.heap.setIfInBounds L2.b (.loop { r3 with state:=.exhausted }) }:=
    OJ.trans (yd.trans m2 hlen) (by rw[Ft];omega)
   have F0:ju G N c3 { w3 with heap:=w3.heap.setIfInBounds L2.b (.loop { r3 with state:=.exhausted }) } { s with H:=H3.set (s.H.length+1) .dead,marks:=s.H.length::s.marks } { a with defers:=[{ target:=.collected L1.b,args:=#[] }]++a.defers }:=by
    refine⟨m1,fun j=>(hs.env j).nX hs.eX.toHeapOK xS,hs.size,.cons L1 ta ke (hs.marks.mono fun v L h=>xS.old v 0 L ?_ h)⟩
    rcases bq v s.H.length with h'|h'
    ·exact h'
    ·rw[hs.eX.out v 0 h']at h;cases h
   have Ou:r3.state≠.busy:=by
    cases st with
    | busy=>cases ln
    | ready=>rw[xW.1];decide
    | vr=>rw[xW.1];decide
    | tV=>rw[xW.1];decide
   have N6:(Instr.endLoop L2.b).run P w3 = .ok r3.pending { w3 with heap:=w3.heap.setIfInBounds L2.b (.loop { r3 with state:=.exhausted }) }:=by
    have hg:(Instr.getLoop L2.b).run P w3 = .ok r3 w3:=by
     have:w3.heap[L2.b]? = some (.loop r3):=IW
     simp[Instr.getLoop,getObj,Sem.run,this]
    have OG:(setObj L2.b (.loop { r3 with state:=.exhausted })).run P w3 = .ok () { w3 with heap:=w3.heap.setIfInBounds L2.b (.loop { r3 with state:=.exhausted }) }:=by
     have:w3.heap[L2.b]? = some (.loop r3):=IW
     simp[setObj,Sem.run,this]
    have UQ:(r3.state == .busy)=false:=by
     generalize r3.state=x at Ou
     cases x<;>first|rfl|exact absurd rfl Ou
    simp only[Instr.endLoop,Sem.run_bind,hg,Result.andThen_ok,UQ,OG]
    simp[OG]
   generalize ({ w3 with heap:=w3.heap.setIfInBounds L2.b (.loop { r3 with state:=.exhausted }) }:World)=W at F0 xS N6
   refine⟨r3.pending,W,N6,?_⟩
   have Jh:s.H.length≤(H3.set (s.H.length+1) .dead).length:=by
    rw[Ft]at hlen
    simp;omega
   cases st with
   | busy=>cases ln
   | ready=>
    cases ln
    rw[xW.2]
    exact hk _ c3 _ _ IQ rfl Jh F0 xS
   | vr=>
    cases ln
    rw[xW.2]
    exact wpIn_ret (hk _ c3 _ _ IQ rfl Jh F0 xS)
   | tV id=>
    cases ln
    rw[xW.2]
    exact wpIn_exit (hk _ c3 _ _ IQ rfl Jh F0 xS)
  exact⟨L2.b,_,w2,_,w2,f,_,w2,U6,x8,fun _ _=>trivial,hinv,fun h=>by simp[Fence.wide]at h,kR⟩
