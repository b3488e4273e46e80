/- Part 5 of the proof of skewer.skewerlaw15.TableZero. -/
import Derived.Test.YtnaefnajkaohgaaGreatDoorF04
import Derived.Shelf.SlSortCmp.NoneTotal
import Derived.Test.YtnaefnajkaohgaaGreatDoorF02
import Derived.Test.YtnaefnajkaohgaaGreatDoorF03
set_option linter.all false
namespace Go.AL
open Go
def sc(A:Array Oper):Bool:=(List.range A.size).all fun i=>match A[i]? with
 | some o=>o.after.all fun e => !Region.binds .any e||decide (e.on<i)
 | none=>true
def rz(A:Array Oper)(ord:List (List Nat)):Bool:=(List.range A.size).all fun i=>match A[i]? with
 | some o=>(ord.getD i []).all fun k=>o.after.any fun e=>Region.binds .any e&&(e.on == k||(ord.getD e.on []).contains k)
 | none=>true
def HB(l:List eV)(ord:List (List Nat))(gJ:List (Nat×Nat)):Bool:=(List.range l.length).all fun i=>(List.range i).all fun k=>
 (ord.getD i []).contains k||(match l[k]?,l[i]? with
  | some a,some b=>rC a b&&(gJ.contains (k,i)||EB a.op b.op)
  | _,_=>false)
section
variable{P:Program}{G:GT}{A:Array Oper}{ord:List (List Nat)}
theorem Pj(h:sc A=true){i:Nat}{o:Oper}(hi:A[i]? = some o){e:Edge}(he:e∈o.after)(hb:Region.binds .any e=true):e.on<i:=by
 have:=ao.1 h i (bG.2 (aI.1 hi).1)
 simp only[hi]at this
 have:=bQ.1 this e he
 simpa[hb]using this
theorem MV(h:rz A ord=true){i:Nat}{o:Oper}(hi:A[i]? = some o){k:Nat}(hk:k∈ord.getD i []):∃ e∈o.after,Region.binds .any e=true∧(e.on=k∨k∈ord.getD e.on []):=by
 have:=ao.1 h i (bG.2 (aI.1 hi).1)
 simp only[hi]at this
 have:=ao.1 this k hk
 obtain⟨e,he,h2⟩:=Array.any_eq_true'.1 this
 simp only[ah,bW,beq_iff_eq,cE]at h2
 exact⟨e,he,h2.1,h2.2⟩
structure Left(A:Array Oper)(ord:List (List Nat))(rem:List jT)(listed:Array Bool):Prop where
 size:listed.size=A.size
 iff:∀ j,j<A.size→(listed.getD j true=false↔∃ it∈rem,it.k=j)
 sorted:rem.Pairwise fun p q=>p.k<q.k
 lt:∀ it∈rem,it.k<A.size
 down:∀ i,i<A.size→listed.getD i false=true→∀ k∈ord.getD i [],listed.getD k false=true
theorem Ty{rem:List jT}{listed:Array Bool}(h:Left A ord rem listed){j:Nat}(hj:j<A.size):listed.getD j false=true∨∃ it∈rem,it.k=j:=by
 have lY:j<listed.size:=by rw[h.size];exact hj
 cases hb:listed.getD j true with
 | false=>exact .inr ((h.iff j hj).1 hb)
 | true=>left;simp[lY]at hb ⊢;exact hb
theorem T1{rem:List jT}{listed:Array Bool}(h:Left A ord rem listed){it:jT}(gX:it∈rem):listed.getD it.k false=false:=by
 have e7:=h.lt it gX
 have:=(h.iff it.k e7).2 ⟨it,gX,rfl⟩
 have lY:it.k<listed.size:=by rw[h.size];exact e7
 simp[lY]at this ⊢;exact this
theorem HK(he:sc A=true){it:jT}{rem:List jT}{listed:Array Bool}(h:Left A ord (it::rem) listed):it.k∈Region.ready .any A listed:=by
 rw[mem_ready]
 have e7:=h.lt it (by simp)
 refine⟨(h.iff it.k e7).2 ⟨it,by simp,rfl⟩,A[it.k],by simp[e7],fun e hm hb=>?_⟩
 have mF:=Pj he (i:=it.k) (o:=A[it.k]) (by simp[e7]) hm hb
 rcases Ty h (show e.on<A.size by omega)with hl|⟨q,hq,hqk⟩
 ·exact hl
 ·exfalso
  rcases ax.1 hq with rfl|hq
  ·omega
  ·have:=(a7.1 h.sorted).1 q hq
   omega
theorem D7(ho:rz A ord=true){rem:List jT}{listed:Array Bool}(h:Left A ord rem listed){i:Nat}(hi:i∈Region.ready .any A listed){q:jT}(hq:q∈rem):q.k ∉ ord.getD i []:=by
 intro hk
 obtain⟨_,o,Gs,iq⟩:=mem_ready.1 hi
 obtain⟨e,hm,hb,hc⟩:=MV ho Gs hk
 have mF:=iq e hm hb
 have hn:=T1 h hq
 rcases hc with hc|hc
 ·rw[hc]at mF;rw[mF]at hn;cases hn
 ·have e7:e.on<A.size:=by
   rcases aW e.on A.size with h'|h'
   ·exact h'
   ·have:listed.getD e.on false=false:=by
     have:listed.size≤e.on:=by rw[h.size];exact h'
     simp[cZ this]
    rw[this]at mF;cases mF
  have:=h.down e.on e7 mF q.k hc
  rw[this]at hn;cases hn
theorem G7(ho:rz A ord=true){pre post:List jT}{it:jT}{listed:Array Bool}(h:Left A ord (pre++it::post) listed)(hi:it.k∈Region.ready .any A listed) :
  Left A ord (pre++post) (listed.setIfInBounds it.k true):=by
 have pn:(pre++post).Sublist (pre++it::post):=cM (c6 it post) pre
 have fF:∀ q∈pre++post,q.k≠it.k:=by
  intro q hq
  have:=bF.1 h.sorted
  rcases List.mem_append.1 hq with hq|hq
  ·have:=this.2.2 q hq it (by simp);omega
  ·have:=(a7.1 this.2.1).1 q hq;omega
 have e7:=h.lt it (by simp)
 refine⟨by simp[h.size],fun j hj=>?_,h.sorted.sublist pn,fun q hq=>h.lt q (pn.subset hq),fun i tR hl k hk=>?_⟩
 ·by_cases e:it.k=j
  ·subst e
   have:(listed.setIfInBounds it.k true).getD it.k true=true:=by
    have:it.k<listed.size:=by rw[h.size];exact e7
    simp[this]
   rw[this]
   constructor
   ·intro h;cases h
   ·rintro⟨q,hq,e⟩
    exact absurd e (fF q hq)
  ·rw[getD_set_ne true e,h.iff j hj]
   constructor
   ·rintro⟨q,hq,rfl⟩
    rcases List.mem_append.1 hq with hq|hq
    ·exact⟨q,aS _ hq,rfl⟩
    ·rcases ax.1 hq with rfl|hq
     ·exact absurd rfl e
     ·exact⟨q,br _ hq,rfl⟩
   ·rintro⟨q,hq,rfl⟩
    exact⟨q,pn.subset hq,rfl⟩
 ·by_cases e:it.k=i
  ·subst e
   obtain⟨_,o,Gs,iq⟩:=mem_ready.1 hi
   obtain⟨e,hm,hb,hc⟩:=MV ho Gs hk
   have mF:=iq e hm hb
   rcases hc with rfl|hc
   ·exact getD_set_true mF
   ·have e7:e.on<A.size:=by
     rcases aW e.on A.size with h'|h'
     ·exact h'
     ·have:listed.getD e.on false=false:=by
       have:listed.size≤e.on:=by rw[h.size];exact h'
       simp[cZ this]
      rw[this]at mF;cases mF
    exact getD_set_true (h.down e.on e7 mF k hc)
  ·rw[getD_set_ne false e]at hl
   exact getD_set_true (h.down i tR hl k hk)
variable{C:FuncId→List D→D→U→Prop}{N:Nat}
theorem Ju(n:Nat)(δ:Dl)(H:U):(iW n δ H).length=H.length:=by
 cases δ with
 | no=>rfl
 | cells v o xs=>simp only[iW,Dl.app];split<;>simp
 | obj v ob=>simp[iW,Dl.app]
 | new ob=>simp[iW,Dl.app,Al.hole]
theorem Jo(hC:∀ g args d Hn,C g args d Hn→nB P g=true∧rF P G g args [] d Hn)(he:sc A=true)(ho:rz A ord=true){ro:Option Nat}{m:Nat}{Q:Exit→Act→World→Prop}{ms:List Nat}{f':e9}{H':U} :
  ∀ (fuel:Nat) (rem:List jT) (listed:Array Bool) (c:Ctx) (w:World) (f:e9) (H:U) (a:Act),rem.length=fuel→Left A ord rem listed→SX G N c w f H ms a→Tx C f H rem f' H' →
   (∀ it∈rem,∃ o,A[it.k]? = some o∧pY P G N A o=some it.e) →
   (∀ p∈rem,∀ q∈rem,p.k<q.k→p.k∈ord.getD q.k []∨(rC p.e q.e=true∧pF p.rc q.rc=true)) →
   (∀ c' w' a',SX G N c' w' f' H' ms a'→Step H.length c H w c' H' w'→Q .normal a' w')→wpAnyIn (FW ro) m P .any A Q fuel listed a w
 | 0,rem,listed,c,w,f,H,a,hl,jA,hs,ht,_,_,hQ=>by
  have:rem = []:=aU hl
  subst this
  cases ht
  refine⟨?_,hQ c w a hs (Step.refl _ _ _ _)⟩
  refine cy.2 fun j hj=>?_
  obtain⟨h1,o,h2,_⟩:=mem_ready.1 hj
  obtain⟨it,gX,_⟩:=(jA.iff j (aI.1 h2).1).1 h1
  cases gX
 | fuel+1,rem,listed,c,w,f,H,a,hl,jA,hs,ht,qW,yj,hQ=>by
  refine⟨fun h0=>?_,fun i hi=>?_⟩
  ·cases rem with
   | nil=>cases hl
   | cons it rem=>
    have:=HK he jA
    rw[h0]at this
    cases this
  ·obtain⟨h1,o,h2,_⟩:=mem_ready.1 hi
   obtain⟨it,gX,rfl⟩:=(jA.iff i (aI.1 h2).1).1 h1
   obtain⟨pre,post,rfl⟩:=List.append_of_mem gX
   have Dj:∀ p∈pre,rC p.e it.e=true∧pF p.rc it.rc=true:=by
    intro p hp
    have e7:p.k<it.k:=(bF.1 jA.sorted).2.2 p hp it (by simp)
    rcases yj p (aS _ hp) it (by simp) e7 with h|h
    ·exact absurd h (D7 ho jA hi (aS _ hp))
    ·exact h
   obtain⟨d,δ,hE,hT⟩:=ht.front Dj
   obtain⟨o',Gq,Ga⟩:=qW it (by simp)
   have pn:∀ q∈pre++post,q∈pre++it::post:=fun q hq=>(cM (c6 it post) pre).subset hq
   refine J7 hC hs Gq Ga hE fun c' w' a' fm eH=>?_
   refine Jo hC he ho fuel (pre++post) _ c' w' _ _ a' (by simp at hl ⊢;omega) (G7 ho jA hi) fm hT (fun q hq=>qW q (pn q hq)) (fun p hp q hq=>yj p (pn p hp) q (pn q hq)) fun c2 w2 a2 kD nI=>?_
   rw[Ju]at nI
   exact hQ c2 w2 a2 kD (eH.trans nI (Nat.le_refl _))
theorem Jq(he:sc A=true)(ho:rz A ord=true){F:Fence}{m:Nat}{Q:Exit→Act→World→Prop} :
  ∀ (lasts:List jT) (ops:List Oper) (listed:Array Bool) (a:Act) (w:World),Left A ord lasts listed→(∀ q∈lasts,∀ k,k<q.k→k∈ord.getD q.k [])→lasts.map (fun q=>A[q.k]?)=ops.map some →
   wpListIn F m P A Q ops a w→wpAnyIn F m P .any A Q lasts.length listed a w
 | [],ops,listed,a,w,jA,_,q9,h=>by
  have:ops = []:=by simpa using q9.symm
  subst this
  refine⟨cy.2 fun j hj=>?_,h⟩
  obtain⟨h1,o,h2,_⟩:=mem_ready.1 hj
  obtain⟨it,gX,_⟩:=(jA.iff j (aI.1 h2).1).1 h1
  cases gX
 | q::lasts,ops,listed,a,w,jA,hl,q9,h=>by
  cases ops with
  | nil=>simp at q9
  | cons o ops=>
   simp only[List.map_cons,cz]at q9
   refine⟨fun h0=>?_,fun i hi=>?_⟩
   ·have:=HK he jA
    rw[h0]at this
    cases this
   ·obtain⟨h1,o',h2,_⟩:=mem_ready.1 hi
    obtain⟨it,gX,rfl⟩:=(jA.iff i (aI.1 h2).1).1 h1
    have gX:it=q:=by
     rcases ax.1 gX with h|h
     ·exact h
     ·have e7:q.k<it.k:=(a7.1 jA.sorted).1 it h
      exact absurd (hl it (aO _ h) q.k e7) (D7 ho jA hi (q:=q) (by simp))
    subst gX
    have hn:=G7 (pre:=[]) (post:=lasts) ho jA hi
    have ih:∀ a w,wpListIn F m P A Q ops a w→wpAnyIn F m P .any A Q lasts.length (listed.setIfInBounds it.k true) a w:=fun a w h=>
     Jq he ho lasts ops _ a w hn (fun q hq=>hl q (aO _ hq)) q9.2 h
    unfold wpOpIn
    simp only[q9.1]
    simp only[wpListIn]at h
    split
    ·rename_i hw
     simp only[hw,if_true]at h
     exact Oper.wpIn_mono ih h
    ·rename_i hw
     simp only[hw]at h
     exact⟨h.1,ih _ _ h.2⟩
theorem Jp(hC:∀ g args d Hn,C g args d Hn→nB P g=true∧rF P G g args [] d Hn)(he:sc A=true)(ho:rz A ord=true){ro:Option Nat}{m:Nat}{Q:Exit→Act→World→Prop}{ms:List Nat}{f':e9}{H':U}{lasts:List jT}{ops:List Oper}
  (tW:∀ q∈lasts,∀ k,k<q.k→k∈ord.getD q.k []) (q9:lasts.map (fun q=>A[q.k]?)=ops.map some) :
  ∀ (fuel:Nat) (rem:List jT) (listed:Array Bool) (c:Ctx) (w:World) (f:e9) (H:U) (a:Act),rem.length=fuel→Left A ord (rem++lasts) listed→SX G N c w f H ms a→Tx C f H rem f' H' →
   (∀ it∈rem,∃ o,A[it.k]? = some o∧pY P G N A o=some it.e) →
   (∀ p∈rem,∀ q∈rem,p.k<q.k→p.k∈ord.getD q.k []∨(rC p.e q.e=true∧pF p.rc q.rc=true)) →
   (∀ c' w' a',SX G N c' w' f' H' ms a'→Step H.length c H w c' H' w'→wpListIn (FW ro) m P A Q ops a' w')→wpAnyIn (FW ro) m P .any A Q (fuel+lasts.length) listed a w
 | 0,rem,listed,c,w,f,H,a,hl,jA,hs,ht,_,_,hQ=>by
  have:rem = []:=aU hl
  subst this
  cases ht
  rw[aX]
  exact Jq he ho lasts ops listed a w jA tW q9 (hQ c w a hs (Step.refl _ _ _ _))
 | fuel+1,rem,listed,c,w,f,H,a,hl,jA,hs,ht,qW,yj,hQ=>by
  have mH:∀ q∈rem,∀ l∈lasts,q.k<l.k:=fun q hq l hl=>(bF.1 jA.sorted).2.2 q hq l hl
  rw[show fuel+1+lasts.length=(fuel+lasts.length)+1 by omega]
  refine⟨fun h0=>?_,fun i hi=>?_⟩
  ·cases rem with
   | nil=>cases hl
   | cons it rem=>
    have:=HK (rem:=rem++lasts) he jA
    rw[h0]at this
    cases this
  ·obtain⟨h1,o,h2,_⟩:=mem_ready.1 hi
   obtain⟨it,gX,rfl⟩:=(jA.iff i (aI.1 h2).1).1 h1
   have gX:it∈rem:=by
    rcases List.mem_append.1 gX with h|h
    ·exact h
    ·cases rem with
     | nil=>cases hl
     | cons q rem=>exact absurd (tW it h q.k (mH q (by simp) it h)) (D7 ho jA hi (q:=q) (by simp))
   obtain⟨pre,post,rfl⟩:=List.append_of_mem gX
   have Gl:Left A ord (pre++it::(post++lasts)) listed:=by simpa using jA
   have Dj:∀ p∈pre,rC p.e it.e=true∧pF p.rc it.rc=true:=by
    intro p hp
    have e7:p.k<it.k:=(bF.1 Gl.sorted).2.2 p hp it (by simp)
    rcases yj p (aS _ hp) it (by simp) e7 with h|h
    ·exact absurd h (D7 ho Gl hi (aS _ hp))
    ·exact h
   obtain⟨d,δ,hE,hT⟩:=ht.front Dj
   obtain⟨o',Gq,Ga⟩:=qW it (by simp)
   have pn:∀ q∈pre++post,q∈pre++it::post:=fun q hq=>(cM (c6 it post) pre).subset hq
   refine J7 hC hs Gq Ga hE fun c' w' a' fm eH=>?_
   refine Jp hC he ho tW q9 fuel (pre++post) _ c' w' _ _ a' (by simp at hl ⊢;omega) (by simpa using G7 ho Gl hi) fm hT (fun q hq=>qW q (pn q hq)) (fun p hp q hq=>yj p (pn p hp) q (pn q hq)) fun c2 w2 a2 kD nI=>?_
   rw[Ju]at nI
   exact hQ c2 w2 a2 kD (eH.trans nI (Nat.le_refl _))
end
end Go.AL
namespace Go.AL
open Go
abbrev room(k:Nat):U:=List.replicate k .hole
section
variable{f:e9}{H:U}{r:Nat}
theorem C1(v:Nat)(o:Ob)(ho:o≠.hole):(H++room r)[v]? = some o↔H[v]? = some o:=by
 rcases aW v H.length with h|h
 ·rw[ag h]
 ·rw[aj h,aK h]
  constructor
  ·intro h1
   rw[cV]at h1
   split at h1
   ·cases h1;exact absurd rfl ho
   ·cases h1
  ·intro h1;cases h1
theorem HQ(v:Nat):rowsOf (H++room r) v=rowsOf H v:=by
 unfold rowsOf
 cases h:H[v]? with
 | none=>
  cases h2:(H++room r)[v]? with
  | none=>rfl
  | some o=>
   cases o<;>first|rfl|skip
   rw[C1 v _ (by simp)]at h2
   rw[h]at h2;cases h2
 | some o=>
  have:(H++room r)[v]? = some o:=by
   rw[ag (af.1 h).1];exact h
  rw[this]
theorem uI(v g:Nat):rowAt (H++room r) v g=rowAt H v g:=by rw[sQ,sQ,HQ]
theorem Hi(v:Nat):kc (H++room r) v=kc H v:=by
 unfold kc
 cases h:H[v]? with
 | none=>
  cases h2:(H++room r)[v]? with
  | none=>rfl
  | some o=>
   cases o<;>first|rfl|skip
   rw[C1 v _ (by simp)]at h2
   rw[h]at h2;cases h2
 | some o=>
  have:(H++room r)[v]? = some o:=by
   rw[ag (af.1 h).1];exact h
  rw[this]
theorem Ib(sz:Nat)(d:D):jt sz (H++room r) d=jt sz H d:=by
 cases d<;>first|rfl|skip
 simp only[jt,uI]
theorem N6(n:Nat)(op:fR):eX f (H++room r) n op=eX f H n op:=by
 cases op<;>simp only[eX]<;>first|rfl|skip
 case ld1=>simp only[qp,uI]
 case ldN=>simp only[qq,uI]
 case st1=>simp only[uQ,uI]
 case stN=>simp only[uR,uI]
 case lookup=>simp only[um,Hi]
 case mapUpd=>simp only[sN,Hi]
 case len=>simp only[mn,Hi]
 case b2s=>simp only[vd,Ib]
 case app=>simp only[o4,Ib,uI]
 case copy=>simp only[vi,Ib,uI]
theorem zl(k:Nat)(d:D):fw (H++room r) k d=fw H k d∧eB (fun _=>none) (H++room r) k d=eB (fun _=>none) H k d:=
 zk (H1:=H) (H2:=H++room r) k d fun v _=>(HQ v).symm
theorem CY(op:fR):eY f (H++room r) op=eY f H op:=by
 have key:∀ args:List D,args.map (fw (H++room r) 40)=args.map (fw H 40):=fun args=>ak fun d _=>(zl 40 d).1
 cases op<;>first|rfl|skip
 case call g args=>simp only[eY,key]
 case callN g args=>simp only[eY,key]
 case callv g args=>simp only[eY,key]
 case len k x=>cases k<;>rfl
theorem Np{v g:Nat}{x:TypeId×List D}(h:rowAt H v g=some x):v<H.length:=(af.1 (zp h)).1
theorem TL{v:Nat}{x:KK×List (Value×D)}(h:kc H v=some x):v<H.length:=(af.1 (sM h)).1
def Safe(H:U):Dl→Prop
 | .no=>True
 | .cells v o xs=>∃ t g cs,H[v]? = some (.row t g cs)∧o+xs.length≤cs.length
 | .obj v _=>v<H.length
 | .new _=>True
theorem N7{op:fR}{n:Nat}{d:D}{δ:Dl}(h:eX f H n op=some (d,δ)):Safe H δ:=by
 have hl:∀ {o:Option D},lift o=some (d,δ)→Safe H δ:=fun h=>by rw[(jC h).2];trivial
 cases op<;>simp only[eX]at h<;>first|exact hl h|(cases h;done)|skip
 case box=>unfold mT at h;split at h<;>cases h;trivial
 case alloc=>cases h;trivial
 case mkmap=>cases h;trivial
 case buildSl=>
  unfold rS at h
  split at h
  ·split at h<;>cases h;trivial
  ·cases h
 case mksl=>
  unfold vZ at h
  split at h
  ·split at h<;>cases h;trivial
  ·cases h
 case st1=>
  unfold uQ at h
  split at h
  ·split at h
   ·rename_i v g o _ t cs fu
    split at h
    ·rename_i hc;cases h;exact⟨_,_,_,zp fu,by simp;omega⟩
    ·cases h
   ·cases h
  ·cases h
 case stN=>
  unfold uR at h
  split at h
  ·split at h
   ·rename_i v g o xs _ _ t cs fu
    split at h
    ·rename_i hc;cases h;exact⟨_,_,_,zp fu,by simp;omega⟩
    ·cases h
   ·cases h
  ·cases h
 case mapUpd=>
  unfold sN at h
  split at h
  ·split at h
   ·rename_i hm
    split at h
    ·cases h;exact TL hm
    ·cases h
   ·cases h
  ·cases h
 case app=>
  unfold o4 at h
  split at h
  ·split at h
   ·split at h
    ·rename_i fu
     split at h
     ·cases h;exact Np fu
     ·cases h
    ·cases h
   ·split at h
    ·cases h;trivial
    ·split at h
     ·cases h;trivial
     ·cases h
   ·cases h
  ·cases h
 case copy=>
  unfold vi at h
  split at h
  ·split at h
   ·rename_i fu
    split at h
    ·cases h;exact Np fu
    ·cases h
   ·cases h
  ·cases h;trivial
  ·cases h
theorem EW{δ:Dl}(hs:Safe H δ)(k:Nat)(hk:(δ.app H (Al.last H)).length≤k) :
  iW H.length δ (H++room (k-H.length))=δ.app H (Al.last H)++room (k-(δ.app H (Al.last H)).length)∧Fits H.length δ (H++room (k-H.length)):=by
 cases δ with
 | no=>exact⟨rfl,trivial⟩
 | cells v o xs=>
  obtain⟨t,g,cs,h1,h2⟩:=hs
  have e7:=(af.1 h1).1
  have h3:(H++room (k-H.length))[v]? = some (.row t g cs):=by rw[ag e7];exact h1
  refine⟨?_,t,g,cs,h3,h2⟩
  simp only[iW,Dl.app,h3,h1,bV]
  rw[List.set_append_left _ _ e7]
 | obj v ob=>
  refine⟨?_,trivial⟩
  simp only[iW,Dl.app,bV]
  rw[List.set_append_left _ _ hs]
 | new ob=>
  simp only[Dl.app,Al.last,az,aJ,cw,aX]at hk ⊢
  have e:k-H.length=(k-(H.length+1))+1:=by omega
  refine⟨?_,?_⟩
  ·simp only[iW,Dl.app,Al.hole]
   rw[e,room,bB,List.set_append_right _ _ (Nat.le_refl _)]
   simp[bg]
  ·show(H++room (k-H.length))[H.length]? = some .hole
   rw[e,aj (Nat.le_refl _)]
   simp[bB]
end
section
variable{G:GT}{c:Ctx}{w:World}{H:U}
theorem DK{r v:Nat}{L:Loc}:jc c (H++room r) v L↔jc c H v L:=by
 constructor
 ·rintro⟨o,ho,ha,eC⟩
  rw[C1 v o (by rintro rfl;cases ha)]at ho
  exact⟨o,ho,ha,eC⟩
 ·rintro⟨o,ho,ha,eC⟩
  exact⟨o,(C1 v o (by rintro rfl;cases ha)).2 ho,ha,eC⟩
theorem HA{r b:Nat}:ju c (H++room r) b↔ju c H b:=by
 constructor
 ·rintro⟨v,L,hl,r⟩;exact⟨v,L,DK.1 hl,r⟩
 ·rintro⟨v,L,hl,r⟩;exact⟨v,L,DK.2 hl,r⟩
theorem Nn(h:eN G c H w)(r:Nat):eN G c (H++room r) w where
 inj v v' L L' h1 h2:=h.inj v v' L L' (DK.1 h1) (DK.1 h2)
 lt b hb:=h.lt b (HA.1 hb)
 nF b hb:=h.nF b (HA.1 hb)
 iz:=h.iz
 out v k hv:=h.out v k (by simp at hv;omega)
 jx v o k ho hk:=by
  rcases aW v H.length with hv|hv
  ·rw[ag hv]at ho;exact h.jx v o k ho hk
  ·exact h.out v k hv
 ob v o ho:=by
  rcases aW v H.length with hv|hv
  ·rw[ag hv]at ho;exact h.ob v o ho
  ·rw[aj hv,cV]at ho
   split at ho
   ·cases ho
    simp only[fo]
    exact h.out v _ hv
   ·cases ho
 gl:=h.gl
 rt:=h.rt
theorem No(r n:Nat):Step n c H w c (H++room r) w:=
 ⟨⟨rfl,Nat.le_refl _⟩,rfl,rfl,Nat.le_refl _,rfl,fun _ h=>h,fun _ h=>.inl h,fun _ _ _=>rfl,fun _ _ _ _ h=>h,fun _ h=>.inr (HA.1 h)⟩
end
end Go.AL
namespace Go.AL
open Go Go.Proofs Go.Shelf Go.RowKit Go.Lib Go.Sort
structure qK(P:Program)(f:FuncId)(sz:Nat):Prop where
 pos:0<sz
 full:∀ (α:Type) [Inhabited α] (enc:α→List Value) (_:∀ x,(enc x).length=sz) (_:∀ x,∀ v∈enc x,v.oneCell'=true) (cf:α→α→Int) (_:SWO (ltOf cf)) (g jU off cap:Nat) (d:Array α) (w:World)
  (_:∀ args w,(callFunc g args).run P w = .ok (.enter g args) w) (_:CmpLays P g #[] enc sz cf jU off d.size w) (_:HoldsK enc sz w jU off d) (_:jU<w.heap.size) (_:d.size<4611686018427387904),
  Calls P f #[.slice (some ⟨jU,off,none⟩) d.size cap,.func (.func g) #[] #[]] w fun e w'=>e = .returned (.tuple #[])∧∃ d' n os,PermIn 0 d.size d d'∧SortedIn (ltOf cf) 0 d.size d'∧w'=sortWorldK enc sz w jU off n d' os
 none:∀ (p:Option Addr) (cap:Nat) (fv:Value) (w:World),Calls P f #[.slice p 0 cap,fv] w fun e w'=>e = .returned (.tuple #[])∧w'=w
theorem qK.of{P:Program}{ρ:Ren}(L:SlLaysF0.n6 P ρ){k:Nat}(hk:0<k)(aE:∀ w,(isAgg (ρ.t 24)).run P w = .ok true w)(zE:∀ w,(Go.sizeOf (ρ.t 24)).run P w = .ok k w):qK P (ρ.f 6) k where
 pos:=hk
 full α _ enc h1 h2 cf hO g jU off cap d w eg hc hH hb hs:=AnyQ.slices_SortFunc L k aE zE enc h1 h2 cf hO g #[] jU off cap d w eg hc hH hb hs
 none:=AnyF.slices_SortFunc_none L
section
variable{P:Program}{G:GT}{c:Ctx}{H:U}{w:World}{α:Type}
structure El(c:Ctx)(w:World)(fc:α→List D)(l:List α) where
 vs:List Value
 a:α
 mem:a∈l
 cells:Cells (c.data c.F) w vs (fc a)
theorem NF{β:Type}[Inhabited β](enc:β→List Value)(k jU off m:Nat)(dk:Array β)(os:Array Obj){b:Nat}(hb:b<w.heap.size)(hn:b≠jU):(sortWorldK enc k w jU off m dk os).heap[b]? = w.heap[b]? := by
 simp only[sortWorldK,grow,putRowK,putRow,mapBlock,Go.Sort.ahead]
 rw[bP (by simpa using hb),bC,if_neg (dg hn)]
theorem Pd(h:eN G c H w){W:World}(hs:w.heap.size≤W.heap.size)(hk:∀ b,c.F b→W.heap[b]? = w.heap[b]?):eN G (c.data c.F) [] W where
 inj v v' L L' h1:=by obtain⟨o,ho,_⟩:=h1;simp at ho
 lt b hb:=by obtain⟨v,L,⟨o,ho,_⟩,_⟩:=hb;simp at ho
 nF b hb:=by obtain⟨v,L,⟨o,ho,_⟩,_⟩:=hb;simp at ho
 iz b hb:=aH (h.iz b hb) hs
 out _ _ _:=rfl
 jx _ _ _ _ _:=rfl
 ob v o ho:=by simp at ho
 gl g cs hg:=by
  obtain⟨h1,h2⟩:=(Cz h).gl g cs hg
  exact⟨h1,eu.carry (c:=c.data c.F) (c':=c.data c.F) (fun _ _ _ h=>h) (fun _ h=>h) (fun b o hF=>xp (hk b hF)) h2⟩
 rt:=h.rt
theorem Z'{W w':World}(h:ia W w'):∃ q YC,w'=grow (W.drewN q) YC:=by
 obtain⟨⟨h1,h2⟩,h3,h4,h5,h6⟩:=h
 refine⟨w'.drawn-W.drawn,w'.heap.extract W.heap.size w'.heap.size,?_⟩
 cases w' with
 | mk hp tp dr o ou=>
  cases W with
  | mk pf tp' dr' o' ou'=>
   simp only at *
   subst h1 h3 h4
   simp only[grow,World.drewN]
   congr 1
   ·apply Array.ext_getElem?
    intro i
    rcases aW i pf.size with hi|hi
    ·rw[bP hi,h6 i hi]
    ·rw[Array.getElem?_append_right hi,Array.getElem?_extract]
     split
     ·congr 1;omega
     ·exact cZ (by omega)
   ·omega
theorem gD.two{c:Ctx}{w:World}{vs:List Value}{d e:D}(h:gD c w vs [d,e]):∃ u v,vs = [u,v]∧eu c w u d∧eu c w v e:=by
 cases h with
 | cons h1 h=>cases h with
  | cons h2 h=>cases h;exact⟨_,_,rfl,h1,h2⟩
theorem ZR{f g:FuncId}{sz:Nat}(hS:qK P f sz){x:D}{R:D→U→Prop}(k:R (.tup []) H):pL P G f [.emp,x] H R:=by
 intro c w vs eA hr
 obtain⟨u,v,rfl,h1,h2⟩:=gD.two hr
 cases h1
 refine(hS.none none 0 v w).mono ?_
 rintro e w' ⟨rfl,rfl⟩
 exact⟨_,c,_,H,rfl,k,Nat.le_refl _,eA,.tup [] [] rfl (fun i v d hv=>by simp at hv),Step.refl _ _ _ _⟩
theorem ZS{f g:FuncId}{sz:Nat}(hS:qK P f sz)(hg:nB P g=true)(fc:α→List D)(l:List α)(hl:∀ a∈l,(fc a).length=sz)(ff:∀ a∈l,eT (fc a)=true)(h0:0<l.length)(sk:l.length<4611686018427387904)
  (cf:α→α→Int) (vV:∀ x∈l,¬ cf x x<0) (tr:∀ x∈l,∀ y∈l,∀ z∈l,cf x y<0→cf y z<0→cf x z<0) (nt:∀ x∈l,∀ y∈l,∀ z∈l,¬ cf x y<0→¬ cf y z<0→¬ cf x z<0)
  (hc:∀ x∈l,∀ y∈l,pL P G g [.agg (fc x),.agg (fc y)] [] fun d _=>d = .i (cf x y)) {v gen:Nat} {t:TypeId} (hv:H[v]? = some (.row t gen (l.map fc).flatten)) {R:D→U→Prop}
  (k:∀ l':List α,l'.Perm l→l'.Pairwise (fun x y=>¬ cf y x<0)→R (.tup []) (H.set v (.row t gen (l'.map fc).flatten))) :
  pL P G f [.et v gen sz 0 l.length,.fn (.func g) [] []] H R:=by
 have iu:=hS.pos
 intro c w vs eA hr
 obtain⟨u,v1,rfl,h1,h2⟩:=gD.two hr
 clear hr
 have hn:l.length=l.length:=rfl
 revert hn
 generalize hN:l.length=N at h1
 intro hn
 have kR:v1 = .func (.func g) #[] #[]:=by
  cases h2 with
  | fn _ fs cs df dc iL ig _ _=>
   have e1:fs = []:=aA.1 iL
   have e2:cs = []:=aA.1 ig
   subst e1;subst e2;rfl
 subst kR
 clear h2
 cases h1 with
 | kd=>omega
 | et _ _ _ _ _ cap L eC fH ie iF jN=>
 have fC:=eA.ob v _ hv
 simp only[Ob.gen]at fC
 rw[eC]at fC
 simp only[fo,fH]at fC
 obtain⟨arr,ki,GM,hlen,me⟩:=fC
 have n4:(l.map fc).flatten.length=N*sz:=by
  rw[CU sz _ (by simpa using hl),List.length_map,hN]
 rw[n4]at hlen
 have sC:ju c H L.b:=⟨v,L,⟨_,hv,rfl,eC⟩,fH,rfl⟩
 have hblk:=eA.lt _ sC
 have hmul:∀ i,i<N→L.base+i*sz+sz≤arr.size:=fun i hi=>by
  have:(i+1)*sz≤N*sz:=bh _ hi
  rw[bM]at this
  omega
 let mk:Fin l.length→El c w fc l:=fun i=>{
  vs:=(arr.toList.drop (L.base+i.val*sz)).take sz
  a:=l[i.val]
  mem:=bz _
  cells:=by
   have hi:i.val<N:=by rw[← hN];exact i.isLt
   have hm:=hmul _ hi
   have sB:(fc l[i.val]).length=sz:=hl _ (bz _)
   have gH:∀ r,r<sz→∃ y d,((arr.toList.drop (L.base+i.val*sz)).take sz)[r]? = some y∧(fc l[i.val])[r]? = some d∧y.oneCell'=true∧eu c w y d:=fun r hr=>by
    have hd:(l.map fc).flatten[i.val*sz+r]? = (fc l[i.val])[r]? := by
     rw[CT sz iu _ (by simpa using hl),show(i.val*sz+r) / sz=i.val from by rw[cN,Nat.mul_add_div iu,Nat.div_eq_of_lt hr];rfl,show(i.val*sz+r) % sz=r from by rw[cN,Nat.mul_add_mod,dF hr]]
     simp
    have hx:(fc l[i.val])[r]? = some (fc l[i.val])[r]:=List.getElem?_eq_getElem (by omega)
    obtain⟨y,Sn,Sp,Sq⟩:=me (i.val*sz+r) _ (hd.trans hx)
    refine⟨y,_,?_,hx,Sp,Sq⟩
    rw[ay,if_pos hr,aC,bq,← Sn]
    congr 1;omega
   have q8:((arr.toList.drop (L.base+i.val*sz)).take sz).length=sz:=by simp;omega
   refine⟨by rw[q8,sB],fun y hy=>?_,fun r y d hy hd=>?_⟩
   ·obtain⟨r,hr⟩:=aD.1 hy
    have ja:r<sz:=by have:=(af.1 hr).1;omega
    obtain⟨y',d,e1,_,e3,_⟩:=gH r ja
    rw[hr]at e1;cases e1;exact e3
   ·have ja:r<sz:=by have:=(af.1 hy).1;omega
    obtain⟨y',d',e1,e2,_,e4⟩:=gH r ja
    rw[hy]at e1;cases e1
    rw[hd]at e2;cases e2
    exact eu.closed (c:=c) (c':=c.data c.F) (fun b hb=>hb) e4 (qR (ff _ (bz _)) hd) }
 haveI:Inhabited (El c w fc l):=⟨mk ⟨0,h0⟩⟩
 let enc:El c w fc l→List Value:=fun e=>e.vs
 let d:Array (El c w fc l):=Array.ofFn mk
 have pd:d.size=N:=by simp[d,hN]
 have fL:∀ x:El c w fc l,(enc x).length=sz:=fun x=>by rw[show enc x=x.vs from rfl,x.cells.len,hl _ x.mem]
 have Gt:∀ x:El c w fc l,∀ y∈enc x,y.oneCell'=true:=fun x y hy=>x.cells.one y hy
 have QZ:d.toList.map (fun e=>e.a)=l:=by
  apply bI
  intro i
  simp only[d,ar,bq,Array.getElem?_ofFn]
  by_cases hi:i<l.length
  ·simp[hi,mk]
  ·simp[hi]
 have hO:SWO (ltOf fun x y:El c w fc l=>cf x.a y.a):=by
  refine⟨fun x=>?_,fun x y z=>?_,fun x y z=>?_⟩
  ·simpa[ltOf]using vV x.a x.mem
  ·simpa[ltOf]using tr x.a x.mem y.a y.mem z.a z.mem
  ·simpa[ltOf]using nt x.a x.mem y.a y.mem z.a z.mem
 have vD:∀ j,w.cell? ⟨L.b,j,none⟩=arr[j]? := fun j=>by simp[World.cell?,ki]
 have hH:HoldsK enc sz w L.b (L.base+0*sz) d:=by
  intro j hj
  have tS:j<N*sz:=by simpa[pd]using hj
  have hq:j / sz<N:=Nat.div_lt_of_lt_mul (by rw[cN];exact tS)
  have hr:j % sz<sz:=Nat.mod_lt _ iu
  have hm:=hmul _ hq
  have hjj:j / sz*sz+j % sz=j:=by rw[cN];exact Nat.div_add_mod j sz
  rw[get_flatK _ _ _ _ (by rw[pd];exact tS)]
  refine⟨?_,?_⟩
  ·have e1:d[j / sz]! = mk ⟨j / sz,by omega⟩:=by
    rw[getElem!_pos d (j / sz) (by omega)];simp[d]
   rw[vD,e1]
   show _=some (id ((arr.toList.drop (L.base+j / sz*sz)).take sz)[j % sz]!)
   rw[getElem!_pos _ (j % sz) (by simp;omega),List.getElem_take,List.getElem_drop,Array.getElem_toList,bT (by omega)]
   simp only[id]
   congr 2;omega
  ·simp[World.frozen?,ki]
 have QT:CmpLays P g #[] enc sz (fun x y:El c w fc l=>cf x.a y.a) L.b (L.base+0*sz) d.size w:=by
  intro m os dk _ x y
  have hW:∀ b,c.F b→(sortWorldK enc sz w L.b (L.base+0*sz) m dk os).heap[b]? = w.heap[b]? := fun b hb=>NF _ _ _ _ _ _ _ (eA.iz b hb) fun e=>eA.nF _ sC (e▸hb)
  have nb:eN G (c.data c.F) [] (sortWorldK enc sz w L.b (L.base+0*sz) m dk os):=Pd eA (size_sortWorldK_c _ _ _ _ _ _ _ _) hW
  have pj:∀ x:El c w fc l,eu (c.data c.F) (sortWorldK enc sz w L.b (L.base+0*sz) m dk os) (.agg (enc x).toArray) (.agg (fc x.a)):=fun x=>
   .agg _ _ x.cells.len x.cells.one fun i y d hy hd=>eu.carry (c:=c.data c.F) (c':=c.data c.F) (fun _ _ _ h=>h) (fun _ h=>h) (fun b o hF=>xp (hW b hF)) (x.cells.rep i y d hy hd)
  have:=hc x.a x.mem y.a y.mem _ _ _ nb (.cons (pj x) (.cons (pj y) .nil))
  rw[show(#[Value.agg (enc x).toArray,Value.agg (enc y).toArray] ++ #[]:Array Value) = [Value.agg (enc x).toArray,Value.agg (enc y).toArray].toArray by simp]
  refine Calls.mono this ?_
  rintro e w' ⟨u,c',d',H',he,rfl,_,_,hu,eH⟩
  cases hu
  exact⟨he,Z' (tF eH)⟩
 have eg:∀ args w,(callFunc g args).run P w = .ok (.enter g args) w:=Ej hg
 have gO:=hS.full (El c w fc l) enc fL Gt _ hO g L.b (L.base+0*sz) cap d w eg QT hH hblk (by omega)
 rw[pd]at gO
 refine gO.mono ?_
 rintro e w' ⟨rfl,d',n,os,⟨uc,_,vK⟩,RZ,rfl⟩
 have lr:d'.size=N:=by rw[uc,pd]
 have RK:(d'.toList.map fun e=>e.a).Perm l:=by
  refine List.Perm.trans (List.Perm.map _ ?_) (List.Perm.of_eq QZ)
  have e1:(d'.extract 0 N).toList=d'.toList:=by rw[← lr];simp
  have e2:(d.extract 0 N).toList=d.toList:=by rw[← pd];simp
  rw[e1,e2]at vK
  exact vK
 have RN:(d'.toList.map fun e=>e.a).Pairwise fun x y=>¬ cf y x<0:=by
  rw[List.pairwise_map,bj]
  intro i j hi hj mG
  have vG:i<d'.size:=by simpa using hi
  have tS:j<d'.size:=by simpa using hj
  have:=RZ i j (Nat.zero_le _) mG (by omega)
  rw[getElem!_pos d' j tS,getElem!_pos d' i vG]at this
  simpa[ltOf]using this
 have De:((d'.toList.map fun e=>e.a).map fc).flatten.length=N*sz:=by
  rw[CU sz _ (fun x hx=>?_)]
  ·simp[lr]
  ·simp only[aw]at hx
   obtain⟨a,⟨e,_,rfl⟩,rfl⟩:=hx
   exact hl _ e.mem
 have hF:(flatK enc sz d').size=N*sz:=by rw[size_flatK,lr]
 have hF2:N*sz≤arr.size-L.base:=by omega
 obtain⟨w1,w2⟩:=zS eA hv eC fH ki (putCells id (L.base+0*sz) (flatK enc sz d') arr) (by simp[putCells]) GM ((d'.toList.map fun e=>e.a).map fc).flatten (by rw[De];exact hlen) (fun i dd hi=>by
  have vG:i<N*sz:=by rw[← De];exact(af.1 hi).1
  have hq:i / sz<N:=Nat.div_lt_of_lt_mul (by rw[cN];exact vG)
  have hr:i % sz<sz:=Nat.mod_lt _ iu
  have hx:=d'[i / sz].cells
  rw[CT sz iu _ (fun x hx=>by
   simp only[aw]at hx
   obtain⟨a,⟨e,_,rfl⟩,rfl⟩:=hx
   exact hl _ e.mem)]at hi
  have e1:(List.map fc (List.map (fun e=>e.a) d'.toList))[i / sz]? = some (fc d'[i / sz].a):=by
   simp only[ar,bq]
   rw[bT (by omega)];rfl
  rw[e1,Option.bind_some]at hi
  have gq:(d'[i / sz].vs).length=sz:=fL d'[i / sz]
  have e2:(d'[i / sz].vs)[i % sz]? = some (d'[i / sz].vs)[i % sz]:=List.getElem?_eq_getElem (by omega)
  refine⟨(d'[i / sz].vs)[i % sz],?_,hx.one _ (bz _),eu.closed (c:=c.data c.F) (c':=c) (fun b hb=>hb) (hx.rep _ _ _ e2 hi) (qR (ff _ d'[i / sz].mem) hi)⟩
  rw[putCells,dR,bT (by omega),a8,if_pos ⟨by omega,by rw[hF];omega⟩]
  rw[show L.base+i-(L.base+0*sz)=i by omega,get_flatK _ _ _ _ (by rw[lr];exact vG),getElem!_pos d' (i / sz) (by omega)]
  show some (id (d'[i / sz].vs)[i % sz]!)=_
  rw[getElem!_pos _ (i % sz) (by omega)];rfl)
 have xZ:ia (w.setRow L.b (putCells id (L.base+0*sz) (flatK enc sz d') arr)) (sortWorldK enc sz w L.b (L.base+0*sz) n d' os):=by
  refine⟨⟨rfl,Nat.le_add_right _ _⟩,rfl,rfl,?_,fun b hb=>?_⟩
  ·simp[World.setRow,sortWorldK,grow,putRowK,putRow,mapBlock,Go.Sort.ahead]
  ·have nY:b<w.heap.size:=by simpa[World.setRow]using hb
   by_cases oJ:b=L.b
   ·subst oJ
    rw[setRow_heap w L.b arr _ t _ ki]
    simp only[sortWorldK,grow,putRowK,putRow,mapBlock,Go.Sort.ahead]
    rw[bP (by simpa using nY),bC,if_pos rfl,ki]
    rfl
   ·rw[NF _ _ _ _ _ _ _ nY oJ]
    simp only[World.setRow,bC]
    rw[if_neg (dg oJ)]
 exact⟨_,c,_,_,rfl,k _ RK RN,by simp,w1.lV xZ,.tup [] [] rfl (fun i v d hv=>by simp at hv),w2.trans (wD _ xZ) (Nat.le_refl _)⟩
end
end Go.AL
namespace Go.AL
open Go Go.Proofs Go.Shelf Go.RowKit Go.Lib Go.Sort
structure ta(P:Program)(f:FuncId):Prop where
 full:∀ (jU off cap:Nat) (zs:List Int) (w:World) (_:Holds (Value.int .i64) w jU off zs.toArray) (_:jU<w.heap.size) (_:zs.length<4611686018427387904),
  Calls P f #[.slice (some ⟨jU,off,none⟩) zs.length cap] w fun e w'=>e = .returned (.tuple #[])∧∃ n os,w'=grow (putRow (Value.int .i64) (Go.Sort.ahead w n) jU off (zs.mergeSort fun x y=>decide (x≤y)).toArray) os
section
variable{P:Program}{G:GT}{c:Ctx}{H:U}{w:World}
theorem ZU{f:FuncId}(hS:ta P f)(l:List Int)(h0:0<l.length)(sk:l.length<4611686018427387904){v gen:Nat}{t:TypeId}(hv:H[v]? = some (.row t gen (l.map fun n=>D.i n))){R:D→U→Prop}
  (k:R (.tup []) (H.set v (.row t gen ((l.mergeSort fun x y=>decide (x≤y)).map fun n=>D.i n)))):pL P G f [.et v gen 1 0 l.length] H R:=by
 intro c w vs eA hr
 cases hr with
 | @cons u _ _ _ h1 hr=>
 cases hr
 have hn:l.length=l.length:=rfl
 revert hn
 generalize hN:l.length=N at h1
 intro hn
 cases h1 with
 | kd=>omega
 | et _ _ _ _ _ cap L eC fH ie iF jN=>
 have fC:=eA.ob v _ hv
 simp only[Ob.gen]at fC
 rw[eC]at fC
 simp only[fo,fH]at fC
 obtain⟨arr,ki,GM,hlen,me⟩:=fC
 rw[List.length_map,hN]at hlen
 have sC:ju c H L.b:=⟨v,L,⟨_,hv,rfl,eC⟩,fH,rfl⟩
 have hblk:=eA.lt _ sC
 have vD:∀ j,w.cell? ⟨L.b,j,none⟩=arr[j]? := fun j=>by simp[World.cell?,ki]
 have hH:Holds (Value.int .i64) w L.b (L.base+0*1) l.toArray:=by
  intro j hj
  have tS:j<l.length:=by simpa using hj
  obtain⟨y,h1,h2,h3⟩:=me j (.i l[j]) (by simp[tS])
  cases h3
  refine⟨?_,by simp[World.frozen?,ki]⟩
  rw[vD,show L.base+0*1+j=L.base+j by omega,h1]
  simp[tS]
 have gO:=hS.full L.b (L.base+0*1) cap l w hH hblk sk
 rw[hN]at gO
 refine gO.mono ?_
 rintro e w' ⟨rfl,n,os,rfl⟩
 generalize jZ:(l.mergeSort fun x y=>decide (x≤y))=l' at k ⊢
 have De:l'.length=N:=by rw[← jZ,List.length_mergeSort,hN]
 obtain⟨w1,w2⟩:=zS eA hv eC fH ki (putCells (Value.int .i64) (L.base+0*1) l'.toArray arr) (by simp[putCells]) GM (l'.map fun n=>D.i n) (by rw[List.length_map,De];exact hlen) (fun i dd hi=>by
  rw[ar]at hi
  obtain⟨a,ha,rfl⟩:=ai.1 hi
  have vG:i<l'.length:=(af.1 ha).1
  refine⟨.int .i64 a,?_,rfl,.val _⟩
  rw[putCells,dR,bT (by omega),a8,if_pos ⟨by omega,by simp;omega⟩]
  rw[show L.base+i-(L.base+0*1)=i by omega,getElem!_pos l'.toArray i (by simpa using vG)]
  have:=(af.1 ha).2
  simp[this])
 have xZ:ia (w.setRow L.b (putCells (Value.int .i64) (L.base+0*1) l'.toArray arr)) (grow (putRow (Value.int .i64) (Go.Sort.ahead w n) L.b (L.base+0*1) l'.toArray) os):=by
  refine⟨⟨rfl,Nat.le_add_right _ _⟩,rfl,rfl,?_,fun b hb=>?_⟩
  ·simp[World.setRow,grow,putRow,mapBlock,Go.Sort.ahead]
  ·have nY:b<w.heap.size:=by simpa[World.setRow]using hb
   simp only[grow,putRow,mapBlock,Go.Sort.ahead]
   rw[bP (by simpa using nY),bC]
   by_cases oJ:L.b=b
   ·subst oJ
    rw[setRow_heap w L.b arr _ t _ ki,if_pos rfl,ki]
    rfl
   ·simp only[World.setRow,bC]
    rw[if_neg oJ,if_neg oJ]
 exact⟨_,c,_,_,rfl,k,by simp,w1.lV xZ,.tup [] [] rfl (fun i v d hv=>by simp at hv),w2.trans (wD _ xZ) (Nat.le_refl _)⟩
end
end Go.AL
namespace Go.AL
open Go
def Out.ex:Out→Exit
 | .norm _=>.normal
 | .exit id _=>.exit id
 | .ret _=>.ret
def YB(A:Array Oper):List (List Nat):=A.toList.foldl (init:=[]) fun acc o=>
 acc ++ [dedup ((o.after.toList.filter fun e=>Region.binds .any e).flatMap fun e=>e.on::acc.getD e.on [])]
def YJ(l:List eV)(ord:List (List Nat)):List (Nat×Nat):=(List.range l.length).flatMap fun i=>(List.range i).filterMap fun k=>
 if (ord.getD i []).contains k then none else match l[k]?,l[i]? with
  | some a,some b=>if EB a.op b.op then none else some (k,i)
  | _,_=>none
def Mb:List FuncId:=[227]
def SK:fR→Bool
 | .call f _=>Mb.contains f
 | .callN f _=>Mb.contains f
 | _=>false
def Mc(l:List eV)(ord:List (List Nat))(n:Nat):Bool:=n<l.length&&(List.range l.length).all fun i=>decide (i<n)||(List.range i).all fun k=>(ord.getD i []).contains k
def J4(gJ:List (Nat×Nat))(l:List eV)(ord:List (List Nat)):IR:=
 let n:=l.findIdx fun e=>SK e.op
 if Mc l ord n then .jG gJ (l.take n) (l.drop n)else .draw gJ l
def kX:Code→List (Array Tmp×Code×Code)
 | .seq a b=>kX a++kX b
 | .cond _ a b=>kX a++kX b
 | .block _ a=>kX a
 | .loop a=>kX a
 | .rangeFunc _ ps a b=>(ps,a,b)::(kX a++kX b)
 | _=>[]
def cC(P:Program)(G:GT)(N:Nat)(rf:Nat):List (List Nat)→Code→Option (IR×List (List Nat))
 | hs,.skip=>some (.skip,hs)
 | hs,.region _ ops false=>match lG P G N ops ops.toList with
  | some l=>some (.ops l,hs)
  | none=>some (.bad,hs)
 | hs,.region _ ops true=>match lG P G N ops ops.toList with
  | some l=>
   let ord:=YB ops
   let gJ:=YJ l ord
   if sc ops&&rz ops ord&&HB l ord gJ then some (J4 gJ l ord,hs)else some (.bad,hs)
  | none=>some (.bad,hs)
 | hs,.seq a b=>match cC P G N rf hs a with
  | some (x,kL)=>match cC P G N (rf+(kX a).length) kL b with
   | some (y,kD)=>some (.seq x y,kD)
   | none=>none
  | none=>none
 | hs,.cond c a b=>match cX G c with
  | some x=>match cC P G N rf hs a with
   | some (y,kL)=>match cC P G N (rf+(kX a).length) kL b with
    | some (z,kD)=>some (.cond x y z,kD)
    | none=>none
   | none=>none
  | none=>some (.bad,hs)
 | hs,.block id a=>match hs with
  | l::hs=>match cC P G N rf hs a with
   | some (x,kL)=>some (.block id l x,kL)
   | none=>none
  | []=>none
 | hs,.loop a=>match hs with
  | l::hs=>match cC P G N rf hs a with
   | some (x,kL)=>some (.loop l x,kL)
   | none=>none
  | []=>none
 | hs,.rangeFunc g _ _ _=>match cX G g,hs with
  | some x,l::hs=>some (.jQ rf l x,hs)
  | _,_=>some (.bad,hs)
 | hs,.exit id=>some (.exit id,hs)
 | hs,.ret=>some (.ret,hs)
 | hs,_=>some (.bad,hs)
inductive kr(P:Program)(G:GT)(N:Nat):IR→Code→Prop
 | skip:kr P G N .skip .skip
 | ops {l id A} (h:lG P G N A A.toList=some l):kr P G N (.ops l) (.region id A false)
 | draw {gJ l id A} (ord:List (List Nat)) (h:lG P G N A A.toList=some l) (he:sc A=true) (ho:rz A ord=true) (hp:HB l ord gJ=true):kr P G N (.draw gJ l) (.region id A true)
 | jG {gJ l es id A} (ord:List (List Nat)) (h:lG P G N A A.toList=some (l++es)) (he:sc A=true) (ho:rz A ord=true) (hp:HB (l++es) ord gJ=true) (sB:∀ i,l.length≤i→i<(l++es).length→∀ k,k<i→k∈ord.getD i []):kr P G N (.jG gJ l es) (.region id A true)
 | seq {a b x y} (h1:kr P G N x a) (h2:kr P G N y b):kr P G N (.seq x y) (.seq a b)
 | cond {c a b x y z} (hc:cX G c=some x) (h1:kr P G N y a) (h2:kr P G N z b):kr P G N (.cond x y z) (.cond c a b)
 | block {id l a x} (h:kr P G N x a):kr P G N (.block id l x) (.block id a)
 | loop {l a x} (h:kr P G N x a):kr P G N (.loop l x) (.loop a)
 | jQ {rf l x g ps ac bc} (hx:cX G g=some x) (h:G.rt rf=some (N,ps,ac,bc)):kr P G N (.jQ rf l x) (.rangeFunc g ps ac bc)
 | exit {id}:kr P G N (.exit id) (.exit id)
 | ret:kr P G N .ret .ret
 | bad {c}:kr P G N .bad c
def s8(G:GT)(N rf:Nat)(code:Code):Prop:=∀ (i:Nat) (x:Array Tmp×Code×Code),(kX code)[i]? = some x→G.rt (rf+i)=some (N,x)
theorem s8.left{G:GT}{N rf:Nat}{a b:Code}{l:List (Array Tmp×Code×Code)}(hl:l=kX a++kX b)(h:∀ (i:Nat) (x:Array Tmp×Code×Code),l[i]? = some x→G.rt (rf+i)=some (N,x)):s8 G N rf a∧s8 G N (rf+(kX a).length) b:=by
 subst hl
 refine⟨fun i x hx=>h i x ?_,fun i x hx=>?_⟩
 ·rw[ag (af.1 hx).1];exact hx
 ·rw[bf]
  exact h _ x (by rw[aj (by omega)];simpa using hx)
theorem E3{P:Program}{G:GT}{N:Nat}:∀ {code:Code} {rf:Nat} {hs fm:List (List Nat)} {ir:IR},s8 G N rf code→cC P G N rf hs code=some (ir,fm)→kr P G N ir code:=by
 intro code
 induction code with
 | skip=>intro rf hs fm ir hR h;simp only[cC]at h;cases h;exact .skip
 | region id A draw=>
  intro rf hs fm ir hR h
  cases draw
  ·simp only[cC]at h
   split at h
   ·rename_i l hl;cases h;exact .ops hl
   ·cases h;exact .bad
  ·simp only[cC]at h
   split at h
   ·rename_i l hl
    split at h
    ·rename_i hc
     cases h
     simp only[ah]at hc
     unfold J4
     dsimp only
     split
     ·rename_i hL
      unfold Mc at hL
      simp only[ah,bW,decide_eq_true_eq,ao,bG,cE]at hL
      refine .jG _ (by rw[bK];exact hl) hc.1.1 hc.1.2 (by rw[bK];exact hc.2) fun i hi iJ k hk=>?_
      rw[bK]at iJ
      rw[aP]at hi
      rcases hL.2 i iJ with h|h
      ·omega
      ·exact h k hk
     ·exact .draw _ hl hc.1.1 hc.1.2 hc.2
    ·cases h;exact .bad
   ·cases h;exact .bad
 | seq a b l4 qn=>
  intro rf hs fm ir hR h
  obtain⟨su,sv⟩:=s8.left rfl hR
  simp only[cC]at h
  split at h
  ·rename_i x kL ha
   split at h
   ·rename_i y kD hb;cases h;exact .seq (l4 su ha) (qn sv hb)
   ·cases h
  ·cases h
 | cond c a b l4 qn=>
  intro rf hs fm ir hR h
  obtain⟨su,sv⟩:=s8.left rfl hR
  simp only[cC]at h
  split at h
  ·rename_i x hx
   split at h
   ·rename_i y kL ha
    split at h
    ·rename_i z kD hb;cases h;exact .cond hx (l4 su ha) (qn sv hb)
    ·cases h
   ·cases h
  ·cases h;exact .bad
 | block id a l4=>
  intro rf hs fm ir hR h
  simp only[cC]at h
  split at h
  ·split at h
   ·rename_i x kL ha;cases h;exact .block (l4 hR ha)
   ·cases h
  ·cases h
 | loop a l4=>
  intro rf hs fm ir hR h
  simp only[cC]at h
  split at h
  ·split at h
   ·rename_i x kL ha;cases h;exact .loop (l4 hR ha)
   ·cases h
  ·cases h
 | rangeFunc g ps a b l4 qn=>
  intro rf hs fm ir hR h
  simp only[cC]at h
  split at h
  ·rename_i x l kL hx
   cases h
   exact .jQ hx (hR 0 _ rfl)
  ·cases h;exact .bad
 | exit id=>intro rf hs fm ir hR h;simp only[cC]at h;cases h;exact .exit
 | ret=>intro rf hs fm ir hR h;simp only[cC]at h;cases h;exact .ret
 | _=>intro rf hs fm ir hR h;simp only[cC]at h;cases h;exact .bad
def cR(P:Program):ResultVar→Option pS
 | .tmp t=>some (.tmp t)
 | .cell a t=>match lR P t,iC P t with
  | some false,some _=>some (.rU a)
  | some true,some n=>some (.jz n a)
  | _,_=>none
def te(P:Program):List ResultVar→Option (List pS)
 | []=>some []
 | x::r=>match cR P x,te P r with
  | some a,some l=>some (a::l)
  | _,_=>none
def sT(P:Program)(k:Nat):Option (Nat×Array Tmp×Code×Code):=match P.funcs[k / 64]? with
 | some fn=>match fn.body with
  | some code=>(kX code)[k % 64]?.map fun x=>(fn.ntmps,x)
  | none=>none
 | none=>none
theorem YS{P:Program}{G:GT}(hG:G.rt=sT P){f:Nat}{fn:Func}{code:Code}(hf:P.funcs[f]? = some fn)(hb:fn.body=some code)(hl:(kX code).length≤64):s8 G fn.ntmps (64*f) code:=by
 intro i x hx
 have hi:i<64:=aH (af.1 hx).1 hl
 rw[hG]
 unfold sT
 rw[show(64*f+i) / 64=f by omega,show(64*f+i) % 64=i by omega,hf]
 simp[hb,hx]
structure wZ(P:Program)(G:GT)(f:FuncId)(fn:ey):Prop where
 ex:∃ func code hs fm,P.funcs[f]? = some func∧func.body=some code∧nB P f=true∧(kX code).length≤64∧cC P G fn.ntmps (64*f) hs code=some (fn.body,fm)∧func.ntmps=fn.ntmps∧te P func.results.toList=some fn.results
structure rL(P:Program)(G:GT)(rf:Nat)(R:mb):Prop where
 ex:∃ N ps ac bc,G.rt rf=some (N,ps,ac,bc)∧ps.toList=R.params∧(R.params.all fun p=>decide (p<N))=true∧kr P G N R.a ac∧kr P G N R.b bc
structure ER(P:Program)(G:GT)(T:fE):Prop where
 rt:G.rt=sT P
 fn:∀ f fn,T.fn f=some fn→wZ P G f fn
 round:∀ rf R,T.round rf=some R→rL P G rf R
 sort:∀ f sz,T.sort f=some sz→qK P f sz
 oC:∀ f,T.oC f=true→ta P f
def Ca(F:Fence)(n:Nat)(P:Program)(c:Code)(Q:Exit→Act→World→Prop)(a:Act)(w:World):Prop:=
 ∀ (b:Frame) (k:List Item) (cs:List Frame),b.roundOf=F.round→F.fn b.fn→F.room (cs.length+1+n) →
  ∃ e a' w',Q e a' w'∧ArrivesIn (Machine.fenced P F) P (lone (b.atR a (.code c :: .inLoop c::k)) cs w) b k cs e a' w'
section
variable{F:Fence}{n:Nat}{P:Program}{Q:Exit→Act→World→Prop}{a:Act}{w:World}
theorem TD{c:Code}(h:c.wpIn F n P (Exit.then (Ca F n P c Q) Q) a w):Ca F n P c Q a w:=by
 intro b k cs gb hb hr
 obtain⟨e,xf,zT,hq,ki⟩:=h b (.inLoop c::k) cs gb hb hr
 cases e with
 | normal=>
  obtain⟨Pw,Od,aaj,RQ,QI⟩:=hq b k cs gb hb hr
  exact⟨Pw,Od,aaj,RQ,.of_steps (StepsIn.trans ki (.one (fenced_calm hb hr rfl) stepR_inLoop)) QI⟩
 | exit id=>exact⟨_,xf,zT,hq,.pass (x:=.inLoop c) rfl (fun _ _=>.inl (by simp)) ki⟩
 | goto l=>exact⟨_,xf,zT,hq,.pass (x:=.inLoop c) rfl (fun _ _=>.inl (by simp)) ki⟩
 | ret=>exact⟨_,xf,zT,hq,.pass (x:=.inLoop c) rfl (fun _ _=>.inl (by simp)) ki⟩
 | panic ch=>exact⟨_,xf,zT,hq,.pass (x:=.inLoop c) rfl (fun _ _=>.inl (by simp)) ki⟩
 | outgrown=>exact⟨_,xf,zT,hq,.pass (x:=.inLoop c) rfl (fun _ _=>.inl (by simp)) ki⟩
theorem aac{c:Code}(h:Ca F n P c Q a w):(Code.loop c).wpIn F n P Q a w:=by
 intro b k cs gb hb hr
 obtain⟨e,a',w',hq,ki⟩:=h b k cs gb hb hr
 exact⟨e,a',w',hq,.of_steps (.one (fenced_calm hb hr rfl) stepR_loop) ki⟩
end
section
variable{P:Program}{G:GT}{c:Ctx}{w:World}{a:Act}{N:Nat}
theorem EV(δ:Dl)(H:U):H.length≤(δ.app H (Al.last H)).length:=by
 cases δ with
 | no=>exact Nat.le_refl _
 | cells v o xs=>simp only[Dl.app];split<;>simp
 | obj v ob=>simp[Dl.app]
 | new ob=>simp[Dl.app,Al.last]
theorem Ep(ks:ke)(H:U):(mP ks H).length=ks.length:=by simp[mP]
theorem Mw{ks:ke}{H:U}{f:Nat→Nat}:∀ {vs:List Nat} {ds:List Deferred},kf c vs ds→(∀ v∈vs,∀ L,c.ι v 0=some L→(c.eB ks H).ι (f v) 0=some L)→kf (c.eB ks H) (vs.map f) ds:=by
 intro vs ds h
 induction h with
 | nil=>intro _;exact .nil
 | cons L h1 h2 _ ih=>intro hf;exact .cons L (hf _ (by simp) L h1) h2 (ih fun v hv=>hf v (by simp[hv]))
theorem NP{n:Nat}{d:D}{v:Nat}(hv:v∈gx n d):n≤v:=by
 cases d<;>simp only[gx]at hv<;>first|(split at hv<;>simp at hv;omega)|(simp at hv)
theorem MG{n:Nat}{o:Ob}{v:Nat}(hv:v∈lM n o):n≤v:=by
 unfold lM at hv
 split at hv
 ·obtain⟨l2,ig,GQ⟩:=aM.1 hv
  obtain⟨d,_,rfl⟩:=aw.1 ig
  exact NP GQ
 ·obtain⟨l2,ig,GQ⟩:=aM.1 hv
  obtain⟨d,_,rfl⟩:=aw.1 ig
  exact NP GQ
 ·cases hv
theorem Fj{s:St}(hs:iQ G N c w s a){n:Nat}(hn:n≤s.H.length)(live:List Nat) :
  ∃ c',iQ G N c' w (cut n live s) a∧Step n c s.H w c' (cut n live s).H w∧n≤(cut n live s).H.length:=by
 unfold cut
 split
 ·exact⟨c,⟨hs.eA,vj hs.env live,hs.size,hs.marks⟩,Step.refl _ _ _ _,hn⟩
 ·dsimp only
  generalize hK:dedup _=K
  have mH:∀ v∈K,v∈(((forget live s.env).map fun p=>gx n p.2).flatten++((s.H.take n).map (lM n)).flatten++s.marks.filter (n≤·)).filter (· < s.H.length):=fun v hv=>by
   rw[← hK]at hv;exact yQ hv
  have jN:∀ (d:D) (v:Nat),v∈gx n d→n≤v:=by
   intro d v hv
   cases d<;>simp only[gx]at hv<;>first|(split at hv<;>simp at hv;omega)|(simp at hv)
  have x4:∀ v∈K,n≤v:=by
   intro v hv
   have:=(aT.1 (mH v hv)).1
   rcases List.mem_append.1 this with h|h
   ·rcases List.mem_append.1 h with h|h
    ·obtain⟨l,hl,gq⟩:=aM.1 h
     obtain⟨p,_,rfl⟩:=aw.1 hl
     exact jN _ _ gq
    ·obtain⟨l,hl,gq⟩:=aM.1 h
     obtain⟨o,_,rfl⟩:=aw.1 hl
     exact MG gq
   ·simpa using (aT.1 h).2
  have jj:s6 (gu n K):=L5 x4 (by rw[← hK];exact DV _)
  have eH:=H6 (ks:=gu n K) hs.eA (n:=n) L4
  refine⟨c.eB (gu n K) s.H,⟨wx hs.eA jj,Ka hs.eA (vj hs.env live),hs.size,?_⟩,eH,?_⟩
  ·refine Mw hs.marks fun v hv L hL=>?_
   have e7:v<s.H.length:=by
    rcases aW v s.H.length with h|h
    ·exact h
    ·rw[hs.eA.out v 0 h]at hL;cases hL
   have:∃ i,fO (gu n K) v=some i:=by
    by_cases GR:v<n
    ·refine⟨v,HP jj ?_⟩
     unfold gu
     rw[ag (by simpa using GR)]
     simp[GR]
    ·have Sa:v∈K:=by
      rw[← hK]
      refine CF (aT.2 ⟨br _ (aT.2 ⟨hv,by simpa using ea.1 GR⟩),by simpa using e7⟩)
     obtain⟨i,hi⟩:=aD.1 Sa
     refine⟨n+i,HP jj ?_⟩
     unfold gu
     rw[aj (by simp)]
     simp[hi]
   obtain⟨i,hi⟩:=this
   rw[hi]
   simp only[aR]
   rw[wH hi]
   exact hL
  ·rw[Ep];simp[gu]
theorem KA{s:St}(hs:iQ G N c w s a)(S:List Nat):∃ c',iQ G N c' w (jh S s) a∧Step s.H.length c s.H w c' (jh S s).H w∧(jh S s).H.length=s.H.length:=by
 refine⟨c.eB (jw s.H S) s.H,⟨wx hs.eA Kz,Ka hs.eA hs.env,hs.size,?_⟩,H6 hs.eA Ky,FJ⟩
 have:=Mw (ks:=jw s.H S) (H:=s.H) (f:=id) hs.marks fun v _ L hL=>by
  have e7:v<s.H.length:=by
   rcases aW v s.H.length with h|h
   ·exact h
   ·rw[hs.eA.out v 0 h]at hL;cases hL
  have hk:=Ky (S:=S) v e7
  simp only[ai]at hk
  obtain⟨p,hp,e⟩:=hk
  simp only[Ctx.eB,id,hp,e]
  exact hL
 simpa[jh]using this
theorem YE{n:Nat}{d:D}{v:Nat}(hv:v∈wg n d):n≤v:=by
 unfold wg at hv
 split at hv
 ·split at hv
  ·simp at hv;omega
  ·simp at hv
 ·obtain⟨l,hl,gq⟩:=aM.1 hv
  obtain⟨d,_,rfl⟩:=aw.1 hl
  split at gq
  ·split at gq
   ·simp at gq;omega
   ·simp at gq
  ·simp at gq
 ·simp at hv
theorem Tp{H:U}(eA:eN G c H w){n:Nat}(hn:n≤H.length)(own:Nat){u:Value}{d:D}(hr:eu c w u d) :
  ∃ c',eN G c' (leave own n H d).2 w∧eu c' w u (leave own n H d).1∧Step n c H w c' (leave own n H d).2 w∧n≤(leave own n H d).2.length:=by
 unfold leave
 split
 ·exact⟨c,eA,hr,Step.refl _ _ _ _,hn⟩
 ·dsimp only
  generalize hK:dedup _=K
  have x4:∀ v∈K,n≤v:=by
   intro v hv
   rw[← hK]at hv
   have:=(aT.1 (yQ hv)).1
   rcases List.mem_append.1 this with h|h
   ·split at h
    ·simp at h
    ·exact YE h
    ·simpa using (aT.1 (aN h)).2
    ·simpa using (aT.1 h).2
   ·obtain⟨l,hl,gq⟩:=aM.1 h
    obtain⟨o,_,rfl⟩:=aw.1 hl
    exact MG gq
  have jj:s6 (gu n K):=L5 x4 (by rw[← hK];exact DV _)
  exact⟨c.eB (gu n K) H,wx eA jj,sO eA 40 hr,H6 eA L4,by rw[Ep];simp[gu]⟩
theorem TR(args:List D)(k:Nat):(om args).get k=(args[k]?).getD .any:=by
 have key:∀ (l:List D) (i k:Nat),Env.get ((l.zipIdx i).map fun p=>(p.2,p.1)) k=if k<i then .any else(l[k-i]?).getD .any:=by
  intro l
  induction l with
  | nil=>intro i k;simp[Env.get]
  | cons d l ih=>
   intro i k
   simp only[List.zipIdx_cons,List.map_cons,Env.p9]
   split
   ·rename_i e;subst e;simp
   ·rename_i e
    rw[ih (i+1) k]
    by_cases hk:k<i
    ·rw[if_pos (by omega),if_pos hk]
    ·rw[if_neg (by omega),if_neg hk]
     rw[show k-i=(k-(i+1))+1 by omega,dL]
 have:=key args 0 k
 simpa[om]using this
theorem Pp{vs:List Value}{args:List D}(hr:gD c w vs args)(n:Nat):iP c w (om args).get { tmps:=vs.toArray++Array.replicate (n-vs.toArray.size) undef,defers:=[] }:=fun k=>by
 rw[TR]
 have hl:=hr.length
 cases hk:args[k]? with
 | none=>exact .any _
 | some d=>
  have e7:k<vs.length:=by rw[hl];exact(af.1 hk).1
  have hv:vs[k]? = some vs[k]:=by simp[e7]
  have:=hr.get k vs[k] d hv hk
  simp only[aR]
  have e:(vs.toArray++Array.replicate (n-vs.toArray.size) undef).getD k undef=vs[k]:=by
   rw[bE,bP (by simpa using e7)]
   simp[e7]
  rw[e];exact this
theorem Tz{H:U}(h:eN G c H w){t:TypeId}(ha:lR P t=some false){x d:D}{u:Value}(hr:eu c w u x)(hk:qp x H=some d) :
  ∃ v,(Instr.loadAt t u).run P w = .ok v w∧eu c w v d∧∃ b o,u = .pointer (some ⟨b,o,none⟩):=by
 unfold qp at hk
 split at hk
 ·rename_i v g o
  split at hk
  ·rename_i t' cs fu
   have hv:=oW fu
   obtain⟨b,p,rfl,hc⟩:=Cm h hv hr
   obtain⟨u,hu,_,h2⟩:=Ek ha hc (d:=d) (by simpa using hk)
   exact⟨u,hu,h2,b,p,rfl⟩
  ·cases hk
 ·rename_i cs
  obtain⟨b,p,rfl,_,hc⟩:=th hr
  obtain⟨u,hu,_,h2⟩:=Ek ha hc hk
  exact⟨u,hu,h2,b,p,rfl⟩
 ·cases hk
theorem TA{H:U}(h:eN G c H w){t:TypeId}{n:Nat}(ha:lR P t=some true)(hs:iC P t=some n){x d:D}{u:Value}(hr:eu c w u x)(hk:qq n x H=some d) :
  ∃ v,(Instr.loadAt t u).run P w = .ok v w∧eu c w v d∧∃ b o,u = .pointer (some ⟨b,o,none⟩):=by
 unfold qq at hk
 split at hk
 ·rename_i v g o
  split at hk
  ·rename_i t' cs fu
   split at hk
   ·rename_i hle
    cases hk
    have hv:=oW fu
    obtain⟨b,p,rfl,hc⟩:=Cm h hv hr
    obtain⟨u,hu,h2⟩:=Em (n:=n) ha hs hc (by simp;omega)
    exact⟨u,hu,h2,b,p,rfl⟩
   ·cases hk
  ·cases hk
 ·rename_i cs
  split at hk
  ·rename_i hle
   cases hk
   obtain⟨b,p,rfl,_,hc⟩:=th hr
   obtain⟨u,hu,h2⟩:=Em (n:=n) ha hs hc hle
   exact⟨u,hu,h2,b,p,rfl⟩
  ·cases hk
 ·cases hk
def uG(tmps:Array Value):ResultVar→Sem Value
 | .tmp t=>pure (tmps.getD t undef)
 | .cell a t=>do loadVar t (← asAddr (tmps.getD a undef))
theorem Y1{s:St}(hs:iQ G N c w s a){x:ResultVar}{X:pS}(hx:cR P x=some X){d:D}(hd:wu s X=some d) :
  ∃ v,(uG a.tmps x).run P w = .ok v w∧eu c w v d:=by
 cases x with
 | tmp t=>
  cases hx
  simp only[wu,aq]at hd
  subst hd
  exact⟨_,rfl,hs.env t⟩
 | cell p t=>
  have hp:=hs.env p
  generalize hu:a.tmps.getD p undef=u at hp
  have key:∀ v,(Instr.loadAt t u).run P w = .ok v w→(∃ b o,u = .pointer (some ⟨b,o,none⟩))→(uG a.tmps (.cell p t)).run P w = .ok v w:=by
   rintro v h ⟨b,o,rfl⟩
   simpa[Instr.loadAt,Instr.sureAddr,asAddr,uG,hu]using h
  simp only[cR]at hx
  split at hx
  ·rename_i n F4 fL
   cases hx
   obtain⟨v,hv,hr,Gx⟩:=Tz hs.eA F4 hp hd
   exact⟨v,key v hv Gx,hr⟩
  ·rename_i n F4 fL
   cases hx
   obtain⟨v,hv,hr,Gx⟩:=TA hs.eA F4 fL hp hd
   exact⟨v,key v hv Gx,hr⟩
  ·cases hx
theorem HO{s:St}(hs:iQ G N c w s a):∀ (l:List ResultVar) {xs:List pS} {ds:List D},te P l=some xs→oV s xs=some ds →
  ∃ vs:List Value,(l.mapM (uG a.tmps)).run P w = .ok vs w∧gD c w vs ds
 | [],xs,ds,h1,h2=>by
  cases h1;cases h2
  exact⟨[],rfl,.nil⟩
 | x::l,xs,ds,h1,h2=>by
  simp only[te]at h1
  split at h1
  ·rename_i X Io hX GY
   cases h1
   simp only[oV]at h2
   split at h2
   ·rename_i d ds' hd pd
    cases h2
    obtain⟨v,hv,hr⟩:=Y1 hs hX hd
    obtain⟨vs,iA,re⟩:=HO hs l GY pd
    exact⟨v::vs,by simp[dt,hv,iA],.cons hr re⟩
   ·cases h2
  ·cases h1
theorem Y3{s:St}(hs:iQ G N c w s a){func:Func}{fn:ey}(hx:te P func.results.toList=some fn.results){d:D}(hd:AL.results fn s=some d) :
  ∃ v,(Go.results func a.tmps).run P w = .ok v w∧eu c w v d:=by
 have e:∀ vs:List Value,(func.results.toList.mapM (uG a.tmps)).run P w = .ok vs w→(Go.results func a.tmps).run P w = .ok (if h:vs.toArray.size=1 then vs.toArray[0]else .tuple vs.toArray) w:=by
  intro vs iA
  have h1:(func.results.mapM (uG a.tmps)).run P w = .ok vs.toArray w:=by
   rw[dB,Sem.run_map,iA];rfl
  have h2:Go.results func a.tmps=(do let vs ← func.results.mapM (uG a.tmps);pure (if h:vs.size=1 then vs[0]else .tuple vs)):=rfl
  rw[h2,Sem.run_bind,h1]
  rfl
 unfold AL.results at hd
 split at hd
 ·rename_i d' iq
  cases hd
  obtain⟨vs,iA,hr⟩:=HO hs _ hx iq
  cases hr with
  | cons h t=>
   cases t
   exact⟨_,e _ iA,h⟩
 ·rename_i ds fF iq
  cases hd
  obtain⟨vs,iA,hr⟩:=HO hs _ hx iq
  refine⟨_,e _ iA,?_⟩
  have hl:vs.toArray.size≠1:=by
   intro h1
   have h2:ds.length=1:=by rw[← hr.length];simpa using h1
   match ds,h2 with
   | [d],_=>exact fF d rfl
  rw[dif_neg hl]
  exact .tup vs ds hr.length hr.get
 ·cases hd
end
end Go.AL
namespace Go.AL
open Go
section
variable{P:Program}{G:GT}{c:Ctx}{H:U}{w:World}{env:e9}{a:Act}{N:Nat}
theorem J5(h:eN G c H w){v:Nat}{ob:Ob}(hv:H[v]? = some ob)(ha:ob.alive=true){L:Loc}(eC:c.ι v ob.gen=some L)(fH:L.gM=false)
  {w':World} (mI:w'.os=w.os∧w.drawn≤w'.drawn) (GK:w'.tape=w.tape) (kb:w'.output=w.output) (yq:w'.heap.size=w.heap.size) (jj:∀ b,b≠L.b→w'.heap[b]? = w.heap[b]?) :
  eN G c (H.set v .dead) w'∧Step H.length c H w c (H.set v .dead) w':=by
 have e7:=(af.1 hv).1
 have ya:jc c H v L:=⟨ob,hv,ha,eC⟩
 have sC:ju c H L.b:=⟨v,L,ya,fH,rfl⟩
 have hL:∀ u l,jc c (H.set v .dead) u l→u≠v∧jc c H u l:=by
  rintro u l ⟨o,ho,fr,hi⟩
  rw[nj e7]at ho
  split at ho
  ·cases ho;cases fr
  ·rename_i fF;exact⟨fF,o,ho,fr,hi⟩
 have nC:∀ b,ju c (H.set v .dead) b→ju c H b:=fun b ⟨u,l,hl,r⟩=>⟨u,l,(hL u l hl).2,r⟩
 have hs:Step H.length c H w c (H.set v .dead) w':=
  ⟨mI,GK,kb,by omega,rfl,fun _ h=>h,fun _ h=>.inl h,fun b _ hn=>jj b (fun e=>hn (e▸sC)),fun _ _ _ _ h=>h,fun b hb=>.inr (nC b hb)⟩
 have hr:∀ u d,eu c w u d→eu c w' u d:=fun u d hd=>hd.mr h.toHeapOK hs
 refine⟨{
  inj:=fun u u' l l' h1 h2=>h.inj u u' l l' (hL _ _ h1).2 (hL _ _ h2).2
  lt:=fun b hb=>by rw[yq];exact h.lt b (nC b hb)
  nF:=fun b hb=>h.nF b (nC b hb)
  iz:=fun b hb=>by rw[yq];exact h.iz b hb
  out:=fun u k hu=>h.out u k (by simpa using hu)
  jx:=fun u o k ho hk=>by
   rw[nj e7]at ho
   split at ho
   ·cases ho
    rcases hk with hk|⟨hk,_⟩<;>cases hk
   ·exact h.jx u o k ho hk
  ob:=fun u o ho=>by
   rw[nj e7]at ho
   split at ho
   ·cases ho;simp[fo]
   ·rename_i fF
    refine fo.nh (c:=c) (c':=c) rfl hr (fun l hl jB hd=>jj _ fun e=>fF (h.inj u v l L ⟨o,ho,hd,hl⟩ ya jB fH e)) (h.ob u o ho)
  gl:=fun g cs hg=>let ⟨a,b⟩:=h.gl g cs hg;⟨a,hr _ _ b⟩
  rt:=h.rt },hs⟩
theorem Tq{fn:Func}{tmps:Array Value}{R:Ending→World→Prop}:∀ {ms:List Nat} {ds:List Deferred} {H H1:U} {w:World},kf c ms ds→eN G c H w→kill ms H=some H1 →
  (∀ w1,eN G c H1 w1→Step H.length c H w c H1 w1→H1.length=H.length→LeavesIn (FW none) 0 P fn tmps R [] .returning w1)→LeavesInM (FW none) 0 P fn tmps R ds .returning w:=by
 intro ms
 induction ms with
 | nil=>
  intro ds H H1 w hm eA hk k
  cases hm
  cases hk
  exact k w eA (Step.refl _ _ _ _) rfl
 | cons v ms ih=>
  intro ds H H1 w hm eA hk k
  cases hm with
  | @cons _ _ ds L h1 h2 hm=>
   simp only[kill]at hk
   split at hk
   ·rename_i hv
    have fC:=eA.ob v _ hv
    simp only[Ob.gen]at fC
    rw[h1]at fC
    simp only[fo]at fC
    have hblk:=fC.resolve_left (by simp[h2])
    have e7:L.b<w.heap.size:=(aI.1 hblk).1
    obtain⟨k1,k2⟩:=J5 (w':={ w with heap:=w.heap.setIfInBounds L.b (.deferred none) }) eA hv rfl h1 h2 ⟨rfl,Nat.le_refl _⟩ rfl rfl (by simp) (fun b hb=>by rw[bt (dg hb)])
    refine⟨by simp,.inl ⟨L.b,{ w with heap:=w.heap.setIfInBounds L.b (.deferred none) },rfl,?_,?_⟩⟩
    ·simp[Instr.takeDeferred,getObj,setObj,Sem.run,hblk]
    ·refine ih hm k1 hk fun w1 q1 q2 q3=>k w1 q1 (k2.trans q2 (by simp)) (by rw[q3];simp)
   ·cases hk
theorem Zj(eA:eN G c H w)(he:iP c w env a){o:Oper}{io:fR}(hc:kg P G o=some io){v:Nat}{args:List D}(gQ:yieldOf env io=some (v,args)){rf:Nat}{e0:Env}(hv:H[v]? = some (.fy rf e0 .ready)) :
  ∃ (L:Loc) (r:Loop) (vs:List Value),c.ι v 0=some L∧L.gM=false∧w.heap[L.b]? = some (.loop r)∧gD c w vs args ∧
   (vs.length=r.params.size→(execOp a.eval o).run P w = .ok (.round L.b r.fn ((r.params.zip vs.toArray).foldl (fun tmps (t,a)=>tmps.setIfInBounds t a) r.tmps) r.assign r.body) w):=by
 unfold yieldOf at gQ
 split at gQ
 ·rename_i fx Oc
  split at gQ
  ·rename_i v' mf
   cases gQ
   obtain⟨cl,ho⟩:=JW hc rfl
   have C8:=hc
   unfold kg at hc
   simp only[ho,au,ae]at hc
   obtain⟨xs,nW,hc⟩:=hc
   have gw:=tf eA he cl.args.toList nW
   have jK:∃ x X,cl.callee = .value x∧cX G x=some X∧X=fx∧xs=Oc:=by
    split at hc
    ·split at hc
     ·exfalso
      simp only[aF,aq]at hc
      split at hc<;>cases hc
     ·cases hc
    ·rename_i x fF tL
     simp only[ae,aF,aq]at hc
     obtain⟨X,hX,hh⟩:=hc
     cases hh
     exact⟨x,fx,tL,hX,rfl,rfl⟩
    ·split at hc
     ·simp only[ae]at hc
      obtain⟨td,_,hc⟩:=hc
      split at hc
      ·simp only[ae]at hc
       obtain⟨i,_,z,_,ud,_,hc⟩:=hc
       split at hc
       ·split at hc
        ·cases hc
        ·cases hc
       ·cases hc
      ·cases hc
     ·cases hc
    ·split at hc
     ·simp only[ae]at hc
      obtain⟨td,_,hc⟩:=hc
      split at hc
      ·simp only[ae]at hc
       obtain⟨ud,_,hc⟩:=hc
       split at hc
       ·simp only[ae]at hc
        obtain⟨n,_,hc⟩:=hc
        split at hc
        ·cases hc
        ·cases hc
       ·cases hc
      ·cases hc
     ·cases hc
    ·split at hc
     ·split at hc
      ·cases hc
      ·cases hc
      ·cases hc
      ·cases hc
     ·cases hc
    ·cases hc
    ·cases hc
    ·cases hc
   obtain⟨x,X,tL,hX,rfl,rfl⟩:=jK
   have hr:=fY eA he hX
   rw[mf]at hr
   generalize hu:a.eval x=u at hr
   cases hr with
   | gv _ L eC fH=>
    have fC:=eA.ob v _ hv
    simp only[Ob.gen]at fC
    rw[eC]at fC
    simp only[fo]at fC
    obtain⟨_,r,hblk,_⟩:=fC
    refine⟨L,r,_,eC,fH,hblk,gw,fun fL=>?_⟩
    have e:cl.args.map a.eval=(cl.args.toList.map a.eval).toArray:=by cases cl.args;simp
    have R3:cl.args.size=r.params.size:=by simpa using fL
    simp only[execOp,ho,resolve,tL,hu,Deferred.ofValue,Sem.run_bind,Sem.run_pure,Result.andThen_ok,invoke,Instr.yield,Instr.getLoop,getObj,Sem.run,hblk]
    simp[Sem.run,hblk,R3,e]
  ·cases gQ
 ·cases gQ
theorem J':∀ (ps:List Tmp) (vs:List Value) (ds:List D) (tmps:Array Value) (e0:Env),gD c w vs ds→(∀ p∈ps,p<tmps.size)→(∀ k,eu c w (tmps.getD k undef) (e0.get k)) →
  ∀ k,eu c w (((ps.zip vs).foldl (fun(tmps:Array Value) (p:Tmp×Value)=>tmps.setIfInBounds p.1 p.2) tmps).getD k undef) ((oz ps ds e0).get k)
 | [],vs,ds,tmps,e0,_,_,h,k=>by simpa[oz]using h k
 | p::ps,[],ds,tmps,e0,hr,_,h,k=>by cases hr;simpa[oz]using h k
 | p::ps,v::vs,ds,tmps,e0,hr,hp,h,k=>by
  cases hr with
  | @cons _ d _ ds hd hr=>
   simp only[List.zip_cons_cons,cd,oz]
   refine J' ps vs ds (tmps.setIfInBounds p v) ((p,d)::e0) hr (fun q hq=>by simpa using hp q (by simp[hq])) (fun j=>?_) k
   have e7:p<tmps.size:=hp p (by simp)
   simp only[Env.p9]
   split
   ·rename_i e;subst e
    have:(tmps.setIfInBounds p v).getD p undef=v:=by simp[Array.getD,e7]
    rw[this];exact hd
   ·rename_i e
    have:(tmps.setIfInBounds p v).getD j undef=tmps.getD j undef:=by
     simp only[bE,bt e]
    rw[this];exact h j
theorem Kv:∀ (l:List (Tmp×Value)) (tmps:Array Value),(l.foldl (fun(tmps:Array Value) (p:Tmp×Value)=>tmps.setIfInBounds p.1 p.2) tmps).size=tmps.size
 | [],_=>rfl
 | p::l,tmps=>by simp only[cd];rw[Kv l];simp
def qG(G:GT)(N n:Nat)(fM:Bool)(c:Ctx)(H:U)(w:World)(R:Out→Prop)(Q:Exit→Act→World→Prop):Prop:=
 ∀ (o:Out) (c':Ctx) (w':World) (a':Act),R o→o.st.fM=fM→n≤o.st.H.length→iQ G N c' w' o.st a'→Step n c H w c' o.st.H w'→Q o.ex a' w'
theorem D6{s:St}(hs:iQ G N c w s a){v rf:Nat}{e0:Env}{st:nP}(hv:s.H[v]? = some (.fy rf e0 st)){L:Loc}(eC:c.ι v 0=some L) :
  ∃ r:Loop,w.heap[L.b]? = some (.loop r)∧L.gM=false∧(∀ k,eu c w (r.tmps.getD k undef) (e0.get k))∧(∃ M,G.rt rf=some (M,r.params,r.assign,r.body)∧M≤r.tmps.size)∧st.is r:=by
 have fC:=hs.eA.ob v _ hv
 simp only[Ob.gen]at fC
 rw[eC]at fC
 simp only[fo]at fC
 obtain⟨h1,r,h2,h3,h4,h5⟩:=fC
 rw[hs.eA.rt]at h4
 exact⟨r,h2,h1,h3,h4,h5⟩
theorem M6{s:St}(hs:iQ G N c w s a){v rf:Nat}{e0:Env}{st st':nP}(hv:s.H[v]? = some (.fy rf e0 st)){L:Loc}(eC:c.ι v 0=some L){r:Loop}(hr:w.heap[L.b]? = some (.loop r))
  (r':Loop) (h1:r'.tmps=r.tmps) (h2:r'.params=r.params) (h3:r'.assign=r.assign) (h4:r'.body=r.body) (h5:st'.is r') :
  iQ G N c { w with heap:=w.heap.setIfInBounds L.b (.loop r') } { s with H:=s.H.set v (.fy rf e0 st') } a∧Step s.H.length c s.H w c (s.H.set v (.fy rf e0 st')) { w with heap:=w.heap.setIfInBounds L.b (.loop r') } ∧
   (setObj L.b (.loop r')).run P w = .ok () { w with heap:=w.heap.setIfInBounds L.b (.loop r') }:=by
 obtain⟨r0,a1,a2,a3,⟨M,a4,a6⟩,a5⟩:=D6 hs hv eC
 rw[hr]at a1
 cases a1
 obtain⟨k1,k2⟩:=zQ hs.eA hv rfl rfl (ob':=.fy rf e0 st') rfl eC a2 (.loop r') (fun w' po pj=>by
  simp only[fo]
  refine⟨a2,r',po,fun k=>by rw[h1];exact pj _ _ (a3 k),⟨M,?_,by rw[h1];exact a6⟩,h5⟩
  rw[hs.eA.rt,a4,h2,h3,h4])
 exact⟨⟨k1,fun k=>(hs.env k).mr hs.eA.toHeapOK k2,hs.size,hs.marks⟩,k2,by simp[setObj,Sem.run,hr]⟩
theorem SI(ro:Option Nat)(l:Nat):(FW ro).inRound l=FW (some l):=rfl
theorem aah{s:St}{ro:Option Nat}{n:Nat}{o:Oper}{io:fR}{next:Act→World→Prop}{Q:Exit→Act→World→Prop}(hs:iQ G N c w s a)(hc:kg P G o=some io)
  (hd:nR N o.dst=true) {v rf:Nat} {args:List D} {e0:Env} (gQ:yieldOf s.env.get io=some (v,args)) (hv:s.H[v]? = some (.fy rf e0 .ready)) {M:Nat} {ps:Array Tmp} {ac bc:Code} (pc:G.rt rf=some (M,ps,ac,bc))
  (hlen:args.length=ps.size) (Dk:∀ p∈ps.toList,p<M) {Ra Rb:Out→Prop}
  (hA:∀ (ro:Option Nat) (n:Nat) (Q:Exit→Act→World→Prop) (c:Ctx) (w:World) (a:Act),iQ G M c w { env:=oz ps.toList args e0,H:=s.H,fM:=true } a →
   qG G M s.H.length true c s.H w Ra Q→ac.wpIn (FW ro) n P Q a w)
  (hn:∀ o,Ra o→o.stop=false∧∃ iS,o.st.H[v]? = some (.fy rf iS .ready))
  (hB:∀ s1 iS,Ra (.norm s1)→s1.fM=true→s1.H[v]? = some (.fy rf iS .ready)→∀ (ro:Option Nat) (n:Nat) (Q:Exit→Act→World→Prop) (c:Ctx) (w:World) (a:Act),iQ G M c w { s1 with H:=s1.H.set v (.fy rf iS .busy) } a →
   qG G M s1.H.length true c (s1.H.set v (.fy rf iS .busy)) w Rb Q→bc.wpIn (FW ro) n P Q a w)
  (hm:∀ o,Rb o→∃ iH,o.st.H[v]? = some (.fy rf iH .busy))
  (k:∀ (q:Out) (iH:Env) (c':Ctx) (w':World) (a':Act),Rb q→q.st.H[v]? = some (.fy rf iH .busy)→s.H.length≤q.st.H.length→iQ G N c' w' { s with env:=put s.env o.dst (.b !q.stop),H:=q.st.H.set v (.fy rf iH q.sS) } a' →
   Step s.H.length c s.H w c' (q.st.H.set v (.fy rf iH q.sS)) w'→next a' w'):o.wpIn (FW ro) n P a w next Q:=by
 obtain⟨L,r,vs,eC,fH,hblk,gw,gf⟩:=Zj hs.eA hs.env hc gQ hv
 obtain⟨r0,a1,_,a3,⟨M',a4,a6⟩,a5⟩:=D6 hs hv eC
 rw[hblk]at a1
 cases a1
 rw[pc]at a4
 cases a4
 have gq:v<s.H.length:=(af.1 hv).1
 have fL:vs.length=r.params.size:=by rw[gw.length];exact hlen
 refine⟨fun _ _=>trivial,?_⟩
 rw[Oper.semAt_plain (FW ro) a.eval o (uA hc),gf fL]
 refine⟨fun h=>by simp[Fence.wide]at h,roundIn_of_wpIn (F:=FW ro) trivial ?_⟩
 rw[SI]
 have KX:(r.params.zip vs.toArray).foldl (fun tmps (t,a)=>tmps.setIfInBounds t a) r.tmps=(r.params.toList.zip vs).foldl (fun(tmps:Array Value) (p:Tmp×Value)=>tmps.setIfInBounds p.1 p.2) r.tmps:=by
  rw[← Array.foldl_toList];simp
 refine hA (some L.b) _ _ c w _ ⟨hs.eA,fun j=>?_,?_,.nil⟩ ?_
 ·show eu c w (Array.getD ((r.params.zip vs.toArray).foldl (fun tmps (t,a)=>tmps.setIfInBounds t a) r.tmps) j undef) _
  rw[KX]
  exact J' _ _ _ _ _ gw (fun p hp=>aH (Dk p hp) a6) a3 j
 ·show M≤Array.size ((r.params.zip vs.toArray).foldl (fun tmps (t,a)=>tmps.setIfInBounds t a) r.tmps)
  rw[KX,Kv];exact a6
 ·intro o1 c1 w1 a1 su RS x8 kL sI
  obtain⟨LC,iS,kR⟩:=hn o1 su
  cases o1 with
  | exit=>cases LC
  | ret=>cases LC
  | norm s1=>
   have rk:c1.ι v 0=some L:=sI.old v 0 L gq eC
   obtain⟨r1,b1,b2,b3,_,b5⟩:=D6 kL kR rk
   have Og:r1.state = .ready∧r1.pending=none:=b5
   obtain⟨k1,k2,k3⟩:=M6 (P:=P) (st':=.busy) kL kR rk b1 { r1 with state:=.busy } rfl rfl rfl rfl rfl
   refine⟨{ w1 with heap:=w1.heap.setIfInBounds L.b (.loop { r1 with state:=.busy }) },?_,?_⟩
   ·have hg:(Instr.getLoop L.b).run P w1 = .ok r1 w1:=by simp[Instr.getLoop,getObj,Sem.run,b1]
    simp only[Instr.beginRound,Sem.run_bind,hg,Result.andThen_ok,k3,Og.1]
    simp
   ·refine hB s1 iS su RS kR (some L.b) _ _ c1 _ a1 k1 ?_
    intro o2 c2 w3 a3' sv afk vJ Dq vS
    obtain⟨iH,l3⟩:=hm o2 sv
    have Sc:v<s1.H.length:=aH gq x8
    have sJ:c2.ι v 0=some L:=vS.old v 0 L Sc rk
    obtain⟨r2,d1,d2,d3,_,d5⟩:=D6 Dq l3 sJ
    have key:∀ (j:Option Code),o2.sS.is { r2 with state:=if j.isNone then .ready else .done,pending:=j }→j.isNone = !o2.stop→∃ v w',(Instr.endRound L.b j).run P w3 = .ok v w'∧next (a.put o.dst v) w':=by
     intro j hj Rh
     obtain⟨e1,e2,e3⟩:=M6 (P:=P) (st':=o2.sS) Dq l3 sJ d1 { r2 with state:=if j.isNone then .ready else .done,pending:=j } rfl rfl rfl rfl hj
     have hg:(Instr.getLoop L.b).run P w3 = .ok r2 w3:=by simp[Instr.getLoop,getObj,Sem.run,d1]
     refine⟨.bool j.isNone,{ w3 with heap:=w3.heap.setIfInBounds L.b (.loop { r2 with state:=if j.isNone then .ready else .done,pending:=j }) },?_,?_⟩
     ·simp only[Instr.endRound,Sem.run_bind,hg,Result.andThen_ok,e3]
      rfl
     ·have QL:eu c2 { w3 with heap:=w3.heap.setIfInBounds L.b (.loop { r2 with state:=if j.isNone then .ready else .done,pending:=j }) } (.bool j.isNone) (.b !o2.stop):=by
       have:D.b (!o2.stop)=D.val (.bool j.isNone):=by rw[Rh]
       rw[this];exact .val _
      have eH:Step s.H.length c s.H w c2 (o2.st.H.set v (.fy rf iH o2.sS)) { w3 with heap:=w3.heap.setIfInBounds L.b (.loop { r2 with state:=if j.isNone then .ready else .done,pending:=j }) }:=
       (sI.trans (k2.trans (vS.trans e2 vJ) (Nat.le_refl _)) x8)
      refine k o2 iH c2 _ _ sv l3 (Nat.le_trans x8 vJ) (hs.next e1.eA eH hd QL) eH
    cases o2 with
    | norm s2=>exact key none ⟨rfl,rfl⟩ rfl
    | ret s2=>exact key (some .ret) ⟨rfl,rfl⟩ rfl
    | exit id s2=>exact key (some (.exit id)) ⟨rfl,rfl⟩ rfl
theorem Po{s:St}(hs:iQ G N c w s a){rf:Nat}{ps:Array Tmp}{ac bc:Code}(pc:G.rt rf=some (N,ps,ac,bc))(live:List Nat)(fn:FuncId) :
  ∃ (c2:Ctx) (w2:World) (L1 L2:Loc),(Instr.enterLoop fn a.tmps ps ac bc none).run P w = .ok (L2.b,[{ target:=.collected L1.b,args:=#[] }]) w2∧L1.gM=false∧L2.gM=false ∧
   c2.ι s.H.length 0=some L1∧c2.ι (s.H.length+1) 0=some L2∧eN G c2 (s.H ++ [.jv,.fy rf (forget live s.env) .ready]) w2∧Step s.H.length c s.H w c2 (s.H ++ [.jv,.fy rf (forget live s.env) .ready]) w2:=by
 obtain⟨ub,_,sI⟩:=DS hs.eA (jS.last s.H) (.deferred (some [])) .jv rfl rfl (fun _ hb=>by simp only[fo];exact .inr hb)
 simp only[Al.last]at ub sI
 generalize xU:c.set s.H.length 0 ⟨w.heap.size,0,0,false⟩=c1 at ub sI
 have rk:c1.ι s.H.length 0=some ⟨w.heap.size,0,0,false⟩:=by rw[← xU];exact Ctx.oB _ _ _ _
 generalize Dw:w.alloc (.deferred (some []))=w1 at ub sI
 have LD:w1.heap.size=w.heap.size+1:=by rw[← Dw];simp
 have x8:(s.H ++ [Ob.jv]).length=s.H.length+1:=by simp
 obtain⟨ka,_,nI⟩:=DS ub (jS.last (s.H ++ [.jv])) (.loop { state:=.ready,pending:=none,fn:=fn,tmps:=a.tmps,params:=ps,assign:=ac,body:=bc,defers:=w.heap.size }) (.fy rf (forget live s.env) .ready) rfl rfl (fun pj hb=>by
  simp only[fo]
  refine⟨trivial,_,hb,fun j=>pj _ _ ((vj hs.env live j).mr hs.eA.toHeapOK sI),⟨N,?_,hs.size⟩,rfl,rfl⟩
  rw[← pc,← ub.rt];rfl)
 simp only[Al.last,x8,bg,dS]at ka nI
 refine⟨_,_,⟨w.heap.size,0,0,false⟩,⟨w1.heap.size,0,0,false⟩,?_,rfl,rfl,?_,Ctx.oB _ _ _ _,ka,sI.trans nI (by omega)⟩
 ·subst Dw
  simp[Instr.enterLoop]
 ·rw[Ctx.pH _ _ (by omega)];exact rk
theorem aaf{s:St}{n:Nat}{Q:Exit→Act→World→Prop}(hs:iQ G N c w s a){g:Operand}{X:X}(hx:cX G g=some X){f:FuncId}{first cap:List D}(mf:ev s.env.get X = .fn (.func f) first cap)
  (ji:nB P f=true) {rf:Nat} {ps:Array Tmp} {ac bc:Code} (pc:G.rt rf=some (N,ps,ac,bc)) {live:List Nat} {R1:D→U→Prop} {R:Out→Prop}
  (gO:pL P G f (first ++ [.gv (s.H.length+1)]++cap) (s.H ++ [.jv,.fy rf (forget live s.env) .ready]) R1)
  (k:∀ d H',R1 d H'→∃ env st o,H'[s.H.length+1]? = some (.fy rf env st)∧uF { s with H:=H'.set (s.H.length+1) .dead,marks:=s.H.length::s.marks } st=some o∧R o)
  (hk:qG G N s.H.length s.fM c s.H w R Q):(Code.rangeFunc g ps ac bc).wpIn (FW none) n P Q a w:=by
 refine wpIn_rangeFunc fun fn _=>?_
 obtain⟨c2,w2,L1,L2,Q0,kR,l3,rk,sJ,ka,LA⟩:=Po (P:=P) hs pc live fn
 have Lr:∀ u d,eu c w u d→eu c2 w2 u d:=fun u d hd=>hd.mr hs.eA.toHeapOK LA
 have hr:=fY hs.eA hs.env hx
 rw[mf]at hr
 generalize hu:a.eval g=u at hr
 cases hr with
 | fn _ fs cs _ _ q1 q2 q3 q4=>
  have Su:eu c2 w2 (.func (.yield L2.b) #[] #[]) (.gv (s.H.length+1)):=.gv _ L2 sJ l3
  have gw:gD c2 w2 (fs ++ [Value.func (.yield L2.b) #[] #[]]++cs) (first ++ [.gv (s.H.length+1)]++cap):=
   ((gD.y6 q1 fun i v d h1 h2=>Lr _ _ (q3 i v d h1 h2)).append (.cons Su .nil)).append (gD.y6 q2 fun i v d h1 h2=>Lr _ _ (q4 i v d h1 h2))
  have vP:(resolve a.eval (rangeCall g L2.b) 0).run P w2 = .ok { target:=.fn (.func f) cs.toArray,args:=fs.toArray ++ #[Value.func (.yield L2.b) #[] #[]] } w2:=by
   simp[resolve,hu,Deferred.ofValue]
   rfl
  have hinv:(invoke (.fn (.func f) cs.toArray) (fs.toArray ++ #[Value.func (.yield L2.b) #[] #[]])).run P w2 = .ok (.enter f (fs ++ [Value.func (.yield L2.b) #[] #[]]++cs).toArray) w2:=by
   have h2:=Ej (P:=P) ji (fs ++ [Value.func (.yield L2.b) #[] #[]]++cs).toArray w2
   simpa[invoke]using h2
  have C8:=gO c2 w2 _ ka gw
  have jK:CallsIn (FW none) (n-1) P f (fs ++ [Value.func (.yield L2.b) #[] #[]]++cs).toArray w2 (rangePost (FW none) n P L2.b Q { a with defers:=[{ target:=.collected L1.b,args:=#[] }]++a.defers }):=by
   refine xn.2 (C8.mono ?_)
   rintro e w3 ⟨v,c3,d,H3,rfl,hR,hlen,Lk,_,vS⟩
   obtain⟨env,st,q,kj,kb,FZ⟩:=k d H3 hR
   have C6:(s.H ++ [Ob.jv,Ob.fy rf (forget live s.env) .ready]).length=s.H.length+2:=by simp
   have rk:c3.ι s.H.length 0=some L1:=vS.old _ 0 L1 (by rw[C6];omega) rk
   have sJ:c3.ι (s.H.length+1) 0=some L2:=vS.old _ 0 L2 (by rw[C6];omega) sJ
   have fC:=Lk.ob _ _ kj
   simp only[Ob.gen]at fC
   rw[sJ]at fC
   simp only[fo]at fC
   obtain⟨_,r3,F5,_,_,vH⟩:=fC
   have afi:L2.b<w3.heap.size:=(aI.1 F5).1
   obtain⟨m1,m2⟩:=J5 (w':={ w3 with heap:=w3.heap.setIfInBounds L2.b (.loop { r3 with state:=.exhausted }) }) Lk kj rfl sJ l3 ⟨rfl,Nat.le_refl _⟩ rfl rfl (by simp) (fun b hb=>by rw[bt (dg hb)])
   have vE:Step s.H.length c s.H w c3 (H3.set (s.H.length+1) .dead) { w3 with heap:=w3.heap.setIfInBounds L2.b (.loop { r3 with state:=.exhausted }) }:=
    LA.trans (vS.trans m2 hlen) (by rw[C6];omega)
   have Dt:iQ G N c3 { w3 with heap:=w3.heap.setIfInBounds L2.b (.loop { r3 with state:=.exhausted }) } { s with H:=H3.set (s.H.length+1) .dead,marks:=s.H.length::s.marks } { a with defers:=[{ target:=.collected L1.b,args:=#[] }]++a.defers }:=by
    refine⟨m1,fun j=>(hs.env j).mr hs.eA.toHeapOK vE,hs.size,.cons L1 rk kR (hs.marks.mono fun v L h=>vE.old v 0 L ?_ h)⟩
    rcases aW v s.H.length with h'|h'
    ·exact h'
    ·rw[hs.eA.out v 0 h']at h;cases h
   have Le:r3.state≠.busy:=by
    cases st with
    | busy=>cases kb
    | ready=>rw[vH.1];decide
    | tm=>rw[vH.1];decide
    | r9=>rw[vH.1];decide
   have KU:(Instr.endLoop L2.b).run P w3 = .ok r3.pending { w3 with heap:=w3.heap.setIfInBounds L2.b (.loop { r3 with state:=.exhausted }) }:=by
    have hg:(Instr.getLoop L2.b).run P w3 = .ok r3 w3:=by
     have:w3.heap[L2.b]? = some (.loop r3):=F5
     simp[Instr.getLoop,getObj,Sem.run,this]
    have Lw:(setObj L2.b (.loop { r3 with state:=.exhausted })).run P w3 = .ok () { w3 with heap:=w3.heap.setIfInBounds L2.b (.loop { r3 with state:=.exhausted }) }:=by
     have:w3.heap[L2.b]? = some (.loop r3):=F5
     simp[setObj,Sem.run,this]
    have QN:(r3.state == .busy)=false:=by
     generalize r3.state=x at Le
     cases x<;>first|rfl|exact absurd rfl Le
    simp only[Instr.endLoop,Sem.run_bind,hg,Result.andThen_ok,QN,Lw]
    simp[Lw]
   generalize ({ w3 with heap:=w3.heap.setIfInBounds L2.b (.loop { r3 with state:=.exhausted }) }:World)=W at Dt vE KU
   refine⟨r3.pending,W,KU,?_⟩
   have Gm:s.H.length≤(H3.set (s.H.length+1) .dead).length:=by
    rw[C6]at hlen
    simp;omega
   cases st with
   | busy=>cases kb
   | ready=>
    cases kb
    rw[vH.2]
    exact hk _ c3 _ _ FZ rfl Gm Dt vE
   | tm=>
    cases kb
    rw[vH.2]
    exact wpIn_ret (hk _ c3 _ _ FZ rfl Gm Dt vE)
   | r9 id=>
    cases kb
    rw[vH.2]
    exact wpIn_exit (hk _ c3 _ _ FZ rfl Gm Dt vE)
  exact⟨L2.b,_,w2,_,w2,f,_,w2,Q0,vP,fun _ _=>trivial,hinv,fun h=>by simp[Fence.wide]at h,jK⟩
