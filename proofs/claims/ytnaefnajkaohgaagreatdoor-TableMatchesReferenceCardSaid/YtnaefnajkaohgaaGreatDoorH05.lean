/- 5 -/
import Derived.Test.YtnaefnajkaohgaaGreatDoorH04
import Derived.Shelf.SlSortCmp.NoneTotal
set_option linter.all false
namespace Go.AL
open Go
def vI(A:Array Oper):Bool:=(List.range A.size).all fun i=>match A[i]? with
 | some o=>o.after.all fun e => !Region.binds .any e||decide (e.on<i)
 | none=>true
def u6(A:Array Oper)(ord:List (List Nat)):Bool:=(List.range A.size).all fun i=>match A[i]? with
 | some o=>(ord.getD i []).all fun k=>o.after.any fun e=>Region.binds .any e&&(e.on == k||(ord.getD e.on []).contains k)
 | none=>true
def Mw(l:List eT)(ord:List (List Nat))(iH:List (Nat×Nat)):Bool:=(List.range l.length).all fun i=>(List.range i).all fun k=>
 (ord.getD i []).contains k||(match l[k]?,l[i]? with
  | some a,some b=>vb a b&&(iH.contains (k,i)||Jn a.op b.op)
  | _,_=>false)
section
variable{P:Program}{G:GT}{A:Array Oper}{ord:List (List Nat)}
def U3(h:vI A=true){i:Nat}{o:Oper}(hi:A[i]? = some o){e:Edge}(he:e∈o.after)(hb:Region.binds .any e=true):e.on<i:=by
 have:=aq.1 h i (aY.2 (aM.1 hi).1)
 simp only[hi]at this
 have:=bZ.1 this e he
 simpa[hb]using this
def R7(h:u6 A ord=true){i:Nat}{o:Oper}(hi:A[i]? = some o){k:Nat}(hk:k∈ord.getD i []):∃ e∈o.after,Region.binds .any e=true∧(e.on=k∨k∈ord.getD e.on []):=by
 have:=aq.1 h i (aY.2 (aM.1 hi).1)
 simp only[hi]at this
 have:=aq.1 this k hk
 obtain⟨e,he,h2⟩:=Array.any_eq_true'.1 this
 simp only[ah,cg,beq_iff_eq,cV]at h2
 exact⟨e,he,h2.1,h2.2⟩
structure Left(A:Array Oper)(ord:List (List Nat))(rem:List mb)(listed:Array Bool):Prop where
 size:listed.size=A.size
 iff:∀ j,j<A.size→(listed.getD j true=false↔∃ it∈rem,it.k=j)
 sorted:rem.Pairwise fun p q=>p.k<q.k
 lt:∀ it∈rem,it.k<A.size
 down:∀ i,i<A.size→listed.getD i false=true→∀ k∈ord.getD i [],listed.getD k false=true
def aai{rem:List mb}{listed:Array Bool}(h:Left A ord rem listed){j:Nat}(hj:j<A.size):listed.getD j false=true∨∃ it∈rem,it.k=j:=by
 have oG:j<listed.size:=by rw[h.size];exact hj
 cases hb:listed.getD j true with
 | false=>exact .inr ((h.iff j hj).1 hb)
 | true=>left;simp[oG]at hb ⊢;exact hb
def aaL{rem:List mb}{listed:Array Bool}(h:Left A ord rem listed){it:mb}(je:it∈rem):listed.getD it.k false=false:=by
 have fq:=h.lt it je
 have:=(h.iff it.k fq).2 ⟨it,je,rfl⟩
 have oG:it.k<listed.size:=by rw[h.size];exact fq
 simp[oG]at this ⊢;exact this
def ME(he:vI A=true){it:mb}{rem:List mb}{listed:Array Bool}(h:Left A ord (it::rem) listed):it.k∈Region.ready .any A listed:=by
 rw[mem_ready]
 have fq:=h.lt it (by simp)
 refine⟨(h.iff it.k fq).2 ⟨it,by simp,rfl⟩,A[it.k],by simp[fq],fun e hm hb=>?_⟩
 have pB:=U3 he (i:=it.k) (o:=A[it.k]) (by simp[fq]) hm hb
 rcases aai h (show e.on<A.size by omega)with hl|⟨q,hq,hqk⟩
 ·exact hl
 ·exfalso
  rcases au.1 hq with rfl|hq
  ·omega
  ·have:=(aN.1 h.sorted).1 q hq
   omega
def IX(ho:u6 A ord=true){rem:List mb}{listed:Array Bool}(h:Left A ord rem listed){i:Nat}(hi:i∈Region.ready .any A listed){q:mb}(hq:q∈rem):q.k ∉ ord.getD i []:=by
 intro hk
 obtain⟨_,o,Lo,iF⟩:=mem_ready.1 hi
 obtain⟨e,hm,hb,hc⟩:=R7 ho Lo hk
 have pB:=iF e hm hb
 have hn:=aaL h hq
 rcases hc with hc|hc
 ·rw[hc]at pB;rw[pB]at hn;cases hn
 ·have fq:e.on<A.size:=by
   rcases bh e.on A.size with h'|h'
   ·exact h'
   ·have:listed.getD e.on false=false:=by
     have:listed.size≤e.on:=by rw[h.size];exact h'
     simp[dp this]
    rw[this]at pB;cases pB
  have:=h.down e.on fq pB q.k hc
  rw[this]at hn;cases hn
def LW(ho:u6 A ord=true){pre post:List mb}{it:mb}{listed:Array Bool}(h:Left A ord (pre++it::post) listed)(hi:it.k∈Region.ready .any A listed) :
  Left A ord (pre++post) (listed.setIfInBounds it.k true):=by
 have pW:(pre++post).Sublist (pre++it::post):=db (dq it post) pre
 have gw:∀ q∈pre++post,q.k≠it.k:=by
  intro q hq
  have:=bI.1 h.sorted
  rcases List.mem_append.1 hq with hq|hq
  ·have:=this.2.2 q hq it (by simp);omega
  ·have:=(aN.1 this.2.1).1 q hq;omega
 have fq:=h.lt it (by simp)
 refine⟨by simp[h.size],fun j hj=>?_,h.sorted.sublist pW,fun q hq=>h.lt q (pW.subset hq),fun i xH hl k hk=>?_⟩
 ·by_cases e:it.k=j
  ·subst e
   have:(listed.setIfInBounds it.k true).getD it.k true=true:=by
    have:it.k<listed.size:=by rw[h.size];exact fq
    simp[this]
   rw[this]
   constructor
   ·intro h;cases h
   ·rintro⟨q,hq,e⟩
    exact absurd e (gw q hq)
  ·rw[getD_set_ne true e,h.iff j hj]
   constructor
   ·rintro⟨q,hq,rfl⟩
    rcases List.mem_append.1 hq with hq|hq
    ·exact⟨q,aX _ hq,rfl⟩
    ·rcases au.1 hq with rfl|hq
     ·exact absurd rfl e
     ·exact⟨q,bE _ hq,rfl⟩
   ·rintro⟨q,hq,rfl⟩
    exact⟨q,pW.subset hq,rfl⟩
 ·by_cases e:it.k=i
  ·subst e
   obtain⟨_,o,Lo,iF⟩:=mem_ready.1 hi
   obtain⟨e,hm,hb,hc⟩:=R7 ho Lo hk
   have pB:=iF e hm hb
   rcases hc with rfl|hc
   ·exact getD_set_true pB
   ·have fq:e.on<A.size:=by
     rcases bh e.on A.size with h'|h'
     ·exact h'
     ·have:listed.getD e.on false=false:=by
       have:listed.size≤e.on:=by rw[h.size];exact h'
       simp[dp this]
      rw[this]at pB;cases pB
    exact getD_set_true (h.down e.on fq pB k hc)
  ·rw[getD_set_ne false e]at hl
   exact getD_set_true (h.down i xH hl k hk)
variable{C:FuncId→List D→D→U→Prop}{N:Nat}
def N7(n:Nat)(δ:Dl)(H:U):(ko n δ H).length=H.length:=by
 cases δ with
 | no=>rfl
 | cells v o xs=>simp only[ko,Dl.app];split<;>simp
 | obj v ob=>simp[ko,Dl.app]
 | new ob=>simp[ko,Dl.app,Al.kW]
theorem N1(hC:∀ g args d Hn,C g args d Hn→qj P g=true∧vi P G g args [] d Hn)(he:vI A=true)(ho:u6 A ord=true){ro:Option Nat}{m:Nat}{Q:Exit→Act→World→Prop}{ms:List Nat}{f':fQ}{H':U} :
  ∀ (fuel:Nat) (rem:List mb) (listed:Array Bool) (c:Ctx) (w:World) (f:fQ) (H:U) (a:Act),rem.length=fuel→Left A ord rem listed→SX G N c w f H ms a→Tx C f H rem f' H' →
   (∀ it∈rem,∃ o,A[it.k]? = some o∧tg P G N A o=some it.e) →
   (∀ p∈rem,∀ q∈rem,p.k<q.k→p.k∈ord.getD q.k []∨(vb p.e q.e=true∧sK p.rc q.rc=true)) →
   (∀ c' w' a',SX G N c' w' f' H' ms a'→Step H.length c H w c' H' w'→Q .normal a' w')→wpAnyIn (FW ro) m P .any A Q fuel listed a w
 | 0,rem,listed,c,w,f,H,a,hl,ly,hs,ht,_,_,hQ=>by
  have:rem = []:=a8 hl
  subst this
  cases ht
  refine⟨?_,hQ c w a hs (Step.refl _ _ _ _)⟩
  refine bQ.2 fun j hj=>?_
  obtain⟨h1,o,h2,_⟩:=mem_ready.1 hj
  obtain⟨it,je,_⟩:=(ly.iff j (aM.1 h2).1).1 h1
  cases je
 | fuel+1,rem,listed,c,w,f,H,a,hl,ly,hs,ht,uH,Cb,hQ=>by
  refine⟨fun h0=>?_,fun i hi=>?_⟩
  ·cases rem with
   | nil=>cases hl
   | cons it rem=>
    have:=ME he ly
    rw[h0]at this
    cases this
  ·obtain⟨h1,o,h2,_⟩:=mem_ready.1 hi
   obtain⟨it,je,rfl⟩:=(ly.iff i (aM.1 h2).1).1 h1
   obtain⟨pre,post,rfl⟩:=List.append_of_mem je
   have HX:∀ p∈pre,vb p.e it.e=true∧sK p.rc it.rc=true:=by
    intro p hp
    have fq:p.k<it.k:=(bI.1 ly.sorted).2.2 p hp it (by simp)
    rcases Cb p (aX _ hp) it (by simp) fq with h|h
    ·exact absurd h (IX ho ly hi (aX _ hp))
    ·exact h
   obtain⟨d,δ,hE,hT⟩:=ht.front HX
   obtain⟨o',Ll,KX⟩:=uH it (by simp)
   have pW:∀ q∈pre++post,q∈pre++it::post:=fun q hq=>(db (dq it post) pre).subset hq
   refine OT hC hs Ll KX hE fun c' w' a' fZ eX=>?_
   refine N1 hC he ho fuel (pre++post) _ c' w' _ _ a' (by simp at hl ⊢;omega) (LW ho ly hi) fZ hT (fun q hq=>uH q (pW q hq)) (fun p hp q hq=>Cb p (pW p hp) q (pW q hq)) fun c2 w2 a2 mJ qq=>?_
   rw[N7]at qq
   exact hQ c2 w2 a2 mJ (eX.trans qq (Nat.le_refl _))
theorem N3(he:vI A=true)(ho:u6 A ord=true){F:Fence}{m:Nat}{Q:Exit→Act→World→Prop} :
  ∀ (lasts:List mb) (ops:List Oper) (listed:Array Bool) (a:Act) (w:World),Left A ord lasts listed→(∀ q∈lasts,∀ k,k<q.k→k∈ord.getD q.k [])→lasts.map (fun q=>A[q.k]?)=ops.map some →
   wpListIn F m P A Q ops a w→wpAnyIn F m P .any A Q lasts.length listed a w
 | [],ops,listed,a,w,ly,_,uO,h=>by
  have:ops = []:=by simpa using uO.symm
  subst this
  refine⟨bQ.2 fun j hj=>?_,h⟩
  obtain⟨h1,o,h2,_⟩:=mem_ready.1 hj
  obtain⟨it,je,_⟩:=(ly.iff j (aM.1 h2).1).1 h1
  cases je
 | q::lasts,ops,listed,a,w,ly,hl,uO,h=>by
  cases ops with
  | nil=>simp at uO
  | cons o ops=>
   simp only[List.map_cons,cD]at uO
   refine⟨fun h0=>?_,fun i hi=>?_⟩
   ·have:=ME he ly
    rw[h0]at this
    cases this
   ·obtain⟨h1,o',h2,_⟩:=mem_ready.1 hi
    obtain⟨it,je,rfl⟩:=(ly.iff i (aM.1 h2).1).1 h1
    have je:it=q:=by
     rcases au.1 je with h|h
     ·exact h
     ·have fq:q.k<it.k:=(aN.1 ly.sorted).1 it h
      exact absurd (hl it (aS _ h) q.k fq) (IX ho ly hi (q:=q) (by simp))
    subst je
    have hn:=LW (pre:=[]) (post:=lasts) ho ly hi
    have ih:∀ a w,wpListIn F m P A Q ops a w→wpAnyIn F m P .any A Q lasts.length (listed.setIfInBounds it.k true) a w:=fun a w h=>
     N3 he ho lasts ops _ a w hn (fun q hq=>hl q (aS _ hq)) uO.2 h
    unfold wpOpIn
    simp only[uO.1]
    simp only[wpListIn]at h
    split
    ·rename_i hw
     simp only[hw,if_true]at h
     exact Oper.wpIn_mono ih h
    ·rename_i hw
     simp only[hw]at h
     exact⟨h.1,ih _ _ h.2⟩
theorem N2(hC:∀ g args d Hn,C g args d Hn→qj P g=true∧vi P G g args [] d Hn)(he:vI A=true)(ho:u6 A ord=true){ro:Option Nat}{m:Nat}{Q:Exit→Act→World→Prop}{ms:List Nat}{f':fQ}{H':U}{lasts:List mb}{ops:List Oper}
  (xL:∀ q∈lasts,∀ k,k<q.k→k∈ord.getD q.k []) (uO:lasts.map (fun q=>A[q.k]?)=ops.map some) :
  ∀ (fuel:Nat) (rem:List mb) (listed:Array Bool) (c:Ctx) (w:World) (f:fQ) (H:U) (a:Act),rem.length=fuel→Left A ord (rem++lasts) listed→SX G N c w f H ms a→Tx C f H rem f' H' →
   (∀ it∈rem,∃ o,A[it.k]? = some o∧tg P G N A o=some it.e) →
   (∀ p∈rem,∀ q∈rem,p.k<q.k→p.k∈ord.getD q.k []∨(vb p.e q.e=true∧sK p.rc q.rc=true)) →
   (∀ c' w' a',SX G N c' w' f' H' ms a'→Step H.length c H w c' H' w'→wpListIn (FW ro) m P A Q ops a' w')→wpAnyIn (FW ro) m P .any A Q (fuel+lasts.length) listed a w
 | 0,rem,listed,c,w,f,H,a,hl,ly,hs,ht,_,_,hQ=>by
  have:rem = []:=a8 hl
  subst this
  cases ht
  rw[aU]
  exact N3 he ho lasts ops listed a w ly xL uO (hQ c w a hs (Step.refl _ _ _ _))
 | fuel+1,rem,listed,c,w,f,H,a,hl,ly,hs,ht,uH,Cb,hQ=>by
  have kz:∀ q∈rem,∀ l∈lasts,q.k<l.k:=fun q hq l hl=>(bI.1 ly.sorted).2.2 q hq l hl
  rw[show fuel+1+lasts.length=(fuel+lasts.length)+1 by omega]
  refine⟨fun h0=>?_,fun i hi=>?_⟩
  ·cases rem with
   | nil=>cases hl
   | cons it rem=>
    have:=ME (rem:=rem++lasts) he ly
    rw[h0]at this
    cases this
  ·obtain⟨h1,o,h2,_⟩:=mem_ready.1 hi
   obtain⟨it,je,rfl⟩:=(ly.iff i (aM.1 h2).1).1 h1
   have je:it∈rem:=by
    rcases List.mem_append.1 je with h|h
    ·exact h
    ·cases rem with
     | nil=>cases hl
     | cons q rem=>exact absurd (xL it h q.k (kz q (by simp) it h)) (IX ho ly hi (q:=q) (by simp))
   obtain⟨pre,post,rfl⟩:=List.append_of_mem je
   have Lf:Left A ord (pre++it::(post++lasts)) listed:=by simpa using ly
   have HX:∀ p∈pre,vb p.e it.e=true∧sK p.rc it.rc=true:=by
    intro p hp
    have fq:p.k<it.k:=(bI.1 Lf.sorted).2.2 p hp it (by simp)
    rcases Cb p (aX _ hp) it (by simp) fq with h|h
    ·exact absurd h (IX ho Lf hi (aX _ hp))
    ·exact h
   obtain⟨d,δ,hE,hT⟩:=ht.front HX
   obtain⟨o',Ll,KX⟩:=uH it (by simp)
   have pW:∀ q∈pre++post,q∈pre++it::post:=fun q hq=>(db (dq it post) pre).subset hq
   refine OT hC hs Ll KX hE fun c' w' a' fZ eX=>?_
   refine N2 hC he ho xL uO fuel (pre++post) _ c' w' _ _ a' (by simp at hl ⊢;omega) (by simpa using LW ho Lf hi) fZ hT (fun q hq=>uH q (pW q hq)) (fun p hp q hq=>Cb p (pW p hp) q (pW q hq)) fun c2 w2 a2 mJ qq=>?_
   rw[N7]at qq
   exact hQ c2 w2 a2 mJ (eX.trans qq (Nat.le_refl _))
end
end Go.AL
namespace Go.AL
open Go
abbrev room(k:Nat):U:=List.replicate k .kW
section
variable{f:fQ}{H:U}{r:Nat}
def Hs(v:Nat)(o:Ob)(ho:o≠.kW):(H++room r)[v]? = some o↔H[v]? = some o:=by
 rcases bh v H.length with h|h
 ·rw[ag h]
 ·rw[ak h,aO h]
  constructor
  ·intro h1
   rw[di]at h1
   split at h1
   ·cases h1;exact absurd rfl ho
   ·cases h1
  ·intro h1;cases h1
def MI(v:Nat):rowsOf (H++room r) v=rowsOf H v:=by
 unfold rowsOf
 cases h:H[v]? with
 | none=>
  cases h2:(H++room r)[v]? with
  | none=>rfl
  | some o=>
   cases o<;>first|rfl|skip
   rw[Hs v _ (by simp)]at h2
   rw[h]at h2;cases h2
 | some o=>
  have:(H++room r)[v]? = some o:=by
   rw[ag (af.1 h).1];exact h
  rw[this]
def yn(v g:Nat):rowAt (H++room r) v g=rowAt H v g:=by rw[wz,wz,MI]
def Mc(v:Nat):kX (H++room r) v=kX H v:=by
 unfold kX
 cases h:H[v]? with
 | none=>
  cases h2:(H++room r)[v]? with
  | none=>rfl
  | some o=>
   cases o<;>first|rfl|skip
   rw[Hs v _ (by simp)]at h2
   rw[h]at h2;cases h2
 | some o=>
  have:(H++room r)[v]? = some o:=by
   rw[ag (af.1 h).1];exact h
  rw[this]
def M1(sz:Nat)(d:D):kY sz (H++room r) d=kY sz H d:=by
 cases d<;>first|rfl|skip
 simp only[kY,yn]
def TL(n:Nat)(op:gP):fG f (H++room r) n op=fG f H n op:=by
 cases op<;>simp only[fG]<;>first|rfl|skip
 case ld1=>simp only[tG,yn]
 case ldN=>simp only[tH,yn]
 case st1=>simp only[yB,yn]
 case stN=>simp only[yC,yn]
 case lookup=>simp only[x5,Mc]
 case mapUpd=>simp only[wu,Mc]
 case len=>simp only[oq,Mc]
 case b2s=>simp only[y8,M1]
 case app=>simp only[se,M1,yn]
 case copy=>simp only[ze,M1,yn]
def Db(k:Nat)(d:D):gv (H++room r) k d=gv H k d∧eP (fun _=>none) (H++room r) k d=eP (fun _=>none) H k d:=
 Da (H1:=H) (H2:=H++room r) k d fun v _=>(MI v).symm
def Ho(op:gP):fH f (H++room r) op=fH f H op:=by
 have key:∀ args:List D,args.map (gv (H++room r) 40)=args.map (gv H 40):=fun args=>aj fun d _=>(Db 40 d).1
 cases op<;>first|rfl|skip
 case call g args=>simp only[fH,key]
 case callN g args=>simp only[fH,key]
 case callv g args=>simp only[fH,key]
 case len k x=>cases k<;>rfl
def SH{v g:Nat}{x:TypeId×List D}(h:rowAt H v g=some x):v<H.length:=(af.1 (Dg h)).1
def aau{v:Nat}{x:KK×List (Value×D)}(h:kX H v=some x):v<H.length:=(af.1 (wm h)).1
def Safe(H:U):Dl→Prop
 | .no=>True
 | .cells v o xs=>∃ t g cs,H[v]? = some (.row t g cs)∧o+xs.length≤cs.length
 | .obj v _=>v<H.length
 | .new _=>True
def TM{op:gP}{n:Nat}{d:D}{δ:Dl}(h:fG f H n op=some (d,δ)):Safe H δ:=by
 have hl:∀ {o:Option D},lift o=some (d,δ)→Safe H δ:=fun h=>by rw[(lB h).2];trivial
 cases op<;>simp only[fG]at h<;>first|exact hl h|(cases h;done)|skip
 case box=>unfold po at h;split at h<;>cases h;trivial
 case alloc=>cases h;trivial
 case mkmap=>cases h;trivial
 case buildSl=>
  unfold vB at h
  split at h
  ·split at h<;>cases h;trivial
  ·cases h
 case mksl=>
  unfold z8 at h
  split at h
  ·split at h<;>cases h;trivial
  ·cases h
 case st1=>
  unfold yB at h
  split at h
  ·split at h
   ·rename_i v g o _ t cs gq
    split at h
    ·rename_i hc;cases h;exact⟨_,_,_,Dg gq,by simp;omega⟩
    ·cases h
   ·cases h
  ·cases h
 case stN=>
  unfold yC at h
  split at h
  ·split at h
   ·rename_i v g o xs _ _ t cs gq
    split at h
    ·rename_i hc;cases h;exact⟨_,_,_,Dg gq,by simp;omega⟩
    ·cases h
   ·cases h
  ·cases h
 case mapUpd=>
  unfold wu at h
  split at h
  ·split at h
   ·rename_i hm
    split at h
    ·cases h;exact aau hm
    ·cases h
   ·cases h
  ·cases h
 case app=>
  unfold se at h
  split at h
  ·split at h
   ·split at h
    ·rename_i gq
     split at h
     ·cases h;exact SH gq
     ·cases h
    ·cases h
   ·split at h
    ·cases h;trivial
    ·split at h
     ·cases h;trivial
     ·cases h
   ·cases h
  ·cases h
 case copy=>
  unfold ze at h
  split at h
  ·split at h
   ·rename_i gq
    split at h
    ·cases h;exact SH gq
    ·cases h
   ·cases h
  ·cases h;trivial
  ·cases h
def JG{δ:Dl}(hs:Safe H δ)(k:Nat)(hk:(δ.app H (Al.last H)).length≤k) :
  ko H.length δ (H++room (k-H.length))=δ.app H (Al.last H)++room (k-(δ.app H (Al.last H)).length)∧Fits H.length δ (H++room (k-H.length)):=by
 cases δ with
 | no=>exact⟨rfl,trivial⟩
 | cells v o xs=>
  obtain⟨t,g,cs,h1,h2⟩:=hs
  have fq:=(af.1 h1).1
  have h3:(H++room (k-H.length))[v]? = some (.row t g cs):=by rw[ag fq];exact h1
  refine⟨?_,t,g,cs,h3,h2⟩
  simp only[ko,Dl.app,h3,h1,cd]
  rw[cG _ _ fq]
 | obj v ob=>
  refine⟨?_,trivial⟩
  simp only[ko,Dl.app,cd]
  rw[cG _ _ hs]
 | new ob=>
  simp only[Dl.app,Al.last,ay,aI,cA,aU]at hk ⊢
  have e:k-H.length=(k-(H.length+1))+1:=by omega
  refine⟨?_,?_⟩
  ·simp only[ko,Dl.app,Al.kW]
   rw[e,room,bK,List.set_append_right _ _ (Nat.le_refl _)]
   simp[bj]
  ·show(H++room (k-H.length))[H.length]? = some .kW
   rw[e,ak (Nat.le_refl _)]
   simp[bK]
end
section
variable{G:GT}{c:Ctx}{w:World}{H:U}
def Iq{r v:Nat}{L:Loc}:kN c (H++room r) v L↔kN c H v L:=by
 constructor
 ·rintro⟨o,ho,ha,eR⟩
  rw[Hs v o (by rintro rfl;cases ha)]at ho
  exact⟨o,ho,ha,eR⟩
 ·rintro⟨o,ho,ha,eR⟩
  exact⟨o,(Hs v o (by rintro rfl;cases ha)).2 ho,ha,eR⟩
def Mv{r b:Nat}:lj c (H++room r) b↔lj c H b:=by
 constructor
 ·rintro⟨v,L,hl,r⟩;exact⟨v,L,Iq.1 hl,r⟩
 ·rintro⟨v,L,hl,r⟩;exact⟨v,L,Iq.2 hl,r⟩
def SF(h:e9 G c H w)(r:Nat):e9 G c (H++room r) w where
 inj v v' L L' h1 h2:=h.inj v v' L L' (Iq.1 h1) (Iq.1 h2)
 lt b hb:=h.lt b (Mv.1 hb)
 nF b hb:=h.nF b (Mv.1 hb)
 jG:=h.jG
 out v k hv:=h.out v k (by simp at hv;omega)
 lk v o k ho hk:=by
  rcases bh v H.length with hv|hv
  ·rw[ag hv]at ho;exact h.lk v o k ho hk
  ·exact h.out v k hv
 ob v o ho:=by
  rcases bh v H.length with hv|hv
  ·rw[ag hv]at ho;exact h.ob v o ho
  ·rw[ak hv,di]at ho
   split at ho
   ·cases ho
    simp only[gd]
    exact h.out v _ hv
   ·cases ho
 gl:=h.gl
 rt:=h.rt
def SG(r n:Nat):Step n c H w c (H++room r) w:=
 ⟨⟨rfl,Nat.le_refl _⟩,rfl,rfl,Nat.le_refl _,rfl,fun _ h=>h,fun _ h=>.inl h,fun _ _ _=>rfl,fun _ _ _ _ h=>h,fun _ h=>.inr (Mv.1 h)⟩
end
end Go.AL
namespace Go.AL
open Go Go.Proofs Go.Shelf Go.RowKit Go.Lib Go.Sort
structure uj(P:Program)(f:FuncId)(sz:Nat):Prop where
 pos:0<sz
 full:∀ (α:Type) [Inhabited α] (enc:α→List Value) (_:∀ x,(enc x).length=sz) (_:∀ x,∀ v∈enc x,v.oneCell'=true) (cf:α→α→Int) (_:SWO (ltOf cf)) (g mc off cap:Nat) (d:Array α) (w:World)
  (_:∀ args w,(callFunc g args).run P w = .ok (.enter g args) w) (_:CmpLays P g #[] enc sz cf mc off d.size w) (_:HoldsK enc sz w mc off d) (_:mc<w.heap.size) (_:d.size<4611686018427387904),
  Calls P f #[.slice (some ⟨mc,off,none⟩) d.size cap,.func (.func g) #[] #[]] w fun e w'=>e = .returned (.tuple #[])∧∃ d' n os,PermIn 0 d.size d d'∧SortedIn (ltOf cf) 0 d.size d'∧w'=sortWorldK enc sz w mc off n d' os
 none:∀ (p:Option Addr) (cap:Nat) (fv:Value) (w:World),Calls P f #[.slice p 0 cap,fv] w fun e w'=>e = .returned (.tuple #[])∧w'=w
def uj.of{P:Program}{ρ:Ren}(L:SlLaysF0.n6 P ρ){k:Nat}(hk:0<k)(aE:∀ w,(isAgg (ρ.t 24)).run P w = .ok true w)(zE:∀ w,(Go.sizeOf (ρ.t 24)).run P w = .ok k w):uj P (ρ.f 6) k where
 pos:=hk
 full α _ enc h1 h2 cf hO g mc off cap d w eg hc hH hb hs:=AnyQ.slices_SortFunc L k aE zE enc h1 h2 cf hO g #[] mc off cap d w eg hc hH hb hs
 none:=AnyF.slices_SortFunc_none L
section
variable{P:Program}{G:GT}{c:Ctx}{H:U}{w:World}{α:Type}
structure El(c:Ctx)(w:World)(fc:α→List D)(l:List α) where
 vs:List Value
 a:α
 mem:a∈l
 cells:Cells (c.data c.F) w vs (fc a)
def S3{β:Type}[Inhabited β](enc:β→List Value)(k mc off m:Nat)(dk:Array β)(os:Array Obj){b:Nat}(hb:b<w.heap.size)(hn:b≠mc):(sortWorldK enc k w mc off m dk os).heap[b]? = w.heap[b]? := by
 simp only[sortWorldK,grow,putRowK,putRow,mapBlock,Go.Sort.ahead]
 rw[bY (by simpa using hb),bL,if_neg (dx hn)]
def UZ(h:e9 G c H w){W:World}(hs:w.heap.size≤W.heap.size)(hk:∀ b,c.F b→W.heap[b]? = w.heap[b]?):e9 G (c.data c.F) [] W where
 inj v v' L L' h1:=by obtain⟨o,ho,_⟩:=h1;simp at ho
 lt b hb:=by obtain⟨v,L,⟨o,ho,_⟩,_⟩:=hb;simp at ho
 nF b hb:=by obtain⟨v,L,⟨o,ho,_⟩,_⟩:=hb;simp at ho
 jG b hb:=aK (h.jG b hb) hs
 out _ _ _:=rfl
 lk _ _ _ _ _:=rfl
 ob v o ho:=by simp at ho
 gl g cs hg:=by
  obtain⟨h1,h2⟩:=(G0 h).gl g cs hg
  exact⟨h1,eJ.carry (c:=c.data c.F) (c':=c.data c.F) (fun _ _ _ h=>h) (fun _ h=>h) (fun b o hF=>Bm (hk b hF)) h2⟩
 rt:=h.rt
def agZ{W w':World}(h:jq W w'):∃ q os',w'=grow (W.drewN q) os':=by
 obtain⟨⟨h1,h2⟩,h3,h4,h5,h6⟩:=h
 refine⟨w'.drawn-W.drawn,w'.heap.extract W.heap.size w'.heap.size,?_⟩
 cases w' with
 | mk hp tp dr o ou=>
  cases W with
  | mk sB tp' dr' o' ou'=>
   simp only at *
   subst h1 h3 h4
   simp only[grow,World.drewN]
   congr 1
   ·apply Array.ext_getElem?
    intro i
    rcases bh i sB.size with hi|hi
    ·rw[bY hi,h6 i hi]
    ·rw[Array.getElem?_append_right hi,Array.getElem?_extract]
     split
     ·congr 1;omega
     ·exact dp (by omega)
   ·omega
def iy.two{c:Ctx}{w:World}{vs:List Value}{d e:D}(h:iy c w vs [d,e]):∃ u v,vs = [u,v]∧eJ c w u d∧eJ c w v e:=by
 cases h with
 | cons h1 h=>cases h with
  | cons h2 h=>cases h;exact⟨_,_,rfl,h1,h2⟩
def agv{f g:FuncId}{sz:Nat}(hS:uj P f sz){x:D}{R:D→U→Prop}(k:R (.tup []) H):sU P G f [.eG,x] H R:=by
 intro c w vs eM hr
 obtain⟨u,v,rfl,h1,h2⟩:=iy.two hr
 cases h1
 refine(hS.none none 0 v w).mono ?_
 rintro e w' ⟨rfl,rfl⟩
 exact⟨_,c,_,H,rfl,k,Nat.le_refl _,eM,.tup [] [] rfl (fun i v d hv=>by simp at hv),Step.refl _ _ _ _⟩
def agw{f g:FuncId}{sz:Nat}(hS:uj P f sz)(hg:qj P g=true)(fc:α→List D)(l:List α)(hl:∀ a∈l,(fc a).length=sz)(fM:∀ a∈l,fu (fc a)=true)(h0:0<l.length)(tq:l.length<4611686018427387904)
  (cf:α→α→Int) (zX:∀ x∈l,¬ cf x x<0) (tr:∀ x∈l,∀ y∈l,∀ z∈l,cf x y<0→cf y z<0→cf x z<0) (nt:∀ x∈l,∀ y∈l,∀ z∈l,¬ cf x y<0→¬ cf y z<0→¬ cf x z<0)
  (hc:∀ x∈l,∀ y∈l,sU P G g [.agg (fc x),.agg (fc y)] [] fun d _=>d = .i (cf x y)) {v gen:Nat} {t:TypeId} (hv:H[v]? = some (.row t gen (l.map fc).flatten)) {R:D→U→Prop}
  (k:∀ l':List α,l'.Perm l→l'.Pairwise (fun x y=>¬ cf y x<0)→R (.tup []) (H.set v (.row t gen (l'.map fc).flatten))) :
  sU P G f [.eF v gen sz 0 l.length,.fn (.func g) [] []] H R:=by
 have jm:=hS.pos
 intro c w vs eM hr
 obtain⟨u,v1,rfl,h1,h2⟩:=iy.two hr
 clear hr
 have hn:l.length=l.length:=rfl
 revert hn
 generalize hN:l.length=N at h1
 intro hn
 have k9:v1 = .func (.func g) #[] #[]:=by
  cases h2 with
  | fn _ fs cs df dc iR iA _ _=>
   have e1:fs = []:=aB.1 iR
   have e2:cs = []:=aB.1 iA
   subst e1;subst e2;rfl
 subst k9
 clear h2
 cases h1 with
 | mm=>omega
 | eF _ _ _ _ _ cap L eR gE js jO lY=>
 have gA:=eM.ob v _ hv
 simp only[Ob.gen]at gA
 rw[eR]at gA
 simp only[gd,gE]at gA
 obtain⟨arr,my,LC,hlen,oX⟩:=gA
 have qo:(l.map fc).flatten.length=N*sz:=by
  rw[Hk sz _ (by simpa using hl),List.length_map,hN]
 rw[qo]at hlen
 have vX:lj c H L.b:=⟨v,L,⟨_,hv,rfl,eR⟩,gE,rfl⟩
 have hblk:=eM.lt _ vX
 have hmul:∀ i,i<N→L.base+i*sz+sz≤arr.size:=fun i hi=>by
  have:(i+1)*sz≤N*sz:=bq _ hi
  rw[bS]at this
  omega
 let mk:Fin l.length→El c w fc l:=fun i=>{
  vs:=(arr.toList.drop (L.base+i.val*sz)).take sz
  a:=l[i.val]
  mem:=bJ _
  cells:=by
   have hi:i.val<N:=by rw[← hN];exact i.isLt
   have hm:=hmul _ hi
   have vW:(fc l[i.val]).length=sz:=hl _ (bJ _)
   have hJ:∀ r,r<sz→∃ y d,((arr.toList.drop (L.base+i.val*sz)).take sz)[r]? = some y∧(fc l[i.val])[r]? = some d∧y.oneCell'=true∧eJ c w y d:=fun r hr=>by
    have hd:(l.map fc).flatten[i.val*sz+r]? = (fc l[i.val])[r]? := by
     rw[Hj sz jm _ (by simpa using hl),show(i.val*sz+r) / sz=i.val from by rw[de,Nat.mul_add_div jm,Nat.div_eq_of_lt hr];rfl,show(i.val*sz+r) % sz=r from by rw[de,Nat.mul_add_mod,dT hr]]
     simp
    have hx:(fc l[i.val])[r]? = some (fc l[i.val])[r]:=List.getElem?_eq_getElem (by omega)
    obtain⟨y,Y3,Y4,Y5⟩:=oX (i.val*sz+r) _ (hd.trans hx)
    refine⟨y,_,?_,hx,Y4,Y5⟩
    rw[aA,if_pos hr,aD,bB,← Y3]
    congr 1;omega
   have rI:((arr.toList.drop (L.base+i.val*sz)).take sz).length=sz:=by simp;omega
   refine⟨by rw[rI,vW],fun y hy=>?_,fun r y d hy hd=>?_⟩
   ·obtain⟨r,hr⟩:=aF.1 hy
    have kc:r<sz:=by have:=(af.1 hr).1;omega
    obtain⟨y',d,e1,_,e3,_⟩:=hJ r kc
    rw[hr]at e1;cases e1;exact e3
   ·have kc:r<sz:=by have:=(af.1 hy).1;omega
    obtain⟨y',d',e1,e2,_,e4⟩:=hJ r kc
    rw[hy]at e1;cases e1
    rw[hd]at e2;cases e2
    exact eJ.closed (c:=c) (c':=c.data c.F) (fun b hb=>hb) e4 (uz (fM _ (bJ _)) hd) }
 haveI:Inhabited (El c w fc l):=⟨mk ⟨0,h0⟩⟩
 let enc:El c w fc l→List Value:=fun e=>e.vs
 let d:Array (El c w fc l):=Array.ofFn mk
 have mh:d.size=N:=by simp[d,hN]
 have gH:∀ x:El c w fc l,(enc x).length=sz:=fun x=>by rw[show enc x=x.vs from rfl,x.cells.len,hl _ x.mem]
 have Lp:∀ x:El c w fc l,∀ y∈enc x,y.oneCell'=true:=fun x y hy=>x.cells.one y hy
 have Xi:d.toList.map (fun e=>e.a)=l:=by
  apply bP
  intro i
  simp only[d,av,bB,Array.getElem?_ofFn]
  by_cases hi:i<l.length
  ·simp[hi,mk]
  ·simp[hi]
 have hO:SWO (ltOf fun x y:El c w fc l=>cf x.a y.a):=by
  refine⟨fun x=>?_,fun x y z=>?_,fun x y z=>?_⟩
  ·simpa[ltOf]using zX x.a x.mem
  ·simpa[ltOf]using tr x.a x.mem y.a y.mem z.a z.mem
  ·simpa[ltOf]using nt x.a x.mem y.a y.mem z.a z.mem
 have zB:∀ j,w.cell? ⟨L.b,j,none⟩=arr[j]? := fun j=>by simp[World.cell?,my]
 have hH:HoldsK enc sz w L.b (L.base+0*sz) d:=by
  intro j hj
  have xI:j<N*sz:=by simpa[mh]using hj
  have hq:j / sz<N:=Nat.div_lt_of_lt_mul (by rw[de];exact xI)
  have hr:j % sz<sz:=Nat.mod_lt _ jm
  have hm:=hmul _ hq
  have hjj:j / sz*sz+j % sz=j:=by rw[de];exact Nat.div_add_mod j sz
  rw[get_flatK _ _ _ _ (by rw[mh];exact xI)]
  refine⟨?_,?_⟩
  ·have e1:d[j / sz]! = mk ⟨j / sz,by omega⟩:=by
    rw[getElem!_pos d (j / sz) (by omega)];simp[d]
   rw[zB,e1]
   show _=some (id ((arr.toList.drop (L.base+j / sz*sz)).take sz)[j % sz]!)
   rw[getElem!_pos _ (j % sz) (by simp;omega),List.getElem_take,List.getElem_drop,Array.getElem_toList,b9 (by omega)]
   simp only[id]
   congr 2;omega
  ·simp[World.frozen?,my]
 have Xb:CmpLays P g #[] enc sz (fun x y:El c w fc l=>cf x.a y.a) L.b (L.base+0*sz) d.size w:=by
  intro m os dk _ x y
  have hW:∀ b,c.F b→(sortWorldK enc sz w L.b (L.base+0*sz) m dk os).heap[b]? = w.heap[b]? := fun b hb=>S3 _ _ _ _ _ _ _ (eM.jG b hb) fun e=>eM.nF _ vX (e▸hb)
  have pU:e9 G (c.data c.F) [] (sortWorldK enc sz w L.b (L.base+0*sz) m dk os):=UZ eM (size_sortWorldK_c _ _ _ _ _ _ _ _) hW
  have qS:∀ x:El c w fc l,eJ (c.data c.F) (sortWorldK enc sz w L.b (L.base+0*sz) m dk os) (.agg (enc x).toArray) (.agg (fc x.a)):=fun x=>
   .agg _ _ x.cells.len x.cells.one fun i y d hy hd=>eJ.carry (c:=c.data c.F) (c':=c.data c.F) (fun _ _ _ h=>h) (fun _ h=>h) (fun b o hF=>Bm (hW b hF)) (x.cells.rep i y d hy hd)
  have:=hc x.a x.mem y.a y.mem _ _ _ pU (.cons (qS x) (.cons (qS y) .nil))
  rw[show(#[Value.agg (enc x).toArray,Value.agg (enc y).toArray] ++ #[]:Array Value) = [Value.agg (enc x).toArray,Value.agg (enc y).toArray].toArray by simp]
  refine Calls.mono this ?_
  rintro e w' ⟨u,c',d',H',he,rfl,_,_,hu,eX⟩
  cases hu
  exact⟨he,agZ (xt eX)⟩
 have eg:∀ args w,(callFunc g args).run P w = .ok (.enter g args) w:=Ja hg
 have iQ:=hS.full (El c w fc l) enc gH Lp _ hO g L.b (L.base+0*sz) cap d w eg Xb hH hblk (by omega)
 rw[mh]at iQ
 refine iQ.mono ?_
 rintro e w' ⟨rfl,d',n,os,⟨uP,_,zK⟩,YH,rfl⟩
 have nO:d'.size=N:=by rw[uP,mh]
 have Yj:(d'.toList.map fun e=>e.a).Perm l:=by
  refine List.Perm.trans (List.Perm.map _ ?_) (List.Perm.of_eq Xi)
  have e1:(d'.extract 0 N).toList=d'.toList:=by rw[← nO];simp
  have e2:(d.extract 0 N).toList=d.toList:=by rw[← mh];simp
  rw[e1,e2]at zK
  exact zK
 have Ys:(d'.toList.map fun e=>e.a).Pairwise fun x y=>¬ cf y x<0:=by
  rw[dm,aV]
  intro i j hi hj oZ
  have zF:i<d'.size:=by simpa using hi
  have xI:j<d'.size:=by simpa using hj
  have:=YH i j (Nat.zero_le _) oZ (by omega)
  rw[getElem!_pos d' j xI,getElem!_pos d' i zF]at this
  simpa[ltOf]using this
 have HQ:((d'.toList.map fun e=>e.a).map fc).flatten.length=N*sz:=by
  rw[Hk sz _ (fun x hx=>?_)]
  ·simp[nO]
  ·simp only[ao]at hx
   obtain⟨a,⟨e,_,rfl⟩,rfl⟩:=hx
   exact hl _ e.mem
 have hF:(flatK enc sz d').size=N*sz:=by rw[size_flatK,nO]
 have hF2:N*sz≤arr.size-L.base:=by omega
 obtain⟨w1,w2⟩:=DJ eM hv eR gE my (putCells id (L.base+0*sz) (flatK enc sz d') arr) (by simp[putCells]) LC ((d'.toList.map fun e=>e.a).map fc).flatten (by rw[HQ];exact hlen) (fun i dd hi=>by
  have zF:i<N*sz:=by rw[← HQ];exact(af.1 hi).1
  have hq:i / sz<N:=Nat.div_lt_of_lt_mul (by rw[de];exact zF)
  have hr:i % sz<sz:=Nat.mod_lt _ jm
  have hx:=d'[i / sz].cells
  rw[Hj sz jm _ (fun x hx=>by
   simp only[ao]at hx
   obtain⟨a,⟨e,_,rfl⟩,rfl⟩:=hx
   exact hl _ e.mem)]at hi
  have e1:(List.map fc (List.map (fun e=>e.a) d'.toList))[i / sz]? = some (fc d'[i / sz].a):=by
   simp only[av,bB]
   rw[b9 (by omega)];rfl
  rw[e1,Option.bind_some]at hi
  have gV:(d'[i / sz].vs).length=sz:=gH d'[i / sz]
  have e2:(d'[i / sz].vs)[i % sz]? = some (d'[i / sz].vs)[i % sz]:=List.getElem?_eq_getElem (by omega)
  refine⟨(d'[i / sz].vs)[i % sz],?_,hx.one _ (bJ _),eJ.closed (c:=c.data c.F) (c':=c) (fun b hb=>hb) (hx.rep _ _ _ e2 hi) (uz (fM _ d'[i / sz].mem) hi)⟩
  rw[putCells,eo,b9 (by omega),bn,if_pos ⟨by omega,by rw[hF];omega⟩]
  rw[show L.base+i-(L.base+0*sz)=i by omega,get_flatK _ _ _ _ (by rw[nO];exact zF),getElem!_pos d' (i / sz) (by omega)]
  show some (id (d'[i / sz].vs)[i % sz]!)=_
  rw[getElem!_pos _ (i % sz) (by omega)];rfl)
 have BW:jq (w.setRow L.b (putCells id (L.base+0*sz) (flatK enc sz d') arr)) (sortWorldK enc sz w L.b (L.base+0*sz) n d' os):=by
  refine⟨⟨rfl,Nat.le_add_right _ _⟩,rfl,rfl,?_,fun b hb=>?_⟩
  ·simp[World.setRow,sortWorldK,grow,putRowK,putRow,mapBlock,Go.Sort.ahead]
  ·have qM:b<w.heap.size:=by simpa[World.setRow]using hb
   by_cases rD:b=L.b
   ·subst rD
    rw[setRow_heap w L.b arr _ t _ my]
    simp only[sortWorldK,grow,putRowK,putRow,mapBlock,Go.Sort.ahead]
    rw[bY (by simpa using qM),bL,if_pos rfl,my]
    rfl
   ·rw[S3 _ _ _ _ _ _ _ qM rD]
    simp only[World.setRow,bL]
    rw[if_neg (dx rD)]
 exact⟨_,c,_,_,rfl,k _ Yj Ys,by simp,w1.oD BW,.tup [] [] rfl (fun i v d hv=>by simp at hv),w2.trans (Av _ BW) (Nat.le_refl _)⟩
end
end Go.AL
namespace Go.AL
open Go Go.Proofs Go.Shelf Go.RowKit Go.Lib Go.Sort
structure wY(P:Program)(f:FuncId):Prop where
 full:∀ (mc off cap:Nat) (zs:List Int) (w:World) (_:Holds (Value.int .i64) w mc off zs.toArray) (_:mc<w.heap.size) (_:zs.length<4611686018427387904),
  Calls P f #[.slice (some ⟨mc,off,none⟩) zs.length cap] w fun e w'=>e = .returned (.tuple #[])∧∃ n os,w'=grow (putRow (Value.int .i64) (Go.Sort.ahead w n) mc off (zs.mergeSort fun x y=>decide (x≤y)).toArray) os
section
variable{P:Program}{G:GT}{c:Ctx}{H:U}{w:World}
def agy{f:FuncId}(hS:wY P f)(l:List Int)(h0:0<l.length)(tq:l.length<4611686018427387904){v gen:Nat}{t:TypeId}(hv:H[v]? = some (.row t gen (l.map fun n=>D.i n))){R:D→U→Prop}
  (k:R (.tup []) (H.set v (.row t gen ((l.mergeSort fun x y=>decide (x≤y)).map fun n=>D.i n)))):sU P G f [.eF v gen 1 0 l.length] H R:=by
 intro c w vs eM hr
 cases hr with
 | @cons u _ _ _ h1 hr=>
 cases hr
 have hn:l.length=l.length:=rfl
 revert hn
 generalize hN:l.length=N at h1
 intro hn
 cases h1 with
 | mm=>omega
 | eF _ _ _ _ _ cap L eR gE js jO lY=>
 have gA:=eM.ob v _ hv
 simp only[Ob.gen]at gA
 rw[eR]at gA
 simp only[gd,gE]at gA
 obtain⟨arr,my,LC,hlen,oX⟩:=gA
 rw[List.length_map,hN]at hlen
 have vX:lj c H L.b:=⟨v,L,⟨_,hv,rfl,eR⟩,gE,rfl⟩
 have hblk:=eM.lt _ vX
 have zB:∀ j,w.cell? ⟨L.b,j,none⟩=arr[j]? := fun j=>by simp[World.cell?,my]
 have hH:Holds (Value.int .i64) w L.b (L.base+0*1) l.toArray:=by
  intro j hj
  have xI:j<l.length:=by simpa using hj
  obtain⟨y,h1,h2,h3⟩:=oX j (.i l[j]) (by simp[xI])
  cases h3
  refine⟨?_,by simp[World.frozen?,my]⟩
  rw[zB,show L.base+0*1+j=L.base+j by omega,h1]
  simp[xI]
 have iQ:=hS.full L.b (L.base+0*1) cap l w hH hblk tq
 rw[hN]at iQ
 refine iQ.mono ?_
 rintro e w' ⟨rfl,n,os,rfl⟩
 generalize mi:(l.mergeSort fun x y=>decide (x≤y))=l' at k ⊢
 have HQ:l'.length=N:=by rw[← mi,List.length_mergeSort,hN]
 obtain⟨w1,w2⟩:=DJ eM hv eR gE my (putCells (Value.int .i64) (L.base+0*1) l'.toArray arr) (by simp[putCells]) LC (l'.map fun n=>D.i n) (by rw[List.length_map,HQ];exact hlen) (fun i dd hi=>by
  rw[av]at hi
  obtain⟨a,ha,rfl⟩:=ai.1 hi
  have zF:i<l'.length:=(af.1 ha).1
  refine⟨.int .i64 a,?_,rfl,.val _⟩
  rw[putCells,eo,b9 (by omega),bn,if_pos ⟨by omega,by simp;omega⟩]
  rw[show L.base+i-(L.base+0*1)=i by omega,getElem!_pos l'.toArray i (by simpa using zF)]
  have:=(af.1 ha).2
  simp[this])
 have BW:jq (w.setRow L.b (putCells (Value.int .i64) (L.base+0*1) l'.toArray arr)) (grow (putRow (Value.int .i64) (Go.Sort.ahead w n) L.b (L.base+0*1) l'.toArray) os):=by
  refine⟨⟨rfl,Nat.le_add_right _ _⟩,rfl,rfl,?_,fun b hb=>?_⟩
  ·simp[World.setRow,grow,putRow,mapBlock,Go.Sort.ahead]
  ·have qM:b<w.heap.size:=by simpa[World.setRow]using hb
   simp only[grow,putRow,mapBlock,Go.Sort.ahead]
   rw[bY (by simpa using qM),bL]
   by_cases rD:L.b=b
   ·subst rD
    rw[setRow_heap w L.b arr _ t _ my,if_pos rfl,my]
    rfl
   ·simp only[World.setRow,bL]
    rw[if_neg rD,if_neg rD]
 exact⟨_,c,_,_,rfl,k,by simp,w1.oD BW,.tup [] [] rfl (fun i v d hv=>by simp at hv),w2.trans (Av _ BW) (Nat.le_refl _)⟩
end
end Go.AL
namespace Go.AL
open Go
def Out.ex:Out→Exit
 | .norm _=>.normal
 | .exit id _=>.exit id
 | .ret _=>.ret
def afe(A:Array Oper):List (List Nat):=A.toList.foldl (init:=[]) fun acc o=>
 acc ++ [dedup ((o.after.toList.filter fun e=>Region.binds .any e).flatMap fun e=>e.on::acc.getD e.on [])]
def afn(l:List eT)(ord:List (List Nat)):List (Nat×Nat):=(List.range l.length).flatMap fun i=>(List.range i).filterMap fun k=>
 if (ord.getD i []).contains k then none else match l[k]?,l[i]? with
  | some a,some b=>if Jn a.op b.op then none else some (k,i)
  | _,_=>none
def Re:List FuncId:=[227]
def Zq:gP→Bool
 | .call f _=>Re.contains f
 | .callN f _=>Re.contains f
 | _=>false
def Rf(l:List eT)(ord:List (List Nat))(n:Nat):Bool:=n<l.length&&(List.range l.length).all fun i=>decide (i<n)||(List.range i).all fun k=>(ord.getD i []).contains k
def OQ(iH:List (Nat×Nat))(l:List eT)(ord:List (List Nat)):IR:=
 let n:=l.findIdx fun e=>Zq e.op
 if Rf l ord n then .lF iH (l.take n) (l.drop n)else .kr iH l
def nq:Code→List (Array Tmp×Code×Code)
 | .seq a b=>nq a++nq b
 | .cond _ a b=>nq a++nq b
 | .block _ a=>nq a
 | .loop a=>nq a
 | .rangeFunc _ ps a b=>(ps,a,b)::(nq a++nq b)
 | _=>[]
def cC(P:Program)(G:GT)(N:Nat)(rf:Nat):List (List Nat)→Code→Option (IR×List (List Nat))
 | hs,.skip=>some (.skip,hs)
 | hs,.region _ ops false=>match n5 P G N ops ops.toList with
  | some l=>some (.ops l,hs)
  | none=>some (.bad,hs)
 | hs,.region _ ops true=>match n5 P G N ops ops.toList with
  | some l=>
   let ord:=afe ops
   let iH:=afn l ord
   if vI ops&&u6 ops ord&&Mw l ord iH then some (OQ iH l ord,hs)else some (.bad,hs)
  | none=>some (.bad,hs)
 | hs,.seq a b=>match cC P G N rf hs a with
  | some (x,mR)=>match cC P G N (rf+(nq a).length) mR b with
   | some (y,mJ)=>some (.seq x y,mJ)
   | none=>none
  | none=>none
 | hs,.cond c a b=>match cX G c with
  | some x=>match cC P G N rf hs a with
   | some (y,mR)=>match cC P G N (rf+(nq a).length) mR b with
    | some (z,mJ)=>some (.cond x y z,mJ)
    | none=>none
   | none=>none
  | none=>some (.bad,hs)
 | hs,.block id a=>match hs with
  | l::hs=>match cC P G N rf hs a with
   | some (x,mR)=>some (.block id l x,mR)
   | none=>none
  | []=>none
 | hs,.loop a=>match hs with
  | l::hs=>match cC P G N rf hs a with
   | some (x,mR)=>some (.loop l x,mR)
   | none=>none
  | []=>none
 | hs,.rangeFunc g _ _ _=>match cX G g,hs with
  | some x,l::hs=>some (.l5 rf l x,hs)
  | _,_=>some (.bad,hs)
 | hs,.exit id=>some (.exit id,hs)
 | hs,.ret=>some (.ret,hs)
 | hs,_=>some (.bad,hs)
inductive mF(P:Program)(G:GT)(N:Nat):IR→Code→Prop
 | skip:mF P G N .skip .skip
 | ops {l id A} (h:n5 P G N A A.toList=some l):mF P G N (.ops l) (.region id A false)
 | kr {iH l id A} (ord:List (List Nat)) (h:n5 P G N A A.toList=some l) (he:vI A=true) (ho:u6 A ord=true) (hp:Mw l ord iH=true):mF P G N (.kr iH l) (.region id A true)
 | lF {iH l es id A} (ord:List (List Nat)) (h:n5 P G N A A.toList=some (l++es)) (he:vI A=true) (ho:u6 A ord=true) (hp:Mw (l++es) ord iH=true) (vW:∀ i,l.length≤i→i<(l++es).length→∀ k,k<i→k∈ord.getD i []):mF P G N (.lF iH l es) (.region id A true)
 | seq {a b x y} (h1:mF P G N x a) (h2:mF P G N y b):mF P G N (.seq x y) (.seq a b)
 | cond {c a b x y z} (hc:cX G c=some x) (h1:mF P G N y a) (h2:mF P G N z b):mF P G N (.cond x y z) (.cond c a b)
 | block {id l a x} (h:mF P G N x a):mF P G N (.block id l x) (.block id a)
 | loop {l a x} (h:mF P G N x a):mF P G N (.loop l x) (.loop a)
 | l5 {rf l x g ps ac bc} (hx:cX G g=some x) (h:G.rt rf=some (N,ps,ac,bc)):mF P G N (.l5 rf l x) (.rangeFunc g ps ac bc)
 | exit {id}:mF P G N (.exit id) (.exit id)
 | ret:mF P G N .ret .ret
 | bad {c}:mF P G N .bad c
def wW(G:GT)(N rf:Nat)(code:Code):Prop:=∀ (i:Nat) (x:Array Tmp×Code×Code),(nq code)[i]? = some x→G.rt (rf+i)=some (N,x)
def wW.left{G:GT}{N rf:Nat}{a b:Code}{l:List (Array Tmp×Code×Code)}(hl:l=nq a++nq b)(h:∀ (i:Nat) (x:Array Tmp×Code×Code),l[i]? = some x→G.rt (rf+i)=some (N,x)):wW G N rf a∧wW G N (rf+(nq a).length) b:=by
 subst hl
 refine⟨fun i x hx=>h i x ?_,fun i x hx=>?_⟩
 ·rw[ag (af.1 hx).1];exact hx
 ·rw[a7]
  exact h _ x (by rw[ak (by omega)];simpa using hx)
def JP{P:Program}{G:GT}{N:Nat}:∀ {code:Code} {rf:Nat} {hs fZ:List (List Nat)} {ir:IR},wW G N rf code→cC P G N rf hs code=some (ir,fZ)→mF P G N ir code:=by
 intro code
 induction code with
 | skip=>intro rf hs fZ ir hR h;simp only[cC]at h;cases h;exact .skip
 | region id A kr=>
  intro rf hs fZ ir hR h
  cases kr
  ·simp only[cC]at h
   split at h
   ·rename_i l hl;cases h;exact .ops hl
   ·cases h;exact .bad
  ·simp only[cC]at h
   split at h
   ·rename_i l hl
    split at h
    ·rename_i hc
     cases h
     simp only[ah]at hc
     unfold OQ
     dsimp only
     split
     ·rename_i hL
      unfold Rf at hL
      simp only[ah,cg,decide_eq_true_eq,aq,aY,cV]at hL
      refine .lF _ (by rw[bC];exact hl) hc.1.1 hc.1.2 (by rw[bC];exact hc.2) fun i hi iZ k hk=>?_
      rw[bC]at iZ
      rw[aT]at hi
      rcases hL.2 i iZ with h|h
      ·omega
      ·exact h k hk
     ·exact .kr _ hl hc.1.1 hc.1.2 hc.2
    ·cases h;exact .bad
   ·cases h;exact .bad
 | seq a b oL tE=>
  intro rf hs fZ ir hR h
  obtain⟨vQ,vR⟩:=wW.left rfl hR
  simp only[cC]at h
  split at h
  ·rename_i x mR ha
   split at h
   ·rename_i y mJ hb;cases h;exact .seq (oL vQ ha) (tE vR hb)
   ·cases h
  ·cases h
 | cond c a b oL tE=>
  intro rf hs fZ ir hR h
  obtain⟨vQ,vR⟩:=wW.left rfl hR
  simp only[cC]at h
  split at h
  ·rename_i x hx
   split at h
   ·rename_i y mR ha
    split at h
    ·rename_i z mJ hb;cases h;exact .cond hx (oL vQ ha) (tE vR hb)
    ·cases h
   ·cases h
  ·cases h;exact .bad
 | block id a oL=>
  intro rf hs fZ ir hR h
  simp only[cC]at h
  split at h
  ·split at h
   ·rename_i x mR ha;cases h;exact .block (oL hR ha)
   ·cases h
  ·cases h
 | loop a oL=>
  intro rf hs fZ ir hR h
  simp only[cC]at h
  split at h
  ·split at h
   ·rename_i x mR ha;cases h;exact .loop (oL hR ha)
   ·cases h
  ·cases h
 | rangeFunc g ps a b oL tE=>
  intro rf hs fZ ir hR h
  simp only[cC]at h
  split at h
  ·rename_i x l mR hx
   cases h
   exact .l5 hx (hR 0 _ rfl)
  ·cases h;exact .bad
 | exit id=>intro rf hs fZ ir hR h;simp only[cC]at h;cases h;exact .exit
 | ret=>intro rf hs fZ ir hR h;simp only[cC]at h;cases h;exact .ret
 | _=>intro rf hs fZ ir hR h;simp only[cC]at h;cases h;exact .bad
def cR(P:Program):ResultVar→Option s8
 | .tmp t=>some (.tmp t)
 | .cell a t=>match oz P t,jL P t with
  | some false,some _=>some (.vD a)
  | some true,some n=>some (.qG n a)
  | _,_=>none
def w6(P:Program):List ResultVar→Option (List s8)
 | []=>some []
 | x::r=>match cR P x,w6 P r with
  | some a,some l=>some (a::l)
  | _,_=>none
def wB(P:Program)(k:Nat):Option (Nat×Array Tmp×Code×Code):=match P.funcs[k / 64]? with
 | some fn=>match fn.body with
  | some code=>(nq code)[k % 64]?.map fun x=>(fn.ntmps,x)
  | none=>none
 | none=>none
def afv{P:Program}{G:GT}(hG:G.rt=wB P){f:Nat}{fn:Func}{code:Code}(hf:P.funcs[f]? = some fn)(hb:fn.body=some code)(hl:(nq code).length≤64):wW G fn.ntmps (64*f) code:=by
 intro i x hx
 have hi:i<64:=aK (af.1 hx).1 hl
 rw[hG]
 unfold wB
 rw[show(64*f+i) / 64=f by omega,show(64*f+i) % 64=i by omega,hf]
 simp[hb,hx]
structure A1(P:Program)(G:GT)(f:FuncId)(fn:eI):Prop where
 ex:∃ func code hs fZ,P.funcs[f]? = some func∧func.body=some code∧qj P f=true∧(nq code).length≤64∧cC P G fn.ntmps (64*f) hs code=some (fn.body,fZ)∧func.ntmps=fn.ntmps∧w6 P func.results.toList=some fn.results
structure vr(P:Program)(G:GT)(rf:Nat)(R:oT):Prop where
 ex:∃ N ps ac bc,G.rt rf=some (N,ps,ac,bc)∧ps.toList=R.params∧(R.params.all fun p=>decide (p<N))=true∧mF P G N R.a ac∧mF P G N R.b bc
structure JB(P:Program)(G:GT)(T:gy):Prop where
 rt:G.rt=wB P
 fn:∀ f fn,T.fn f=some fn→A1 P G f fn
 round:∀ rf R,T.round rf=some R→vr P G rf R
 sort:∀ f sz,T.sort f=some sz→uj P f sz
 qB:∀ f,T.qB f=true→wY P f
def Gr(F:Fence)(n:Nat)(P:Program)(c:Code)(Q:Exit→Act→World→Prop)(a:Act)(w:World):Prop:=
 ∀ (b:Frame) (k:List Item) (cs:List Frame),b.roundOf=F.round→F.fn b.fn→F.room (cs.length+1+n) →
  ∃ e a' w',Q e a' w'∧ArrivesIn (Machine.fenced P F) P (lone (b.atR a (.code c :: .inLoop c::k)) cs w) b k cs e a' w'
section
variable{F:Fence}{n:Nat}{P:Program}{Q:Exit→Act→World→Prop}{a:Act}{w:World}
def aam{c:Code}(h:c.wpIn F n P (Exit.then (Gr F n P c Q) Q) a w):Gr F n P c Q a w:=by
 intro b k cs ia hb hr
 obtain⟨e,Bc,DK,hq,my⟩:=h b (.inLoop c::k) cs ia hb hr
 cases e with
 | normal=>
  obtain⟨Vo,TS,ag7,Yy,WZ⟩:=hq b k cs ia hb hr
  exact⟨Vo,TS,ag7,Yy,.of_steps (StepsIn.trans my (.one (fenced_calm hb hr rfl) stepR_inLoop)) WZ⟩
 | exit id=>exact⟨_,Bc,DK,hq,.pass (x:=.inLoop c) rfl (fun _ _=>.inl (by simp)) my⟩
 | goto l=>exact⟨_,Bc,DK,hq,.pass (x:=.inLoop c) rfl (fun _ _=>.inl (by simp)) my⟩
 | ret=>exact⟨_,Bc,DK,hq,.pass (x:=.inLoop c) rfl (fun _ _=>.inl (by simp)) my⟩
 | panic ch=>exact⟨_,Bc,DK,hq,.pass (x:=.inLoop c) rfl (fun _ _=>.inl (by simp)) my⟩
 | outgrown=>exact⟨_,Bc,DK,hq,.pass (x:=.inLoop c) rfl (fun _ _=>.inl (by simp)) my⟩
def ag0{c:Code}(h:Gr F n P c Q a w):(Code.loop c).wpIn F n P Q a w:=by
 intro b k cs ia hb hr
 obtain⟨e,a',w',hq,my⟩:=h b k cs ia hb hr
 exact⟨e,a',w',hq,.of_steps (.one (fenced_calm hb hr rfl) stepR_loop) my⟩
end
section
variable{P:Program}{G:GT}{c:Ctx}{w:World}{a:Act}{N:Nat}
def JF(δ:Dl)(H:U):H.length≤(δ.app H (Al.last H)).length:=by
 cases δ with
 | no=>exact Nat.le_refl _
 | cells v o xs=>simp only[Dl.app];split<;>simp
 | obj v ob=>simp[Dl.app]
 | new ob=>simp[Dl.app,Al.last]
def Jf(ks:lP)(H:U):(nV ks H).length=ks.length:=by simp[nV]
def RG{ks:lP}{H:U}{f:Nat→Nat}:∀ {vs:List Nat} {ds:List Deferred},kD c vs ds→(∀ v∈vs,∀ L,c.ι v 0=some L→(c.eP ks H).ι (f v) 0=some L)→kD (c.eP ks H) (vs.map f) ds:=by
 intro vs ds h
 induction h with
 | nil=>intro _;exact .nil
 | cons L h1 h2 _ ih=>intro hf;exact .cons L (hf _ (by simp) L h1) h2 (ih fun v hv=>hf v (by simp[hv]))
def Te{n:Nat}{d:D}{v:Nat}(hv:v∈gW n d):n≤v:=by
 cases d<;>simp only[gW]at hv<;>first|(split at hv<;>simp at hv;omega)|(simp at hv)
def RQ{n:Nat}{o:Ob}{v:Nat}(hv:v∈mT n o):n≤v:=by
 unfold mT at hv
 split at hv
 ·obtain⟨l2,iA,LF⟩:=aP.1 hv
  obtain⟨d,_,rfl⟩:=ao.1 iA
  exact Te LF
 ·obtain⟨l2,iA,LF⟩:=aP.1 hv
  obtain⟨d,_,rfl⟩:=ao.1 iA
  exact Te LF
 ·cases hv
def J4{s:St}(hs:jX G N c w s a){n:Nat}(hn:n≤s.H.length)(live:List Nat) :
  ∃ c',jX G N c' w (cut n live s) a∧Step n c s.H w c' (cut n live s).H w∧n≤(cut n live s).H.length:=by
 unfold cut
 split
 ·exact⟨c,⟨hs.eM,zg hs.env live,hs.size,hs.marks⟩,Step.refl _ _ _ _,hn⟩
 ·dsimp only
  generalize hK:dedup _=K
  have kz:∀ v∈K,v∈(((forget live s.env).map fun p=>gW n p.2).flatten++((s.H.take n).map (mT n)).flatten++s.marks.filter (n≤·)).filter (· < s.H.length):=fun v hv=>by
   rw[← hK]at hv;exact CN hv
  have lY:∀ (d:D) (v:Nat),v∈gW n d→n≤v:=by
   intro d v hv
   cases d<;>simp only[gW]at hv<;>first|(split at hv<;>simp at hv;omega)|(simp at hv)
  have BX:∀ v∈K,n≤v:=by
   intro v hv
   have:=(aH.1 (kz v hv)).1
   rcases List.mem_append.1 this with h|h
   ·rcases List.mem_append.1 h with h|h
    ·obtain⟨l,hl,gV⟩:=aP.1 h
     obtain⟨p,_,rfl⟩:=ao.1 hl
     exact lY _ _ gV
    ·obtain⟨l,hl,gV⟩:=aP.1 h
     obtain⟨o,_,rfl⟩:=ao.1 hl
     exact RQ gV
   ·simpa using (aH.1 h).2
  have kU:wM (ij n K):=Q4 BX (by rw[← hK];exact IH _)
  have eX:=MV (ks:=ij n K) hs.eM (n:=n) Q3
  refine⟨c.eP (ij n K) s.H,⟨An hs.eM kU,OW hs.eM (zg hs.env live),hs.size,?_⟩,eX,?_⟩
  ·refine RG hs.marks fun v hv L hL=>?_
   have fq:v<s.H.length:=by
    rcases bh v s.H.length with h|h
    ·exact h
    ·rw[hs.eM.out v 0 h]at hL;cases hL
   have:∃ i,ga (ij n K) v=some i:=by
    by_cases Ib:v<n
    ·refine⟨v,MH kU ?_⟩
     unfold ij
     rw[ag (by simpa using Ib)]
     simp[Ib]
    ·have YQ:v∈K:=by
      rw[← hK]
      refine G5 (aH.2 ⟨bE _ (aH.2 ⟨hv,by simpa using eC.1 Ib⟩),by simpa using fq⟩)
     obtain⟨i,hi⟩:=aF.1 YQ
     refine⟨n+i,MH kU ?_⟩
     unfold ij
     rw[ak (by simp)]
     simp[hi]
   obtain⟨i,hi⟩:=this
   rw[hi]
   simp only[aW]
   rw[AA hi]
   exact hL
  ·rw[Jf];simp[ij]
def Pu{s:St}(hs:jX G N c w s a)(S:List Nat):∃ c',jX G N c' w (kb S s) a∧Step s.H.length c s.H w c' (kb S s).H w∧(kb S s).H.length=s.H.length:=by
 refine⟨c.eP (kR s.H S) s.H,⟨An hs.eM Pt,OW hs.eM hs.env,hs.size,?_⟩,MV hs.eM Ps,Ks⟩
 have:=RG (ks:=kR s.H S) (H:=s.H) (f:=id) hs.marks fun v _ L hL=>by
  have fq:v<s.H.length:=by
   rcases bh v s.H.length with h|h
   ·exact h
   ·rw[hs.eM.out v 0 h]at hL;cases hL
  have hk:=Ps (S:=S) v fq
  simp only[ai]at hk
  obtain⟨p,hp,e⟩:=hk
  simp only[Ctx.eP,id,hp,e]
  exact hL
 simpa[kb]using this
def afg{n:Nat}{d:D}{v:Nat}(hv:v∈Ae n d):n≤v:=by
 unfold Ae at hv
 split at hv
 ·split at hv
  ·simp at hv;omega
  ·simp at hv
 ·obtain⟨l,hl,gV⟩:=aP.1 hv
  obtain⟨d,_,rfl⟩:=ao.1 hl
  split at gV
  ·split at gV
   ·simp at gV;omega
   ·simp at gV
  ·simp at gV
 ·simp at hv
def Z9{H:U}(eM:e9 G c H w){n:Nat}(hn:n≤H.length)(own:Nat){u:Value}{d:D}(hr:eJ c w u d) :
  ∃ c',e9 G c' (leave own n H d).2 w∧eJ c' w u (leave own n H d).1∧Step n c H w c' (leave own n H d).2 w∧n≤(leave own n H d).2.length:=by
 unfold leave
 split
 ·exact⟨c,eM,hr,Step.refl _ _ _ _,hn⟩
 ·dsimp only
  generalize hK:dedup _=K
  have BX:∀ v∈K,n≤v:=by
   intro v hv
   rw[← hK]at hv
   have:=(aH.1 (CN hv)).1
   rcases List.mem_append.1 this with h|h
   ·split at h
    ·simp at h
    ·exact afg h
    ·simpa using (aH.1 (aJ h)).2
    ·simpa using (aH.1 h).2
   ·obtain⟨l,hl,gV⟩:=aP.1 h
    obtain⟨o,_,rfl⟩:=ao.1 hl
    exact RQ gV
  have kU:wM (ij n K):=Q4 BX (by rw[← hK];exact IH _)
  exact⟨c.eP (ij n K) H,An eM kU,wx eM 40 hr,MV eM Q3,by rw[Jf];simp[ij]⟩
def aaB(args:List D)(k:Nat):(qY args).get k=(args[k]?).getD .any:=by
 have key:∀ (l:List D) (i k:Nat),Env.get ((l.zipIdx i).map fun p=>(p.2,p.1)) k=if k<i then .any else(l[k-i]?).getD .any:=by
  intro l
  induction l with
  | nil=>intro i k;simp[Env.get]
  | cons d l ih=>
   intro i k
   simp only[List.zipIdx_cons,List.map_cons,Env.tj]
   split
   ·rename_i e;subst e;simp
   ·rename_i e
    rw[ih (i+1) k]
    by_cases hk:k<i
    ·rw[if_pos (by omega),if_pos hk]
    ·rw[if_neg (by omega),if_neg hk]
     rw[show k-i=(k-(i+1))+1 by omega,cN]
 have:=key args 0 k
 simpa[qY]using this
def U'{vs:List Value}{args:List D}(hr:iy c w vs args)(n:Nat):jW c w (qY args).get { tmps:=vs.toArray++Array.replicate (n-vs.toArray.size) undef,defers:=[] }:=fun k=>by
 rw[aaB]
 have hl:=hr.length
 cases hk:args[k]? with
 | none=>exact .any _
 | some d=>
  have fq:k<vs.length:=by rw[hl];exact(af.1 hk).1
  have hv:vs[k]? = some vs[k]:=by simp[fq]
  have:=hr.get k vs[k] d hv hk
  simp only[aW]
  have e:(vs.toArray++Array.replicate (n-vs.toArray.size) undef).getD k undef=vs[k]:=by
   rw[bN,bY (by simpa using fq)]
   simp[fq]
  rw[e];exact this
def aaj{H:U}(h:e9 G c H w){t:TypeId}(ha:oz P t=some false){x d:D}{u:Value}(hr:eJ c w u x)(hk:tG x H=some d) :
  ∃ v,(Instr.loadAt t u).run P w = .ok v w∧eJ c w v d∧∃ b o,u = .pointer (some ⟨b,o,none⟩):=by
 unfold tG at hk
 split at hk
 ·rename_i v g o
  split at hk
  ·rename_i t' cs gq
   have hv:=rW gq
   obtain⟨b,p,rfl,hc⟩:=GJ h hv hr
   obtain⟨u,hu,_,h2⟩:=Jb ha hc (d:=d) (by simpa using hk)
   exact⟨u,hu,h2,b,p,rfl⟩
  ·cases hk
 ·rename_i cs
  obtain⟨b,p,rfl,_,hc⟩:=w9 hr
  obtain⟨u,hu,_,h2⟩:=Jb ha hc hk
  exact⟨u,hu,h2,b,p,rfl⟩
 ·cases hk
def aak{H:U}(h:e9 G c H w){t:TypeId}{n:Nat}(ha:oz P t=some true)(hs:jL P t=some n){x d:D}{u:Value}(hr:eJ c w u x)(hk:tH n x H=some d) :
  ∃ v,(Instr.loadAt t u).run P w = .ok v w∧eJ c w v d∧∃ b o,u = .pointer (some ⟨b,o,none⟩):=by
 unfold tH at hk
 split at hk
 ·rename_i v g o
  split at hk
  ·rename_i t' cs gq
   split at hk
   ·rename_i hle
    cases hk
    have hv:=rW gq
    obtain⟨b,p,rfl,hc⟩:=GJ h hv hr
    obtain⟨u,hu,h2⟩:=Jc (n:=n) ha hs hc (by simp;omega)
    exact⟨u,hu,h2,b,p,rfl⟩
   ·cases hk
  ·cases hk
 ·rename_i cs
  split at hk
  ·rename_i hle
   cases hk
   obtain⟨b,p,rfl,_,hc⟩:=w9 hr
   obtain⟨u,hu,h2⟩:=Jc (n:=n) ha hs hc hle
   exact⟨u,hu,h2,b,p,rfl⟩
  ·cases hk
 ·cases hk
def yl(tmps:Array Value):ResultVar→Sem Value
 | .tmp t=>pure (tmps.getD t undef)
 | .cell a t=>do loadVar t (← asAddr (tmps.getD a undef))
def afF{s:St}(hs:jX G N c w s a){x:ResultVar}{X:s8}(hx:cR P x=some X){d:D}(hd:Ak s X=some d) :
  ∃ v,(yl a.tmps x).run P w = .ok v w∧eJ c w v d:=by
 cases x with
 | tmp t=>
  cases hx
  simp only[Ak,ar]at hd
  subst hd
  exact⟨_,rfl,hs.env t⟩
 | cell p t=>
  have hp:=hs.env p
  generalize hu:a.tmps.getD p undef=u at hp
  have key:∀ v,(Instr.loadAt t u).run P w = .ok v w→(∃ b o,u = .pointer (some ⟨b,o,none⟩))→(yl a.tmps (.cell p t)).run P w = .ok v w:=by
   rintro v h ⟨b,o,rfl⟩
   simpa[Instr.loadAt,Instr.sureAddr,asAddr,yl,hu]using h
  simp only[cR]at hx
  split at hx
  ·rename_i n KR gH
   cases hx
   obtain⟨v,hv,hr,Lu⟩:=aaj hs.eM KR hp hd
   exact⟨v,key v hv Lu,hr⟩
  ·rename_i n KR gH
   cases hx
   obtain⟨v,hv,hr,Lu⟩:=aak hs.eM KR gH hp hd
   exact⟨v,key v hv Lu,hr⟩
  ·cases hx
theorem MG{s:St}(hs:jX G N c w s a):∀ (l:List ResultVar) {xs:List s8} {ds:List D},w6 P l=some xs→rU s xs=some ds →
  ∃ vs:List Value,(l.mapM (yl a.tmps)).run P w = .ok vs w∧iy c w vs ds
 | [],xs,ds,h1,h2=>by
  cases h1;cases h2
  exact⟨[],rfl,.nil⟩
 | x::l,xs,ds,h1,h2=>by
  simp only[w6]at h1
  split at h1
  ·rename_i X Ni hX LL
   cases h1
   simp only[rU]at h2
   split at h2
   ·rename_i d ds' hd mh
    cases h2
    obtain⟨v,hv,hr⟩:=afF hs hX hd
    obtain⟨vs,jH,sD⟩:=MG hs l LL mh
    exact⟨v::vs,by simp[dE,hv,jH],.cons hr sD⟩
   ·cases h2
  ·cases h1
def afH{s:St}(hs:jX G N c w s a){func:Func}{fn:eI}(hx:w6 P func.results.toList=some fn.results){d:D}(hd:AL.results fn s=some d) :
  ∃ v,(Go.results func a.tmps).run P w = .ok v w∧eJ c w v d:=by
 have e:∀ vs:List Value,(func.results.toList.mapM (yl a.tmps)).run P w = .ok vs w→(Go.results func a.tmps).run P w = .ok (if h:vs.toArray.size=1 then vs.toArray[0]else .tuple vs.toArray) w:=by
  intro vs jH
  have h1:(func.results.mapM (yl a.tmps)).run P w = .ok vs.toArray w:=by
   rw[dR,Sem.run_map,jH];rfl
  have h2:Go.results func a.tmps=(do let vs ← func.results.mapM (yl a.tmps);pure (if h:vs.size=1 then vs[0]else .tuple vs)):=rfl
  rw[h2,Sem.run_bind,h1]
  rfl
 unfold AL.results at hd
 split at hd
 ·rename_i d' iF
  cases hd
  obtain⟨vs,jH,hr⟩:=MG hs _ hx iF
  cases hr with
  | cons h t=>
   cases t
   exact⟨_,e _ jH,h⟩
 ·rename_i ds gw iF
  cases hd
  obtain⟨vs,jH,hr⟩:=MG hs _ hx iF
  refine⟨_,e _ jH,?_⟩
  have hl:vs.toArray.size≠1:=by
   intro h1
   have h2:ds.length=1:=by rw[← hr.length];simpa using h1
   match ds,h2 with
   | [d],_=>exact gw d rfl
  rw[dif_neg hl]
  exact .tup vs ds hr.length hr.get
 ·cases hd
end
end Go.AL
namespace Go.AL
open Go
section
variable{P:Program}{G:GT}{c:Ctx}{H:U}{w:World}{env:fQ}{a:Act}{N:Nat}
def OR(h:e9 G c H w){v:Nat}{ob:Ob}(hv:H[v]? = some ob)(ha:ob.alive=true){L:Loc}(eR:c.ι v ob.gen=some L)(gE:L.iM=false)
  {w':World} (pD:w'.os=w.os∧w.drawn≤w'.drawn) (LB:w'.tape=w.tape) (lX:w'.output=w.output) (Ci:w'.heap.size=w.heap.size) (kU:∀ b,b≠L.b→w'.heap[b]? = w.heap[b]?) :
  e9 G c (H.set v .dead) w'∧Step H.length c H w c (H.set v .dead) w':=by
 have fq:=(af.1 hv).1
 have B3:kN c H v L:=⟨ob,hv,ha,eR⟩
 have vX:lj c H L.b:=⟨v,L,B3,gE,rfl⟩
 have hL:∀ u l,kN c (H.set v .dead) u l→u≠v∧kN c H u l:=by
  rintro u l ⟨o,ho,gg,hi⟩
  rw[p6 fq]at ho
  split at ho
  ·cases ho;cases gg
  ·rename_i gw;exact⟨gw,o,ho,gg,hi⟩
 have qk:∀ b,lj c (H.set v .dead) b→lj c H b:=fun b ⟨u,l,hl,r⟩=>⟨u,l,(hL u l hl).2,r⟩
 have hs:Step H.length c H w c (H.set v .dead) w':=
  ⟨pD,LB,lX,by omega,rfl,fun _ h=>h,fun _ h=>.inl h,fun b _ hn=>kU b (fun e=>hn (e▸vX)),fun _ _ _ _ h=>h,fun b hb=>.inr (qk b hb)⟩
 have hr:∀ u d,eJ c w u d→eJ c w' u d:=fun u d hd=>hd.pd h.toHeapOK hs
 refine⟨{
  inj:=fun u u' l l' h1 h2=>h.inj u u' l l' (hL _ _ h1).2 (hL _ _ h2).2
  lt:=fun b hb=>by rw[Ci];exact h.lt b (qk b hb)
  nF:=fun b hb=>h.nF b (qk b hb)
  jG:=fun b hb=>by rw[Ci];exact h.jG b hb
  out:=fun u k hu=>h.out u k (by simpa using hu)
  lk:=fun u o k ho hk=>by
   rw[p6 fq]at ho
   split at ho
   ·cases ho
    rcases hk with hk|⟨hk,_⟩<;>cases hk
   ·exact h.lk u o k ho hk
  ob:=fun u o ho=>by
   rw[p6 fq]at ho
   split at ho
   ·cases ho;simp[gd]
   ·rename_i gw
    refine gd.pY (c:=c) (c':=c) rfl hr (fun l hl lA hd=>kU _ fun e=>gw (h.inj u v l L ⟨o,ho,hd,hl⟩ B3 lA gE e)) (h.ob u o ho)
  gl:=fun g cs hg=>let ⟨a,b⟩:=h.gl g cs hg;⟨a,hr _ _ b⟩
  rt:=h.rt },hs⟩
def Z'{fn:Func}{tmps:Array Value}{R:Ending→World→Prop}:∀ {ms:List Nat} {ds:List Deferred} {H H1:U} {w:World},kD c ms ds→e9 G c H w→kill ms H=some H1 →
  (∀ w1,e9 G c H1 w1→Step H.length c H w c H1 w1→H1.length=H.length→LeavesIn (FW none) 0 P fn tmps R [] .returning w1)→LeavesInM (FW none) 0 P fn tmps R ds .returning w:=by
 intro ms
 induction ms with
 | nil=>
  intro ds H H1 w hm eM hk k
  cases hm
  cases hk
  exact k w eM (Step.refl _ _ _ _) rfl
 | cons v ms ih=>
  intro ds H H1 w hm eM hk k
  cases hm with
  | @cons _ _ ds L h1 h2 hm=>
   simp only[kill]at hk
   split at hk
   ·rename_i hv
    have gA:=eM.ob v _ hv
    simp only[Ob.gen]at gA
    rw[h1]at gA
    simp only[gd]at gA
    have hblk:=gA.resolve_left (by simp[h2])
    have fq:L.b<w.heap.size:=(aM.1 hblk).1
    obtain⟨k1,k2⟩:=OR (w':={ w with heap:=w.heap.setIfInBounds L.b (.deferred none) }) eM hv rfl h1 h2 ⟨rfl,Nat.le_refl _⟩ rfl rfl (by simp) (fun b hb=>by rw[bF (dx hb)])
    refine⟨by simp,.inl ⟨L.b,{ w with heap:=w.heap.setIfInBounds L.b (.deferred none) },rfl,?_,?_⟩⟩
    ·simp[Instr.takeDeferred,getObj,setObj,Sem.run,hblk]
    ·refine ih hm k1 hk fun w1 q1 q2 q3=>k w1 q1 (k2.trans q2 (by simp)) (by rw[q3];simp)
   ·cases hk
def afZ(eM:e9 G c H w)(he:jW c w env a){o:Oper}{io:gP}(hc:mr P G o=some io){v:Nat}{args:List D}(iT:yieldOf env io=some (v,args)){rf:Nat}{e0:Env}(hv:H[v]? = some (.gu rf e0 .ready)) :
  ∃ (L:Loc) (r:Loop) (vs:List Value),c.ι v 0=some L∧L.iM=false∧w.heap[L.b]? = some (.loop r)∧iy c w vs args ∧
   (vs.length=r.params.size→(execOp a.eval o).run P w = .ok (.round L.b r.fn ((r.params.zip vs.toArray).foldl (fun tmps (t,a)=>tmps.setIfInBounds t a) r.tmps) r.assign r.body) w):=by
 unfold yieldOf at iT
 split at iT
 ·rename_i fx TR
  split at iT
  ·rename_i v' oY
   cases iT
   obtain⟨cl,ho⟩:=OF hc rfl
   have HE:=hc
   unfold mr at hc
   simp only[ho,ax,ae]at hc
   obtain⟨xs,qK,hc⟩:=hc
   have ie:=w7 eM he cl.args.toList qK
   have lU:∃ x X,cl.callee = .value x∧cX G x=some X∧X=fx∧xs=TR:=by
    split at hc
    ·split at hc
     ·exfalso
      simp only[aG,ar]at hc
      split at hc<;>cases hc
     ·cases hc
    ·rename_i x gw xB
     simp only[ae,aG,ar]at hc
     obtain⟨X,hX,hh⟩:=hc
     cases hh
     exact⟨x,fx,xB,hX,rfl,rfl⟩
    ·split at hc
     ·simp only[ae]at hc
      obtain⟨td,_,hc⟩:=hc
      split at hc
      ·simp only[ae]at hc
       obtain⟨i,_,z,_,ud,_,hc⟩:=hc
       split at hc
       ·split at hc
        ·cases hc
        ·cases hc
       ·cases hc
      ·cases hc
     ·cases hc
    ·split at hc
     ·simp only[ae]at hc
      obtain⟨td,_,hc⟩:=hc
      split at hc
      ·simp only[ae]at hc
       obtain⟨ud,_,hc⟩:=hc
       split at hc
       ·simp only[ae]at hc
        obtain⟨n,_,hc⟩:=hc
        split at hc
        ·cases hc
        ·cases hc
       ·cases hc
      ·cases hc
     ·cases hc
    ·split at hc
     ·split at hc
      ·cases hc
      ·cases hc
      ·cases hc
      ·cases hc
     ·cases hc
    ·cases hc
    ·cases hc
    ·cases hc
   obtain⟨x,X,xB,hX,rfl,rfl⟩:=lU
   have hr:=gX eM he hX
   rw[oY]at hr
   generalize hu:a.eval x=u at hr
   cases hr with
   | ic _ L eR gE=>
    have gA:=eM.ob v _ hv
    simp only[Ob.gen]at gA
    rw[eR]at gA
    simp only[gd]at gA
    obtain⟨_,r,hblk,_⟩:=gA
    refine⟨L,r,_,eR,gE,hblk,ie,fun gH=>?_⟩
    have e:cl.args.map a.eval=(cl.args.toList.map a.eval).toArray:=by cases cl.args;simp
    have YJ:cl.args.size=r.params.size:=by simpa using gH
    simp only[execOp,ho,resolve,xB,hu,Deferred.ofValue,Sem.run_bind,Sem.run_pure,Result.andThen_ok,invoke,Instr.yield,Instr.getLoop,getObj,Sem.run,hblk]
    simp[Sem.run,hblk,YJ,e]
  ·cases iT
 ·cases iT
theorem OV:∀ (ps:List Tmp) (vs:List Value) (ds:List D) (tmps:Array Value) (e0:Env),iy c w vs ds→(∀ p∈ps,p<tmps.size)→(∀ k,eJ c w (tmps.getD k undef) (e0.get k)) →
  ∀ k,eJ c w (((ps.zip vs).foldl (fun(tmps:Array Value) (p:Tmp×Value)=>tmps.setIfInBounds p.1 p.2) tmps).getD k undef) ((re ps ds e0).get k)
 | [],vs,ds,tmps,e0,_,_,h,k=>by simpa[re]using h k
 | p::ps,[],ds,tmps,e0,hr,_,h,k=>by cases hr;simpa[re]using h k
 | p::ps,v::vs,ds,tmps,e0,hr,hp,h,k=>by
  cases hr with
  | @cons _ d _ ds hd hr=>
   simp only[List.zip_cons_cons,cz,re]
   refine OV ps vs ds (tmps.setIfInBounds p v) ((p,d)::e0) hr (fun q hq=>by simpa using hp q (by simp[hq])) (fun j=>?_) k
   have fq:p<tmps.size:=hp p (by simp)
   simp only[Env.tj]
   split
   ·rename_i e;subst e
    have:(tmps.setIfInBounds p v).getD p undef=v:=by simp[Array.getD,fq]
    rw[this];exact hd
   ·rename_i e
    have:(tmps.setIfInBounds p v).getD j undef=tmps.getD j undef:=by
     simp only[bN,bF e]
    rw[this];exact h j
theorem Po:∀ (l:List (Tmp×Value)) (tmps:Array Value),(l.foldl (fun(tmps:Array Value) (p:Tmp×Value)=>tmps.setIfInBounds p.1 p.2) tmps).size=tmps.size
 | [],_=>rfl
 | p::l,tmps=>by simp only[cz];rw[Po l];simp
def ue(G:GT)(N n:Nat)(fW:Bool)(c:Ctx)(H:U)(w:World)(R:Out→Prop)(Q:Exit→Act→World→Prop):Prop:=
 ∀ (o:Out) (c':Ctx) (w':World) (a':Act),R o→o.st.fW=fW→n≤o.st.H.length→jX G N c' w' o.st a'→Step n c H w c' o.st.H w'→Q o.ex a' w'
def IW{s:St}(hs:jX G N c w s a){v rf:Nat}{e0:Env}{st:qb}(hv:s.H[v]? = some (.gu rf e0 st)){L:Loc}(eR:c.ι v 0=some L) :
  ∃ r:Loop,w.heap[L.b]? = some (.loop r)∧L.iM=false∧(∀ k,eJ c w (r.tmps.getD k undef) (e0.get k))∧(∃ M,G.rt rf=some (M,r.params,r.assign,r.body)∧M≤r.tmps.size)∧st.is r:=by
 have gA:=hs.eM.ob v _ hv
 simp only[Ob.gen]at gA
 rw[eR]at gA
 simp only[gd]at gA
 obtain⟨h1,r,h2,h3,h4,h5⟩:=gA
 rw[hs.eM.rt]at h4
 exact⟨r,h2,h1,h3,h4,h5⟩
def Sl{s:St}(hs:jX G N c w s a){v rf:Nat}{e0:Env}{st st':qb}(hv:s.H[v]? = some (.gu rf e0 st)){L:Loc}(eR:c.ι v 0=some L){r:Loop}(hr:w.heap[L.b]? = some (.loop r))
  (r':Loop) (h1:r'.tmps=r.tmps) (h2:r'.params=r.params) (h3:r'.assign=r.assign) (h4:r'.body=r.body) (h5:st'.is r') :
  jX G N c { w with heap:=w.heap.setIfInBounds L.b (.loop r') } { s with H:=s.H.set v (.gu rf e0 st') } a∧Step s.H.length c s.H w c (s.H.set v (.gu rf e0 st')) { w with heap:=w.heap.setIfInBounds L.b (.loop r') } ∧
   (setObj L.b (.loop r')).run P w = .ok () { w with heap:=w.heap.setIfInBounds L.b (.loop r') }:=by
 obtain⟨r0,a1,a2,a3,⟨M,a4,a6⟩,a5⟩:=IW hs hv eR
 rw[hr]at a1
 cases a1
 obtain⟨k1,k2⟩:=DI hs.eM hv rfl rfl (ob':=.gu rf e0 st') rfl eR a2 (.loop r') (fun w' sE qS=>by
  simp only[gd]
  refine⟨a2,r',sE,fun k=>by rw[h1];exact qS _ _ (a3 k),⟨M,?_,by rw[h1];exact a6⟩,h5⟩
  rw[hs.eM.rt,a4,h2,h3,h4])
 exact⟨⟨k1,fun k=>(hs.env k).pd hs.eM.toHeapOK k2,hs.size,hs.marks⟩,k2,by simp[setObj,Sem.run,hr]⟩
def Zn(ro:Option Nat)(l:Nat):(FW ro).inRound l=FW (some l):=rfl
def ag5{s:St}{ro:Option Nat}{n:Nat}{o:Oper}{io:gP}{next:Act→World→Prop}{Q:Exit→Act→World→Prop}(hs:jX G N c w s a)(hc:mr P G o=some io)
  (hd:qH N o.dst=true) {v rf:Nat} {args:List D} {e0:Env} (iT:yieldOf s.env.get io=some (v,args)) (hv:s.H[v]? = some (.gu rf e0 .ready)) {M:Nat} {ps:Array Tmp} {ac bc:Code} (sx:G.rt rf=some (M,ps,ac,bc))
  (hlen:args.length=ps.size) (HY:∀ p∈ps.toList,p<M) {Ra Rb:Out→Prop}
  (hA:∀ (ro:Option Nat) (n:Nat) (Q:Exit→Act→World→Prop) (c:Ctx) (w:World) (a:Act),jX G M c w { env:=re ps.toList args e0,H:=s.H,fW:=true } a →
   ue G M s.H.length true c s.H w Ra Q→ac.wpIn (FW ro) n P Q a w)
  (hn:∀ o,Ra o→o.stop=false∧∃ ka,o.st.H[v]? = some (.gu rf ka .ready))
  (hB:∀ s1 ka,Ra (.norm s1)→s1.fW=true→s1.H[v]? = some (.gu rf ka .ready)→∀ (ro:Option Nat) (n:Nat) (Q:Exit→Act→World→Prop) (c:Ctx) (w:World) (a:Act),jX G M c w { s1 with H:=s1.H.set v (.gu rf ka .busy) } a →
   ue G M s1.H.length true c (s1.H.set v (.gu rf ka .busy)) w Rb Q→bc.wpIn (FW ro) n P Q a w)
  (hm:∀ o,Rb o→∃ jU,o.st.H[v]? = some (.gu rf jU .busy))
  (k:∀ (q:Out) (jU:Env) (c':Ctx) (w':World) (a':Act),Rb q→q.st.H[v]? = some (.gu rf jU .busy)→s.H.length≤q.st.H.length→jX G N c' w' { s with env:=put s.env o.dst (.b !q.stop),H:=q.st.H.set v (.gu rf jU q.tS) } a' →
   Step s.H.length c s.H w c' (q.st.H.set v (.gu rf jU q.tS)) w'→next a' w'):o.wpIn (FW ro) n P a w next Q:=by
 obtain⟨L,r,vs,eR,gE,hblk,ie,ig⟩:=afZ hs.eM hs.env hc iT hv
 obtain⟨r0,a1,_,a3,⟨M',a4,a6⟩,a5⟩:=IW hs hv eR
 rw[hblk]at a1
 cases a1
 rw[sx]at a4
 cases a4
 have gV:v<s.H.length:=(af.1 hv).1
 have gH:vs.length=r.params.size:=by rw[ie.length];exact hlen
 refine⟨fun _ _=>trivial,?_⟩
 rw[Oper.semAt_plain (FW ro) a.eval o (yd hc),ig gH]
 refine⟨fun h=>by simp[Fence.wide]at h,roundIn_of_wpIn (F:=FW ro) trivial ?_⟩
 rw[Zn]
 have PZ:(r.params.zip vs.toArray).foldl (fun tmps (t,a)=>tmps.setIfInBounds t a) r.tmps=(r.params.toList.zip vs).foldl (fun(tmps:Array Value) (p:Tmp×Value)=>tmps.setIfInBounds p.1 p.2) r.tmps:=by
  rw[← Array.foldl_toList];simp
 refine hA (some L.b) _ _ c w _ ⟨hs.eM,fun j=>?_,?_,.nil⟩ ?_
 ·show eJ c w (Array.getD ((r.params.zip vs.toArray).foldl (fun tmps (t,a)=>tmps.setIfInBounds t a) r.tmps) j undef) _
  rw[PZ]
  exact OV _ _ _ _ _ ie (fun p hp=>aK (HY p hp) a6) a3 j
 ·show M≤Array.size ((r.params.zip vs.toArray).foldl (fun tmps (t,a)=>tmps.setIfInBounds t a) r.tmps)
  rw[PZ,Po];exact a6
 ·intro o1 c1 w1 a1 vQ YB B0 mR we
  obtain⟨QC,ka,k9⟩:=hn o1 vQ
  cases o1 with
  | exit=>cases QC
  | ret=>cases QC
  | norm s1=>
   have uW:c1.ι v 0=some L:=we.old v 0 L gV eR
   obtain⟨r1,b1,b2,b3,_,b5⟩:=IW mR k9 uW
   have TV:r1.state = .ready∧r1.pending=none:=b5
   obtain⟨k1,k2,k3⟩:=Sl (P:=P) (st':=.busy) mR k9 uW b1 { r1 with state:=.busy } rfl rfl rfl rfl rfl
   refine⟨{ w1 with heap:=w1.heap.setIfInBounds L.b (.loop { r1 with state:=.busy }) },?_,?_⟩
   ·have hg:(Instr.getLoop L.b).run P w1 = .ok r1 w1:=by simp[Instr.getLoop,getObj,Sem.run,b1]
    simp only[Instr.beginRound,Sem.run_bind,hg,Result.andThen_ok,k3,TV.1]
    simp
   ·refine hB s1 ka vQ YB k9 (some L.b) _ _ c1 _ a1 k1 ?_
    intro o2 c2 w3 a3' vR amc zI H4 zU
    obtain⟨jU,oI⟩:=hm o2 vR
    have YS:v<s1.H.length:=aK gV B0
    have wg:c2.ι v 0=some L:=zU.old v 0 L YS uW
    obtain⟨r2,d1,d2,d3,_,d5⟩:=IW H4 oI wg
    have key:∀ (j:Option Code),o2.tS.is { r2 with state:=if j.isNone then .ready else .done,pending:=j }→j.isNone = !o2.stop→∃ v w',(Instr.endRound L.b j).run P w3 = .ok v w'∧next (a.put o.dst v) w':=by
     intro j hj XD
     obtain⟨e1,e2,e3⟩:=Sl (P:=P) (st':=o2.tS) H4 oI wg d1 { r2 with state:=if j.isNone then .ready else .done,pending:=j } rfl rfl rfl rfl hj
     have hg:(Instr.getLoop L.b).run P w3 = .ok r2 w3:=by simp[Instr.getLoop,getObj,Sem.run,d1]
     refine⟨.bool j.isNone,{ w3 with heap:=w3.heap.setIfInBounds L.b (.loop { r2 with state:=if j.isNone then .ready else .done,pending:=j }) },?_,?_⟩
     ·simp only[Instr.endRound,Sem.run_bind,hg,Result.andThen_ok,e3]
      rfl
     ·have W2:eJ c2 { w3 with heap:=w3.heap.setIfInBounds L.b (.loop { r2 with state:=if j.isNone then .ready else .done,pending:=j }) } (.bool j.isNone) (.b !o2.stop):=by
       have:D.b (!o2.stop)=D.val (.bool j.isNone):=by rw[XD]
       rw[this];exact .val _
      have eX:Step s.H.length c s.H w c2 (o2.st.H.set v (.gu rf jU o2.tS)) { w3 with heap:=w3.heap.setIfInBounds L.b (.loop { r2 with state:=if j.isNone then .ready else .done,pending:=j }) }:=
       (we.trans (k2.trans (zU.trans e2 zI) (Nat.le_refl _)) B0)
      refine k o2 jU c2 _ _ vR oI (Nat.le_trans B0 zI) (hs.next e1.eM eX hd W2) eX
    cases o2 with
    | norm s2=>exact key none ⟨rfl,rfl⟩ rfl
    | ret s2=>exact key (some .ret) ⟨rfl,rfl⟩ rfl
    | exit id s2=>exact key (some (.exit id)) ⟨rfl,rfl⟩ rfl
def U9{s:St}(hs:jX G N c w s a){rf:Nat}{ps:Array Tmp}{ac bc:Code}(sx:G.rt rf=some (N,ps,ac,bc))(live:List Nat)(fn:FuncId) :
  ∃ (c2:Ctx) (w2:World) (L1 L2:Loc),(Instr.enterLoop fn a.tmps ps ac bc none).run P w = .ok (L2.b,[{ target:=.collected L1.b,args:=#[] }]) w2∧L1.iM=false∧L2.iM=false ∧
   c2.ι s.H.length 0=some L1∧c2.ι (s.H.length+1) 0=some L2∧e9 G c2 (s.H ++ [.jZ,.gu rf (forget live s.env) .ready]) w2∧Step s.H.length c s.H w c2 (s.H ++ [.jZ,.gu rf (forget live s.env) .ready]) w2:=by
 obtain⟨xS,_,we⟩:=IE hs.eM (ma.last s.H) (.deferred (some [])) .jZ rfl rfl (fun _ hb=>by simp only[gd];exact .inr hb)
 simp only[Al.last]at xS we
 generalize BR:c.set s.H.length 0 ⟨w.heap.size,0,0,false⟩=c1 at xS we
 have uW:c1.ι s.H.length 0=some ⟨w.heap.size,0,0,false⟩:=by rw[← BR];exact Ctx.rh _ _ _ _
 generalize Cm:w.alloc (.deferred (some []))=w1 at xS we
 have QE:w1.heap.size=w.heap.size+1:=by rw[← Cm];simp
 have B0:(s.H ++ [Ob.jZ]).length=s.H.length+1:=by simp
 obtain⟨mj,_,qq⟩:=IE xS (ma.last (s.H ++ [.jZ])) (.loop { state:=.ready,pending:=none,fn:=fn,tmps:=a.tmps,params:=ps,assign:=ac,body:=bc,defers:=w.heap.size }) (.gu rf (forget live s.env) .ready) rfl rfl (fun qS hb=>by
  simp only[gd]
  refine⟨trivial,_,hb,fun j=>qS _ _ ((zg hs.env live j).pd hs.eM.toHeapOK we),⟨N,?_,hs.size⟩,rfl,rfl⟩
  rw[← sx,← xS.rt];rfl)
 simp only[Al.last,B0,bj,et]at mj qq
 refine⟨_,_,⟨w.heap.size,0,0,false⟩,⟨w1.heap.size,0,0,false⟩,?_,rfl,rfl,?_,Ctx.rh _ _ _ _,mj,we.trans qq (by omega)⟩
 ·subst Cm
  simp[Instr.enterLoop]
 ·rw[Ctx.sM _ _ (by omega)];exact uW
def ag3{s:St}{n:Nat}{Q:Exit→Act→World→Prop}(hs:jX G N c w s a){g:Operand}{X:X}(hx:cX G g=some X){f:FuncId}{first cap:List D}(oY:ev s.env.get X = .fn (.func f) first cap)
  (kS:qj P f=true) {rf:Nat} {ps:Array Tmp} {ac bc:Code} (sx:G.rt rf=some (N,ps,ac,bc)) {live:List Nat} {R1:D→U→Prop} {R:Out→Prop}
  (iQ:sU P G f (first ++ [.ic (s.H.length+1)]++cap) (s.H ++ [.jZ,.gu rf (forget live s.env) .ready]) R1)
  (k:∀ d H',R1 d H'→∃ env st o,H'[s.H.length+1]? = some (.gu rf env st)∧yj { s with H:=H'.set (s.H.length+1) .dead,marks:=s.H.length::s.marks } st=some o∧R o)
  (hk:ue G N s.H.length s.fW c s.H w R Q):(Code.rangeFunc g ps ac bc).wpIn (FW none) n P Q a w:=by
 refine wpIn_rangeFunc fun fn _=>?_
 obtain⟨c2,w2,L1,L2,Xj,k9,oI,uW,wg,mj,QA⟩:=U9 (P:=P) hs sx live fn
 have Qr:∀ u d,eJ c w u d→eJ c2 w2 u d:=fun u d hd=>hd.pd hs.eM.toHeapOK QA
 have hr:=gX hs.eM hs.env hx
 rw[oY]at hr
 generalize hu:a.eval g=u at hr
 cases hr with
 | fn _ fs cs _ _ q1 q2 q3 q4=>
  have Y':eJ c2 w2 (.func (.yield L2.b) #[] #[]) (.ic (s.H.length+1)):=.ic _ L2 wg oI
  have ie:iy c2 w2 (fs ++ [Value.func (.yield L2.b) #[] #[]]++cs) (first ++ [.ic (s.H.length+1)]++cap):=
   ((iy.CX q1 fun i v d h1 h2=>Qr _ _ (q3 i v d h1 h2)).append (.cons Y' .nil)).append (iy.CX q2 fun i v d h1 h2=>Qr _ _ (q4 i v d h1 h2))
  have zQ:(resolve a.eval (rangeCall g L2.b) 0).run P w2 = .ok { target:=.fn (.func f) cs.toArray,args:=fs.toArray ++ #[Value.func (.yield L2.b) #[] #[]] } w2:=by
   simp[resolve,hu,Deferred.ofValue]
   rfl
  have hinv:(invoke (.fn (.func f) cs.toArray) (fs.toArray ++ #[Value.func (.yield L2.b) #[] #[]])).run P w2 = .ok (.enter f (fs ++ [Value.func (.yield L2.b) #[] #[]]++cs).toArray) w2:=by
   have h2:=Ja (P:=P) kS (fs ++ [Value.func (.yield L2.b) #[] #[]]++cs).toArray w2
   simpa[invoke]using h2
  have HE:=iQ c2 w2 _ mj ie
  have lU:CallsIn (FW none) (n-1) P f (fs ++ [Value.func (.yield L2.b) #[] #[]]++cs).toArray w2 (rangePost (FW none) n P L2.b Q { a with defers:=[{ target:=.collected L1.b,args:=#[] }]++a.defers }):=by
   refine Bl.2 (HE.mono ?_)
   rintro e w3 ⟨v,c3,d,H3,rfl,hR,hlen,Qm,_,zU⟩
   obtain⟨env,st,q,lT,lX,KL⟩:=k d H3 hR
   have HB:(s.H ++ [Ob.jZ,Ob.gu rf (forget live s.env) .ready]).length=s.H.length+2:=by simp
   have uW:c3.ι s.H.length 0=some L1:=zU.old _ 0 L1 (by rw[HB];omega) uW
   have wg:c3.ι (s.H.length+1) 0=some L2:=zU.old _ 0 L2 (by rw[HB];omega) wg
   have gA:=Qm.ob _ _ lT
   simp only[Ob.gen]at gA
   rw[wg]at gA
   simp only[gd]at gA
   obtain⟨_,r3,KS,_,_,zG⟩:=gA
   have al7:L2.b<w3.heap.size:=(aM.1 KS).1
   obtain⟨m1,m2⟩:=OR (w':={ w3 with heap:=w3.heap.setIfInBounds L2.b (.loop { r3 with state:=.exhausted }) }) Qm lT rfl wg oI ⟨rfl,Nat.le_refl _⟩ rfl rfl (by simp) (fun b hb=>by rw[bF (dx hb)])
   have zC:Step s.H.length c s.H w c3 (H3.set (s.H.length+1) .dead) { w3 with heap:=w3.heap.setIfInBounds L2.b (.loop { r3 with state:=.exhausted }) }:=
    QA.trans (zU.trans m2 hlen) (by rw[HB];omega)
   have H7:jX G N c3 { w3 with heap:=w3.heap.setIfInBounds L2.b (.loop { r3 with state:=.exhausted }) } { s with H:=H3.set (s.H.length+1) .dead,marks:=s.H.length::s.marks } { a with defers:=[{ target:=.collected L1.b,args:=#[] }]++a.defers }:=by
    refine⟨m1,fun j=>(hs.env j).pd hs.eM.toHeapOK zC,hs.size,.cons L1 uW k9 (hs.marks.mono fun v L h=>zC.old v 0 L ?_ h)⟩
    rcases bh v s.H.length with h'|h'
    ·exact h'
    ·rw[hs.eM.out v 0 h']at h;cases h
   have Qj:r3.state≠.busy:=by
    cases st with
    | busy=>cases lX
    | ready=>rw[zG.1];decide
    | xd=>rw[zG.1];decide
    | vH=>rw[zG.1];decide
   have PU:(Instr.endLoop L2.b).run P w3 = .ok r3.pending { w3 with heap:=w3.heap.setIfInBounds L2.b (.loop { r3 with state:=.exhausted }) }:=by
    have hg:(Instr.getLoop L2.b).run P w3 = .ok r3 w3:=by
     have:w3.heap[L2.b]? = some (.loop r3):=KS
     simp[Instr.getLoop,getObj,Sem.run,this]
    have Qw:(setObj L2.b (.loop { r3 with state:=.exhausted })).run P w3 = .ok () { w3 with heap:=w3.heap.setIfInBounds L2.b (.loop { r3 with state:=.exhausted }) }:=by
     have:w3.heap[L2.b]? = some (.loop r3):=KS
     simp[setObj,Sem.run,this]
    have W4:(r3.state == .busy)=false:=by
     generalize r3.state=x at Qj
     cases x<;>first|rfl|exact absurd rfl Qj
    simp only[Instr.endLoop,Sem.run_bind,hg,Result.andThen_ok,W4,Qw]
    simp[Qw]
   generalize ({ w3 with heap:=w3.heap.setIfInBounds L2.b (.loop { r3 with state:=.exhausted }) }:World)=W at H7 zC PU
   refine⟨r3.pending,W,PU,?_⟩
   have Lg:s.H.length≤(H3.set (s.H.length+1) .dead).length:=by
    rw[HB]at hlen
    simp;omega
   cases st with
   | busy=>cases lX
   | ready=>
    cases lX
    rw[zG.2]
    exact hk _ c3 _ _ KL rfl Lg H7 zC
   | xd=>
    cases lX
    rw[zG.2]
    exact wpIn_ret (hk _ c3 _ _ KL rfl Lg H7 zC)
   | vH id=>
    cases lX
    rw[zG.2]
    exact wpIn_exit (hk _ c3 _ _ KL rfl Lg H7 zC)
  exact⟨L2.b,_,w2,_,w2,f,_,w2,Xj,zQ,fun _ _=>trivial,hinv,fun h=>by simp[Fence.wide]at h,lU⟩
