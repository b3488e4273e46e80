/- 6 -/
import Derived.Test.YtmehofoficaelaaGreatDoorV05
import Derived.Shelf.SlSortCmp.NoneTotal
set_option linter.all false
open Option renaming some→aE,none→ez
open Go renaming World→bb,Program→bs,Value→b4,Act→dr,Code→dx,Oper→ek,mem_ready→er,FuncId→eK,wpListIn→e8,Exit→fp,Tmp→hh,ResultVar→iK,execOp→iN,getD_set_true→jk,TypeId→kf,wpAnyIn→kx,Operand→kJ,setRow_heap→lU,getObj→lX,setObj→mn,Fence→nf,getD_set_ne→nB,Calls→nC,fenced_calm→nK
open Bool renaming true→cc,false→eB
open Go.Value renaming int→cp,func→fb,agg→la
open Nat renaming le_refl→di,div_lt_of_lt_mul→lz,mod_lt→nT
open Go.World renaming setRow→eh,frozen?→ku,cell?→lp
open List renaming length_map→en,range→ga,all_eq_true→hI,getElem?_eq_getElem→iV,map_cons→mU,append_of_mem→mV,Perm→nP,length→List.l
open Go.Instr renaming getLoop→ep,loadAt→hY,extract→j',enterLoop→mX,endRound→nm,endLoop→ns
open Go.Oper renaming uponIn→eL,semAt_eq→jm
open Go.Result renaming andThen_ok→fa
open Go.Sem renaming run_bind→fx,run→gb
open Go.Region renaming binds→hU,ready→lb
namespace Go.AL
open Go
def zF(A:Array ek):Bool:=(ga A.size).all λi=>match A[i]? with
 | some o=>o.after.all λe => !Region.binds .any e||decide (e.on<i)
 | none=>cc
def yR(A:Array ek)(ord:List (List Nat)):Bool:=(ga A.size).all λi=>match A[i]? with
 | some o=>(ord.getD i []).all λk=>o.after.any λe=>hU .any e&&(e.on == k||(ord.getD e.on []).contains k)
 | none=>cc
def Ta(l:List il)(ord:List (List Nat))(c:List (Nat×Nat)):Bool:=(ga l.l).all λi=>(ga i).all λk=>
 (ord.getD i []).contains k||(match l[k]?,l[i]? with
  | some a,aE b=>yY a b&&(c.contains (k,i)||Ph a.op b.op)
  | _,_=>eB)
section
variable{P:bs}{G:GT}{A:Array ek}{ord:List (List Nat)}
theorem ads(h:zF A=cc){i:Nat}{o:ek}(hi:A[i]? = aE o){e:Edge}(a:e∈o.after)(b:hU .any e=cc):e.on<i:=by have:=hI.1 h i (bp.2 (aQ.1 hi).1);simp only[hi]at this;have:=cJ.1 this e a;simpa[b]using this
theorem aah(h:yR A ord=cc){i:Nat}{o:ek}(hi:A[i]? = aE o){k:Nat}(b:k∈ord.getD i []):∃e∈o.after,hU .any e=cc/\(e.on=k\/k∈ord.getD e.on []):=by have:=hI.1 h i (bp.2 (aQ.1 hi).1);simp only[hi]at this;have:=hI.1 this k b;obtain⟨e,c,a⟩:=Array.any_eq_true'.1 this;simp only[ai,bX,beq_iff_eq,dz]at a;exact⟨e,c,a.1,a.2⟩
structure Left(A:Array ek)(ord:List (List Nat))(rem:List mN)(listed:Array Bool):Prop where
 size:listed.size=A.size
 iff:∀j,j<A.size->(listed.getD j cc=eB↔∃it∈rem,it.k=j)
 sorted:rem.Pairwise λp q=>p.k<q.k
 lt:∀it∈rem,it.k<A.size
 down:∀i,i<A.size->listed.getD i eB=cc->∀k∈ord.getD i [],listed.getD k eB=cc
theorem ahj{rem:List mN}{a:Array Bool}(h:Left A ord rem a){j:Nat}(c:j<A.size):a.getD j eB=cc\/∃e∈rem,e.k=j:=by
 have d:j<a.size:=by rw[h.size];exact c
 cases b:a.getD j cc with
 | false=>exact .inr ((h.iff j c).1 b)
 | true=>left;simp[d]at b ⊢;exact b
theorem ahR{rem:List mN}{a:Array Bool}(h:Left A ord rem a){b:mN}(c:b∈rem):a.getD b.k eB=false:=by
 have d:=h.lt b c;have:=(h.iff b.k d).2 ⟨b,c,rfl⟩;have e:b.k<a.size:=by rw[h.size];exact d
 simp[e]at this ⊢;exact this
theorem Tm(j:zF A=cc){b:mN}{rem:List mN}{a:Array Bool}(h:Left A ord (b::rem) a):b.k∈lb .any A a:=by
 rw[er];have d:=h.lt b fZ;refine⟨(h.iff b.k d).2 ⟨b,fZ,rfl⟩,A[b.k],by simp[d],λe g k=>?_⟩;have l:=ads j (i:=b.k) (o:=A[b.k]) (by simp[d]) g k;rcases ahj h (U:e.on<A.size)with hl|⟨q,c,f⟩
 .exact hl
 .exfalso;rcases av.1 c with rfl|c
  .omega
  .have:=(aT.1 h.sorted).1 q c;omega
theorem OU(k:yR A ord=cc){rem:List mN}{a:Array Bool}(h:Left A ord rem a){i:Nat}(hi:i∈lb .any A a){q:mN}(j:q∈rem):q.k ∉ ord.getD i []:=by
 intro m;obtain⟨_,o,r,g⟩:=er.1 hi;obtain⟨e,l,n,b⟩:=aah k r m;have c:=g e l n;have f:=ahR h j;rcases b with b|b
 .grind
 .have p:e.on<A.size:=by
   rcases bB e.on A.size with d|d
   .exact d
   .have:a.getD e.on eB=false:=by
     have:a.size<=e.on:=by rw[h.size];exact d
     simp[ec this]
    rw[this]at c;cases c
  have:=h.down e.on p c q.k b;rw[this]at f;cases f
theorem Og(r:yR A ord=cc){pre post:List mN}{b:mN}{a:Array Bool}(h:Left A ord (pre++b::post) a)(hi:b.k∈lb .any A a) :
  Left A ord (pre++post) (a.setIfInBounds b.k cc):=by
 have l:(pre++post).Sublist (pre++b::post):=dR (ef b post) pre
 have x:∀q∈pre++post,q.k≠b.k:=by
  intro q c;have:=bN.1 h.sorted;rcases aj.1 c with c|c
  .grind
  .have:=(aT.1 this.2.1).1 q c;omega
 have n:=h.lt b fZ;refine⟨by simp[h.size],λj t=>?_,h.sorted.sublist l,λq c=>h.lt q (l.subset c),λi w hl k m=>?_⟩
 .by_cases e:b.k=j
  .simp_all
  .rw[nB cc e,h.iff j t];constructor
   .grind
   .grind
 .by_cases e:b.k=i
  .subst e;obtain⟨_,o,v,p⟩:=er.1 hi;obtain⟨e,s,u,f⟩:=aah r v m;have d:=p e s u;rcases f with rfl|f
   .exact jk d
   .have n:e.on<A.size:=by
     rcases bB e.on A.size with g|g
     .exact g
     .have:a.getD e.on eB=false:=by
       have:a.size<=e.on:=by rw[h.size];exact g
       simp[ec this]
      rw[this]at d;cases d
    exact jk (h.down e.on n d k f)
  .rw[nB eB e]at hl;exact jk (h.down i w hl k m)
variable{C:Option (Nat×Ob)->eK->List D->D->gd->Prop}{N:Nat}
theorem UQ(n:Nat)(δ:Dl)(H:gd):(lO n δ H).l=H.l:=by
 cases δ with
 | no=>rfl
 | cells v o xs=>simp only[lO,Dl.app];split<;>simp
 | obj v ob=>simp[lO,Dl.app]
 | new ob=>simp[lO,Dl.app,Al.lT]
theorem UL(z:∀x g args d Hn,C x g args d Hn->CC P G x g args d Hn)(y:zF A=cc)(t:yR A ord=cc){B:Option Nat}{m:Nat}{Q:fp->dr->bb->Prop}{ms:List Nat}{f':gZ}{H':gd} :
  ∀(fuel:Nat) (rem:List mN) (b:Array Bool) (c:Ctx) (w:bb) (f:gZ) (H:gd) (a:dr),rem.l=fuel->Left A ord rem b->SX G N c w f H ms a->Tx C f H rem f' H' ->
   (∀e∈rem,∃o,A[e.k]? = aE o/\wW P G N A o=aE e.e) ->
   (∀p∈rem,∀q∈rem,p.k<q.k->p.k∈ord.getD q.k []\/(yY p.e q.e=cc/\wx p.rc q.rc=cc)) ->
   (∀c' w' n,SX G N c' w' f' H' ms n->Step H.l c H w c' H' w'->Q .normal n w')->kx (FW B) m P .any A Q fuel b a w
 | 0,rem,b,c,w,f,H,a,hl,mo,hs,ht,_,_,hQ=>by have:rem = []:=aV hl;subst this;cases ht;refine⟨?_,hQ c w a hs (Step.refl _ _ _ _)⟩;refine bn.2 λj F=>?_;obtain⟨h1,o,u,_⟩:=er.1 F;obtain⟨e,s,_⟩:=(mo.iff j (aQ.1 u).1).1 h1;cases s
 | fuel+1,rem,b,c,w,f,H,a,hl,mo,hs,ht,yf,HK,hQ=>by
  refine⟨λh0=>?_,λi hi=>?_⟩
  .cases rem with
   | nil=>cases hl
   | cons e rem=>
    have:=Tm y mo;rw[h0]at this;cases this
  .obtain⟨h1,o,u,_⟩:=er.1 hi;obtain⟨e,s,rfl⟩:=(mo.iff i (aQ.1 u).1).1 h1;obtain⟨pre,post,rfl⟩:=mV s
   have R:∀p∈pre,yY p.e e.e=cc/\wx p.rc e.rc=true:=by
    intro p l;have K:p.k<e.k:=(bN.1 mo.sorted).2.2 p l e fZ;rcases HK p (bz _ l) e fZ K with h|h
    .exact absurd h (OU t mo hi (bz _ l))
    .exact h
   obtain⟨d,δ,J,I⟩:=ht.front R;obtain⟨o',S,O⟩:=yf e fZ;have r:∀q∈pre++post,q∈pre++e::post:=λq k=>(dR (ef e post) pre).subset k;refine VP z hs S O J λc' w' n E L=>?_;refine UL z y t fuel (pre++post) _ c' w' _ _ n (by simp at hl ⊢;omega) (Og t mo hi) E I (λq k=>yf q (r q k)) (λp l q k=>HK p (r p l) q (r q k)) λc2 w2 M D v=>?_;rw[UQ]at v;exact hQ c2 w2 M D (L.trans v (di _))
def OG(x:kJ)(e:Option hh):Bool:=match x with
 | .tmp t=>e != aE t
 | _=>cc
def OP:Op->Option kJ
 | .extract x _=>aE x
 | .move x | .assign x=>aE x
 | _=>ez
def Pk(p q:ek):Bool:=match OP p.op,OP q.op with
 | some x,aE y=>p.guard.isNone&&q.guard.isNone&&OG x q.dst&&OG y p.dst&&(p.dst != q.dst)
 | _,_=>eB
def Fi(A:Array ek)(k i:Nat):Bool:=match A[k]?,A[i]? with
 | some p,aE q=>Pk p q
 | _,_=>eB
theorem ZZ{x:kJ}{e:Option hh}(h:OG x e=cc)(a:dr)(v:b4):(a.put e v).eval x=a.eval x:=Act.eval_put λd c b=>by subst b c;simp[OG]at h
theorem V7{F:nf}{m:Nat}{P:bs}{Q:fp->dr->bb->Prop}{o:ek}{x:kJ}{a:dr}{w:bb}{K:dr->bb->Prop}(d:OP o.op=aE x)(h:o.wpIn F m P a w K Q) :
  ∃v,K (a.put o.dst v) w/\∀(b:dr) (l:dr->bb->Prop),b.eval x=a.eval x->l (b.put o.dst v) w->o.wpIn F m P b w l Q:=by
 have g:=h.2;have n:∀c,o.op≠.defer c:=λc e=>by rw[e]at d;cases d
 have p:∀c,o.op≠.call c:=λc e=>by rw[e]at d;cases d
 have s:∀b:dr,o.about P w b.eval=none:=λb=>by
  unfold Oper.about;split
  .rename_i c B;exact absurd B (p c)
  .rfl
 rw[jm _ _ _ n]at g;unfold OP at d;split at d
 .rename_i y i j;cases d
  by_cases t:∃vs v,a.eval x = .tuple vs/\vs[i]? = aE v
  .obtain⟨vs,v,z,u⟩:=t;refine⟨v,by simpa[iN,j,z,u,j',eL]using g,λb l q r=>⟨λf k=>(by rw[s b]at k;cases k),?_⟩⟩;rw[jm _ _ _ n];simpa[iN,j,q,z,u,j',eL]using r
  .exfalso;simp only[iN,j]at g;unfold j' at g;split at g
   .rename_i vs A
    cases hi:vs[i]? with
    | some v=>exact t ⟨vs,v,A,hi⟩
    | none=>simp[hi,eL]at g
   .simp[eL]at g
 all_goals first
  | (rename_i y j;cases d;refine⟨a.eval x,by simpa[iN,j,eL]using g,λb l q r=>⟨λf k=>(by rw[s b]at k;cases k),?_⟩⟩;rw[jm _ _ _ n];simpa[iN,j,q,eL]using r)
  | cases d
theorem aok{F:nf}{m:Nat}{P:bs}{A:Array ek}{Q:fp->dr->bb->Prop}{p q:ek}{ops:List ek}{a:dr}{w:bb}(hs:Pk p q=cc)(h:e8 F m P A Q (p::q::ops) a w):e8 F m P A Q (q::p::ops) a w:=by
 unfold Pk at hs;split at hs
 .rename_i x y g f;simp only[ai,bne_iff_ne,ne_eq,Option.isNone_iff_eq_none]at hs;obtain⟨⟨⟨⟨k,j⟩,c⟩,b⟩,i⟩:=hs;simp only[e8,Region.wanted,k,j,if_true]at h ⊢;obtain⟨v,h,kv⟩:=V7 g h;obtain⟨u,h,e⟩:=V7 f h;refine e a _ (ZZ b a v).symm (kv _ _ (ZZ c a u) ?_);rw[<-Act.put_comm a v u λd n l=>i (n.trans l.symm)];exact h
 .cases hs
theorem UN(C:zF A=cc)(n:yR A ord=cc){F:nf}{m:Nat}{Q:fp->dr->bb->Prop} :
  ∀(fuel:Nat) (lasts:List mN) (ops:List ek) (b:Array Bool) (a:dr) (w:bb),lasts.l=fuel->Left A ord lasts b ->
   (∀q∈lasts,∀k,k<q.k->k∈ord.getD q.k []\/((∃p∈lasts,p.k=k)->k+1=q.k/\Fi A k q.k=cc))->lasts.map (λq=>A[q.k]?)=ops.map aE ->
   e8 F m P A Q ops a w->kx F m P .any A Q fuel b a w
 | 0,lasts,ops,b,a,w,c,mo,_,g,h=>by
  have h0:lasts = []:=aV c;subst h0;have:ops = []:=by simpa using g.symm
  subst this;refine⟨bn.2 λj K=>?_,h⟩;obtain⟨h1,o,s,_⟩:=er.1 K;obtain⟨d,l,_⟩:=(mo.iff j (aQ.1 s).1).1 h1;cases l
 | fuel+1,ag3,ops,b,a,w,c,mo,hl,g,h=>by
  cases ag3 with
  | nil=>cases c
  | cons q lasts=>
  cases ops with
  | nil=>simp at g
  | cons o ops=>
   simp only[mU,cY]at g;refine⟨λh0=>?_,λi hi=>?_⟩
   .have:=Tm C mo;rw[h0]at this;cases this
   .obtain⟨h1,o',s,_⟩:=er.1 hi;obtain⟨d,l,rfl⟩:=(mo.iff i (aQ.1 s).1).1 h1
    have key:∀(d:mN) (o:ek) (lasts:List mN) (ops:List ek),A[d.k]? = aE o->lasts.l=fuel->Left A ord lasts (b.setIfInBounds d.k cc)->(∀q∈lasts,∀k,k<q.k->k∈ord.getD q.k []\/((∃p∈lasts,p.k=k)->k+1=q.k/\Fi A k q.k=cc)) ->
      lasts.map (λq=>A[q.k]?)=ops.map aE->e8 F m P A Q (o::ops) a w->wpOpIn F m P A Q d.k (kx F m P .any A Q fuel (b.setIfInBounds d.k cc)) a w:=λd o lasts ops v c J hl g h=>by
     have E:∀a w,e8 F m P A Q ops a w->kx F m P .any A Q fuel (b.setIfInBounds d.k cc) a w:=λa w h=>UN C n fuel lasts ops _ a w c J hl g h;unfold wpOpIn;simp only[v];simp only[e8]at h;split
     .rename_i H;simp only[H,if_true]at h;exact Oper.wpIn_mono E h
     .grind
    rcases av.1 l with e|l
    .subst e;exact key d o lasts ops g.1 (by simpa using c) (Og (pre:=[]) (post:=lasts) n mo hi) (λq I k y=>(hl q (bf _ I) k y).imp id λf ⟨p,u,e⟩=>f ⟨p,bf _ u,e⟩) g.2 h
    .have L:q.k<d.k:=(aT.1 mo.sorted).1 d l;have z:q.k ∉ ord.getD d.k []:=OU n mo hi (q:=q) fZ;have M:=((hl d (bf _ l) q.k L).resolve_left z) ⟨q,fZ,rfl⟩
     cases lasts with
     | nil=>cases l
     | cons r lasts=>
      have t:r=d:=by
       rcases av.1 l with e|t
       .exact e.symm
       .have h1:q.k<r.k:=(aT.1 mo.sorted).1 r fZ;have s:r.k<d.k:=(aT.1 (aT.1 mo.sorted).2).1 d t;omega
      subst t
      cases ops with
      | nil=>simp at g
      | cons B ops=>
       simp only[mU,cY]at g
       have D:Pk o B=true:=by have:=M.2;unfold Fi at this;rw[g.1,g.2.1]at this;exact this
       refine key r B (q::lasts) (o::ops) g.2.1 (by simpa using c) (Og (pre:=[q]) (post:=lasts) n mo hi) (λx G k y=>?_) (by simp[g.1,g.2.2]) (aok D h)
       have N:x∈q::r::lasts:=by
        rcases av.1 G with e|e
        .simp[e]
        .simp[e]
       refine(hl x N k y).imp id λf ⟨p,u,e⟩=>f ⟨p,?_,e⟩;rcases av.1 u with e|e
       .simp[e]
       .simp[e]
theorem UM(J:∀x g args d Hn,C x g args d Hn->CC P G x g args d Hn)(y:zF A=cc)(s:yR A ord=cc){E:Option Nat}{m:Nat}{Q:fp->dr->bb->Prop}{ms:List Nat}{f':gZ}{H':gd}{lasts:List mN}{ops:List ek}
  (B:∀q∈lasts,∀k,k<q.k->k∈ord.getD q.k []\/((∃p∈lasts,p.k=k)/\k+1=q.k/\Fi A k q.k=cc)) (F:lasts.map (λq=>A[q.k]?)=ops.map aE) :
  ∀(fuel:Nat) (rem:List mN) (b:Array Bool) (c:Ctx) (w:bb) (f:gZ) (H:gd) (a:dr),rem.l=fuel->Left A ord (rem++lasts) b->SX G N c w f H ms a->Tx C f H rem f' H' ->
   (∀j∈rem,∃o,A[j.k]? = aE o/\wW P G N A o=aE j.e) ->
   (∀p∈rem,∀q∈rem,p.k<q.k->p.k∈ord.getD q.k []\/(yY p.e q.e=cc/\wx p.rc q.rc=cc)) ->
   (∀c' w' t,SX G N c' w' f' H' ms t->Step H.l c H w c' H' w'->e8 (FW E) m P A Q ops t w')->kx (FW E) m P .any A Q (fuel+lasts.l) b a w
 | 0,rem,b,c,w,f,H,a,hl,mo,hs,ht,_,_,hQ=>by have:rem = []:=aV hl;subst this;cases ht;rw[aR];exact UN y s _ lasts ops b a w rfl mo (λq n k M=>(B q n k M).imp id λh _=>h.2) F (hQ c w a hs (Step.refl _ _ _ _))
 | fuel+1,rem,b,c,w,f,H,a,hl,mo,hs,ht,yf,HK,hQ=>by
  have I:∀q∈rem,∀l∈lasts,q.k<l.k:=λq n l hl=>(bN.1 mo.sorted).2.2 q n l hl;rw[(U:fuel+1+lasts.l=(fuel+lasts.l)+1)];refine⟨λh0=>?_,λi hi=>?_⟩
  .cases rem with
   | nil=>cases hl
   | cons j rem=>
    have:=Tm (rem:=rem++lasts) y mo;rw[h0]at this;cases this
  .obtain⟨h1,o,S,_⟩:=er.1 hi;obtain⟨j,v,rfl⟩:=(mo.iff i (aQ.1 S).1).1 h1
   have v:j∈rem:=by
    rcases aj.1 v with h|h
    .exact h
    .cases rem with
     | nil=>cases hl
     | cons q rem=>
      rcases B j h q.k (I q fZ j h)with h1|⟨⟨p,r,e⟩,_⟩
      .exact absurd h1 (OU s mo hi (q:=q) fZ)
      .have:=I q fZ p r;omega
   obtain⟨pre,post,rfl⟩:=mV v;have z:Left A ord (pre++j::(post++lasts)) b:=by simpa using mo
   have Y:∀p∈pre,yY p.e j.e=cc/\wx p.rc j.rc=true:=by
    intro p r;have T:p.k<j.k:=(bN.1 z.sorted).2.2 p r j fZ;rcases HK p (bz _ r) j fZ T with h|h
    .exact absurd h (OU s z hi (bz _ r))
    .exact h
   obtain⟨d,δ,R,O⟩:=ht.front Y;obtain⟨o',Z,X⟩:=yf j fZ;have u:∀q∈pre++post,q∈pre++j::post:=λq n=>(dR (ef j post) pre).subset n;refine VP J hs Z X R λc' w' t L V=>?_;refine UM J y s B F fuel (pre++post) _ c' w' _ _ t (by simp at hl ⊢;omega) (by simpa using Og s z hi) L O (λq n=>yf q (u q n)) (λp r q n=>HK p (u p r) q (u q n)) λc2 w2 W K D=>?_;rw[UQ]at D;exact hQ c2 w2 W K (V.trans D (di _))
end
abbrev room(k:Nat):gd:=List.replicate k .lT
section
variable{f:gZ}{H:gd}{r:Nat}
theorem Nk(v:Nat)(o:Ob)(a:o≠.lT):(H++room r)[v]? = aE o↔H[v]? = aE o:=jS
theorem Tw(v:Nat):rowsOf (H++room r) v=rowsOf H v:=by
 unfold rowsOf
 cases h:H[v]? with
 | none=>
  cases a:(H++room r)[v]? with
  | none=>rfl
  | some o=>
   cases o<;>first|rfl|skip
   rw[Nk v _ fZ]at a;rw[h]at a;cases a
 | some o=>
  have:(H++room r)[v]? = aE o:=jS;rw[this]
theorem AI(v g:Nat):rowAt (H++room r) v g=rowAt H v g:=by rw[AJ,AJ,Tw]
theorem SK(v:Nat):lW (H++room r) v=lW H v:=by
 unfold lW
 cases h:H[v]? with
 | none=>
  cases a:(H++room r)[v]? with
  | none=>rfl
  | some o=>
   cases o<;>first|rfl|skip
   rw[Nk v _ fZ]at a;rw[h]at a;cases a
 | some o=>
  have:(H++room r)[v]? = aE o:=jS;rw[this]
theorem TR(sz:Nat)(d:D):lu sz (H++room r) d=lu sz H d:=by
 cases d<;>first|rfl|skip
 simp only[lu,AI]
theorem abU(n:Nat)(op:iT):gW f (H++room r) n op=gW f H n op:=by
 cases op<;>simp only[gW]<;>first|rfl|skip
 case ld1=>simp only[xu,AI]
 case ldN=>simp only[wi,AI]
 case st1=>simp only[CN,AI]
 case stN=>simp only[CQ,AI]
 case lookup=>simp only[Cf,SK]
 case mapUpd=>simp only[As,SK]
 case len=>simp only[mY,SK]
 case b2s=>simp only[Dr,TR]
 case app=>simp only[sX,TR,AI]
 case copy=>simp only[zC,TR,AI]
 case slcArr=>simp only[AP,AI]
theorem E4(k:Nat)(d:D):iB (H++room r) k d=iB H k d/\gw (λ_=>ez) (H++room r) k d=gw (λ_=>ez) H k d:=
 IS (H1:=H) (H2:=H++room r) k d λv _=>(Tw v).symm
theorem GM(op:iT):gT f (H++room r) op=gT f H op:=by
 have key:∀args:List D,args.map (iB (H++room r) 40)=args.map (iB H 40):=λargs=>au λd _=>(E4 40 d).1;cases op<;>first|rfl|skip
 case call g args=>simp only[gT,key]
 case callN g args=>simp only[gT,key]
 case callv g args=>simp only[gT,key]
 case len k x=>cases k<;>rfl
theorem aaQ{v g:Nat}{x:kf×List D}(h:rowAt H v g=aE x):v<H.l:=(ae.1 (IW h)).1
theorem ahA{v:Nat}{x:KK×List (b4×D)}(h:lW H v=aE x):v<H.l:=(ae.1 (uc h)).1
def Safe(H:gd):Dl->Prop
 | .no=>True
 | .cells v o xs=>∃t g cs,H[v]? = aE (.row t g cs)/\o+xs.l<=cs.l
 | .obj v _=>v<H.l
 | .new _=>True
theorem abV{op:iT}{n:Nat}{d:D}{δ:Dl}(h:gW f H n op=aE (d,δ)):Safe H δ:=by
 have hl:∀ {o:Option D},lift o=aE (d,δ)->Safe H δ:=λh=>by rw[(mD h).2];trivial
 cases op<;>simp only[gW]at h<;>first|exact hl h|(cases h;done)|skip
 case box=>unfold sY at h;split at h<;>cases h;trivial
 case alloc=>cases h;trivial
 case mkmap=>cases h;trivial
 case buildSl=>
  unfold zr at h;split at h
  .split at h<;>cases h;trivial
  .cases h
 case mksl=>
  unfold ER at h;split at h
  .split at h<;>cases h;trivial
  .cases h
 case st1=>
  unfold CN at h;split at h
  .split at h
   .rename_i v g o _ t cs a;split at h
    .rename_i c;cases h;exact⟨_,_,_,IW a,gL⟩
    .cases h
   .cases h
  .cases h
 case stN=>
  unfold CQ at h;split at h
  .split at h
   .rename_i v g o xs _ _ t cs a;split at h
    .rename_i c;cases h;exact⟨_,_,_,IW a,gL⟩
    .cases h
   .cases h
  .cases h
 case mapUpd=>
  unfold As at h;split at h
  .split at h
   .rename_i b;split at h
    .cases h;exact ahA b
    .cases h
   .cases h
  .cases h
 case app=>
  unfold sX at h;split at h
  .split at h
   .split at h
    .rename_i a;split at h
     .cases h;exact aaQ a
     .cases h
    .cases h
   .split at h
    .cases h;trivial
    .cases h
   .split at h
    .cases h;trivial
    .split at h
     .cases h;trivial
     .cases h
   .cases h
  .cases h
 case copy=>
  unfold zC at h;split at h
  .split at h
   .rename_i a;split at h
    .cases h;exact aaQ a
    .cases h
   .cases h
  .cases h;trivial
  .cases h
theorem PM{δ:Dl}(hs:Safe H δ)(k:Nat)(c:(δ.app H (Al.last H)).l<=k) :
  lO H.l δ (H++room (k-H.l))=δ.app H (Al.last H)++room (k-(δ.app H (Al.last H)).l)/\Fits H.l δ (H++room (k-H.l)):=by
 cases δ with
 | no=>exact⟨rfl,trivial⟩
 | cells v o xs=>
  obtain⟨t,g,cs,h1,d⟩:=hs;have b:=(ae.1 h1).1;have a:(H++room (k-H.l))[v]? = aE (.row t g cs):=by rw[ah b];exact h1
  refine⟨?_,t,g,cs,a,d⟩;simp only[lO,Dl.app,a,h1,aw];rw[aP _ _ b]
 | obj v ob=>
  refine⟨?_,trivial⟩;simp only[lO,Dl.app,aw];rw[aP _ _ hs]
 | new ob=>
  simp only[Dl.app,Al.last,aq,aI,cW,aR]at c ⊢;have e:k-H.l=(k-(H.l+1))+1:=U;refine⟨?_,?_⟩
  .simp only[lO,Dl.app,Al.lT];rw[e,room,br,dA _ _ (di _)];simp[aL]
  .show(H++room (k-H.l))[H.l]? = aE .lT;rw[e,ak (di _)];simp[br]
end
section
variable{G:GT}{c:Ctx}{w:bb}{H:gd}
theorem Oh{r v:Nat}{L:Loc}:lM c (H++room r) v L↔lM c H v L:=by
 constructor
 .rintro⟨o,b,a,d⟩;rw[Nk v o (by rintro rfl;cases a)]at b;exact⟨o,b,a,d⟩
 .rintro⟨o,b,a,d⟩;exact⟨o,(Nk v o (by rintro rfl;cases a)).2 b,a,d⟩
theorem S9{r b:Nat}:l3 c (H++room r) b↔l3 c H b:=by
 constructor
 .rintro⟨v,L,hl,r⟩;exact⟨v,L,Oh.1 hl,r⟩
 .rintro⟨v,L,hl,r⟩;exact⟨v,L,Oh.2 hl,r⟩
theorem aaN(h:gI G c H w)(r:Nat):gI G c (H++room r) w where
 inj v v' L L' h1 h2:=h.inj v v' L L' (Oh.1 h1) (Oh.1 h2)
 lt b hb:=h.lt b (S9.1 hb)
 nF b hb:=h.nF b (S9.1 hb)
 kO:=h.kO
 out v k a:=h.out v k (by simp at a;omega)
 mB v o k ho hk:=by
  rcases bB v H.l with a|a
  .rw[ah a]at ho;exact h.mB v o k ho hk
  .exact h.out v k a
 ob v o ho:=by
  rcases bB v H.l with a|a
  .rw[ah a]at ho;exact h.ob v o ho
  .rw[ak a,List.getElem?_replicate]at ho;split at ho
   .cases ho;simp only[ik];exact h.out v _ a
   .cases ho
 gl:=h.gl
 rt:=h.rt
theorem aaO(r n:Nat):Step n c H w c (H++room r) w:=
 ⟨⟨rfl,di _⟩,rfl,rfl,di _,rfl,λ_ h=>h,λ_ h=>.inl h,λ_ _ _=>rfl,λ_ _ _ _ h=>h,λ_ h=>.inr (S9.1 h)⟩
end
end Go.AL
namespace Go.AL
open Go Go.Proofs Go.Shelf Go.RowKit Go.Lib Go.Sort
structure xP(P:bs)(f:eK)(sz:Nat):Prop where
 pos:0<sz
 full:∀(α:Type) [Inhabited α] (enc:α->List b4) (_:∀x,(enc x).l=sz) (_:∀x,∀v∈enc x,v.oneCell'=cc) (cf:α->α->Int) (_:SWO (ltOf cf)) (g l4 off cap:Nat) (d:Array α) (w:bb)
  (_:∀args w,(callFunc g args).run P w = .ok (.enter g args) w) (_:CmpLays P g #[] enc sz cf l4 off d.size w) (_:HoldsK enc sz w l4 off d) (_:l4<w.heap.size) (_:d.size<4611686018427387904),
  nC P f #[.slice (aE ⟨l4,off,ez⟩) d.size cap,.func (.func g) #[] #[]] w λe w'=>e = .returned (.tuple #[])/\∃d' n os,PermIn 0 d.size d d'/\SortedIn (ltOf cf) 0 d.size d'/\w'=sortWorldK enc sz w l4 off n d' os
 none:∀(p:Option Addr) (cap:Nat) (fv:b4) (w:bb),nC P f #[.slice p 0 cap,fv] w λe w'=>e = .returned (.tuple #[])/\w'=w
def xP.of{P:bs}{ρ:Ren}(L:SlLaysF0.n6 P ρ){k:Nat}(b:0<k)(c:∀w,(isAgg (ρ.t 24)).run P w = .ok cc w)(a:∀w,(Go.sizeOf (ρ.t 24)).run P w = .ok k w):xP P (ρ.f 6) k where
 pos:=b
 full α _ enc h1 h2 cf hO g l4 off cap d w eg hc hH hb hs:=AnyQ.slices_SortFunc L k c a enc h1 h2 cf hO g #[] l4 off cap d w eg hc hH hb hs
 none:=AnyF.slices_SortFunc_none L
section
variable{P:bs}{G:GT}{c:Ctx}{H:gd}{w:bb}{α:Type}
structure El(c:Ctx)(w:bb)(fc:α->List D)(l:List α) where
 vs:List b4
 a:α
 mem:a∈l
 cells:Cells (c.data c.F) w vs (fc a)
theorem aa6{a:Type}[Inhabited a](enc:a->List b4)(k l4 off m:Nat)(e:Array a)(os:Array Obj){b:Nat}(d:b<w.heap.size)(c:b≠l4):(sortWorldK enc k w l4 off m e os).heap[b]? = w.heap[b]? := by simp only[sortWorldK,grow,putRowK,putRow,mapBlock,Go.Sort.ahead];rw[cI (by simpa using d),bh,if_neg (cz c)]
theorem adg(h:gI G c H w){W:bb}(hs:w.heap.size<=W.heap.size)(d:∀b,c.F b->W.heap[b]? = w.heap[b]?):gI G (c.data c.F) [] W where
 inj v v' L L' h1:=by obtain⟨o,a,_⟩:=h1;simp at a
 lt b hb:=by obtain⟨v,L,⟨o,a,_⟩,_⟩:=hb;simp at a
 nF b hb:=by obtain⟨v,L,⟨o,a,_⟩,_⟩:=hb;simp at a
 kO b hb:=aO (h.kO b hb) hs
 out _ _ _:=rfl
 mB _ _ _ _ _:=rfl
 ob v o a:=by simp at a
 gl g cs hg:=by obtain⟨h1,f⟩:=(MQ h).gl g cs hg;exact⟨h1,gj.carry (c:=c.data c.F) (c':=c.data c.F) (λ_ _ _ h=>h) (λ_ h=>h) (λb o e=>Gi (d b e)) f⟩
 rt:=h.rt
theorem aoC{W w':bb}(h:ko W w'):∃q a,w'=grow (W.drewN q) a:=by
 obtain⟨⟨h1,n⟩,g,f,m,e⟩:=h;refine⟨w'.drawn-W.drawn,w'.heap.extract W.heap.size w'.heap.size,?_⟩
 cases w' with
 | mk l tp p o k=>
  cases W with
  | mk b c j o' d=>
   simp only at *;subst h1 g f;simp only[grow,World.drewN];congr 1
   .apply Array.ext_getElem?;intro i;rcases bB i b.size with hi|hi
    .rw[cI hi,e i hi]
    .rw[Array.getElem?_append_right hi,Array.getElem?_extract];split
     .congr 1;omega
     .exact ec U
   .omega
theorem jK.two{c:Ctx}{w:bb}{vs:List b4}{d e:D}(h:jK c w vs [d,e]):∃u v,vs = [u,v]/\gj c w u d/\gj c w v e:=by
 cases h with
 | cons h1 h=>cases h with
  | cons a h=>cases h;exact⟨_,_,rfl,h1,a⟩
theorem an7{f g:eK}{sz:Nat}(hS:xP P f sz){x:D}{R:D->gd->Prop}(k:R (.tup []) H):vc P G f [.gi,x] H R:=by intro c w vs gp b;obtain⟨u,v,rfl,h1,h⟩:=jK.two b;cases h1;refine(hS.none ez 0 v w).mono ?_;rintro e w' ⟨rfl,rfl⟩;exact⟨_,c,_,H,rfl,k,di _,gp,.tup [] [] rfl (λi v d a=>by simp at a),Step.refl _ _ _ _⟩
theorem an8{f g:eK}{sz:Nat}(hS:xP P f sz)(hg:vq P g=cc)(fc:α->List D)(l:List α)(hl:∀a∈l,(fc a).l=sz)(gQ:∀a∈l,gK (fc a)=cc)(h0:0<l.l)(w9:l.l<4611686018427387904)
  (q:α->α->Int) (EJ:∀x∈l,¬q x x<0) (tr:∀x∈l,∀y∈l,∀z∈l,q x y<0->q y z<0->q x z<0) (nt:∀x∈l,∀y∈l,∀z∈l,¬q x y<0->¬q y z<0->¬q x z<0)
  (hc:∀x∈l,∀y∈l,vc P G g [.agg (fc x),.agg (fc y)] [] λd _=>d = .i (q x y)) {v gen:Nat} {t:kf} (Q:H[v]? = aE (.row t gen (l.map fc).flatten)) {R:D->gd->Prop}
  (k:∀l':List α,l'.Perm l->l'.Pairwise (λx y=>¬q y x<0)->R (.tup []) (H.set v (.row t gen (l'.map fc).flatten))) :
  vc P G f [.gf v gen sz 0 l.l,.fn (.func g) [] []] H R:=by
 have O:=hS.pos;intro c w vs gp A;obtain⟨u,v1,rfl,h1,h2⟩:=jK.two A;clear A;have hn:l.l=l.l:=rfl;revert hn;generalize hN:l.l=N at h1;intro hn
 have nW:v1 = .func (.func g) #[] #[]:=by
  cases h2 with
  | fn _ fs cs df dc jl jP _ _=>
   have p:fs = []:=aA.1 jl;have I:cs = []:=aA.1 jP;subst p;subst I;rfl
 subst nW;clear h2
 cases h1 with
 | lB=>omega
 | gf _ _ _ _ _ cap L gv iA jE iO lV=>
 have X:=gp.ob v _ Q;simp only[Ob.gen]at X;rw[gv]at X;simp only[ik,iA]at X;obtain⟨arr,M,HU,E,pB⟩:=X
 have lS:(l.map fc).flatten.l=N*sz:=by rw[Nf sz _ (by simpa using hl),en,hN]
 rw[lS]at E;have tP:l3 c H L.b:=⟨v,L,⟨_,Q,rfl,gv⟩,iA,rfl⟩;have S:=gp.lt _ tP
 have C:∀i,i<N->L.base+i*sz+sz<=arr.size:=λi hi=>by have:(i+1)*sz<=N*sz:=bw _ hi;rw[cH]at this;omega
 let mk:Fin l.l->El c w fc l:=λi=>{
  vs:=(arr.toList.drop (L.base+i.val*sz)).take sz
  a:=l[i.val]
  mem:=bP _
  cells:=by
   have hi:i.val<N:=by rw[<-hN];exact i.isLt
   have hm:=C _ hi;have z6:(fc l[i.val]).l=sz:=hl _ (bP _)
   have jF:∀r,r<sz->∃y d,((arr.toList.drop (L.base+i.val*sz)).take sz)[r]? = aE y/\(fc l[i.val])[r]? = aE d/\y.oneCell'=cc/\gj c w y d:=λr A=>by
    have J:(l.map fc).flatten[i.val*sz+r]? = (fc l[i.val])[r]? := by rw[Nd sz O _ (by simpa using hl),show(i.val*sz+r) / sz=i.val from by rw[dS,Nat.mul_add_div O,Nat.div_eq_of_lt A];rfl,show(i.val*sz+r) % sz=r from by rw[dS,Nat.mul_add_mod,ff A]];simp
    have s:(fc l[i.val])[r]? = aE (fc l[i.val])[r]:=iV U;obtain⟨y,tU,HW,a1⟩:=pB (i.val*sz+r) _ (J.trans s);refine⟨y,_,?_,s,HW,a1⟩;rw[aG,if_pos A,aK,bE,<-tU];congr 1;omega
   have pE:((arr.toList.drop (L.base+i.val*sz)).take sz).l=sz:=gL;refine⟨by rw[pE,z6],λy B=>?_,λr y d B J=>?_⟩
   .obtain⟨r,A⟩:=aD.1 B;have Z:r<sz:=by have:=(ae.1 A).1;omega
    obtain⟨y',d,p,_,e3,_⟩:=jF r Z;rw[A]at p;cases p;exact e3
   .have Z:r<sz:=by have:=(ae.1 B).1;omega
    obtain⟨y',d',p,I,_,e4⟩:=jF r Z;rw[B]at p;cases p;rw[J]at I;cases I
    exact gj.closed (c:=c) (c':=c.data c.F) (λb F=>F) e4 (xY (gQ _ (bP _)) J) }
 haveI:Inhabited (El c w fc l):=⟨mk ⟨0,h0⟩⟩
 let enc:El c w fc l->List Value:=λe=>e.vs
 let d:Array (El c w fc l):=Array.ofFn mk
 have K:d.size=N:=by simp[d,hN]
 have iL:∀x:El c w fc l,(enc x).l=sz:=λx=>by rw[show enc x=x.vs from rfl,x.cells.len,hl _ x.mem]
 have HH:∀x:El c w fc l,∀y∈enc x,y.oneCell'=true:=λx y B=>x.cells.one y B
 have a4:d.toList.map (λe=>e.a)=l:=by
  apply bU;intro i;simp only[d,ax,bE,Array.getElem?_ofFn]
  by_cases hi:i<l.l
  .simp[hi,mk]
  .simp[hi]
 have hO:SWO (ltOf λx y:El c w fc l=>q x.a y.a):=by
  refine⟨λx=>?_,λx y z=>?_,λx y z=>?_⟩
  .simpa[ltOf]using EJ x.a x.mem
  .simpa[ltOf]using tr x.a x.mem y.a y.mem z.a z.mem
  .simpa[ltOf]using nt x.a x.mem y.a y.mem z.a z.mem
 have ye:∀j,w.cell? ⟨L.b,j,ez⟩=arr[j]? := λj=>by simp[lp,M]
 have hH:HoldsK enc sz w L.b (L.base+0*sz) d:=by
  intro j hj;have T:j<N*sz:=by simpa[K]using hj
  have hq:j / sz<N:=lz (by rw[dS];exact T);have A:j % sz<sz:=nT _ O;have hm:=C _ hq;have Hr:j / sz*sz+j % sz=j:=by rw[dS];exact Nat.div_add_mod j sz
  rw[get_flatK _ _ _ _ (by rw[K];exact T)];refine⟨?_,?_⟩
  .have p:d[j / sz]! = mk ⟨j / sz,U⟩:=by rw[getElem!_pos d (j / sz) U];simp[d]
   rw[ye,p];show _=aE (id ((arr.toList.drop (L.base+j / sz*sz)).take sz)[j % sz]!);rw[getElem!_pos _ (j % sz) gL,List.getElem_take,List.getElem_drop,Array.getElem_toList,bR U];simp only[id];congr 2;omega
  .simp[ku,M]
 have b1:CmpLays P g #[] enc sz (λx y:El c w fc l=>q x.a y.a) L.b (L.base+0*sz) d.size w:=by
  intro m os dk _ x y;have hW:∀b,c.F b->(sortWorldK enc sz w L.b (L.base+0*sz) m dk os).heap[b]? = w.heap[b]? := λb F=>aa6 _ _ _ _ _ _ _ (gp.kO b F) λe=>gp.nF _ tP (e▸F);have sG:gI G (c.data c.F) [] (sortWorldK enc sz w L.b (L.base+0*sz) m dk os):=adg gp (size_sortWorldK_c _ _ _ _ _ _ _ _) hW
  have tR:∀x:El c w fc l,gj (c.data c.F) (sortWorldK enc sz w L.b (L.base+0*sz) m dk os) (.agg (enc x).toArray) (.agg (fc x.a)):=λx=>
   .agg _ _ x.cells.len x.cells.one λi y d B J=>gj.carry (c:=c.data c.F) (c':=c.data c.F) (λ_ _ _ h=>h) (λ_ h=>h) (λb o hF=>Gi (hW b hF)) (x.cells.rep i y d B J)
  have:=hc x.a x.mem y.a y.mem _ _ _ sG (.cons (tR x) (.cons (tR y) .nil));rw[(fZ:(#[la (enc x).toArray,la (enc y).toArray] ++ #[]:Array b4) = [la (enc x).toArray,la (enc y).toArray].toArray)];refine Calls.mono this ?_;rintro e w' ⟨u,c',d',H',he,rfl,_,_,hu,gA⟩;cases hu;exact⟨he,aoC (Bt gA)⟩
 have eg:∀args w,(callFunc g args).run P w = .ok (.enter g args) w:=O5 hg;have jx:=hS.full (El c w fc l) enc iL HH _ hO g L.b (L.base+0*sz) cap d w eg b1 hH S U;rw[K]at jx;refine jx.mono ?_;rintro e w' ⟨rfl,d',n,os,⟨sH,_,oK⟩,b',rfl⟩;have W:d'.size=N:=by rw[sH,K]
 have b0:(d'.toList.map λe=>e.a).Perm l:=by
  refine nP.trans (nP.map _ ?_) (nP.of_eq a4);have p:(d'.extract 0 N).toList=d'.toList:=by rw[<-W];simp
  have I:(d.extract 0 N).toList=d.toList:=by rw[<-K];simp
  rw[p,I]at oK;exact oK
 have a2:(d'.toList.map λe=>e.a).Pairwise λx y=>¬q y x<0:=by
  rw[e7,bG];intro i j hi hj BU;have V:i<d'.size:=by simpa using hi
  have T:j<d'.size:=by simpa using hj
  have:=b' i j (Nat.zero_le _) BU U;rw[getElem!_pos d' j T,getElem!_pos d' i V]at this;simpa[ltOf]using this
 have BX:((d'.toList.map λe=>e.a).map fc).flatten.l=N*sz:=by
  rw[Nf sz _ (λx s=>?_)]
  .simp[W]
  .simp only[az]at s;obtain⟨a,⟨e,_,rfl⟩,rfl⟩:=s;exact hl _ e.mem
 have hF:(flatK enc sz d').size=N*sz:=by rw[size_flatK,W]
 have h8:N*sz<=arr.size-L.base:=U
 obtain⟨w1,w2⟩:=Ft gp Q gv iA M (putCells id (L.base+0*sz) (flatK enc sz d') arr) (by simp[putCells]) HU ((d'.toList.map λe=>e.a).map fc).flatten (by rw[BX];exact E) (λi dd hi=>by
  have V:i<N*sz:=by rw[<-BX];exact(ae.1 hi).1
  have hq:i / sz<N:=lz (by rw[dS];exact V);have A:i % sz<sz:=nT _ O;have s:=d'[i / sz].cells
  rw[Nd sz O _ (λx s=>by
   simp only[az]at s;obtain⟨a,⟨e,_,rfl⟩,rfl⟩:=s
   exact hl _ e.mem)]at hi
  have p:(List.map fc (List.map (λe=>e.a) d'.toList))[i / sz]? = aE (fc d'[i / sz].a):=by simp only[ax,bE];rw[bR U];rfl
  rw[p,Option.bind_some]at hi;have jg:(d'[i / sz].vs).l=sz:=iL d'[i / sz];have I:(d'[i / sz].vs)[i % sz]? = aE (d'[i / sz].vs)[i % sz]:=iV U;refine⟨(d'[i / sz].vs)[i % sz],?_,s.one _ (bP _),gj.closed (c:=c.data c.F) (c':=c) (λb F=>F) (s.rep _ _ _ I hi) (xY (gQ _ d'[i / sz].mem) hi)⟩;rw[putCells,dB,bR U,aH,if_pos ⟨U,by rw[hF];omega⟩];rw[(U:L.base+i-(L.base+0*sz)=i),get_flatK _ _ _ _ (by rw[W];exact V),getElem!_pos d' (i / sz) U];show aE (id (d'[i / sz].vs)[i % sz]!)=_
  rw[getElem!_pos _ (i % sz) U];rfl)
 have zW:ko (w.setRow L.b (putCells id (L.base+0*sz) (flatK enc sz d') arr)) (sortWorldK enc sz w L.b (L.base+0*sz) n d' os):=by
  refine⟨⟨rfl,fj _ _⟩,rfl,rfl,?_,λb F=>?_⟩
  .simp[eh,sortWorldK,grow,putRowK,putRow,mapBlock,Go.Sort.ahead]
  .have uP:b<w.heap.size:=by simpa[eh]using F
   by_cases Y:b=L.b
   .subst Y;rw[lU w L.b arr _ t _ M];simp only[sortWorldK,grow,putRowK,putRow,mapBlock,Go.Sort.ahead];rw[cI (by simpa using uP),bh,if_pos rfl,M];rfl
   .rw[aa6 _ _ _ _ _ _ _ uP Y];simp only[eh,bh];rw[if_neg (cz Y)]
 exact⟨_,c,_,_,rfl,k _ b0 a2,fZ,w1.pP zW,.tup [] [] rfl (λi v d Q=>by simp at Q),w2.trans (CS _ zW) (di _)⟩
end
structure A3(P:bs)(f:eK):Prop where
 full:∀(l4 off cap:Nat) (zs:List Int) (w:bb) (_:Holds (cp .i64) w l4 off zs.toArray) (_:l4<w.heap.size) (_:zs.l<4611686018427387904),
  nC P f #[.slice (aE ⟨l4,off,ez⟩) zs.l cap] w λe w'=>e = .returned (.tuple #[])/\∃n os,w'=grow (putRow (cp .i64) (Go.Sort.ahead w n) l4 off (zs.mergeSort λx y=>decide (x<=y)).toArray) os
section
variable{P:bs}{G:GT}{c:Ctx}{H:gd}{w:bb}
theorem aob{f:eK}(hS:A3 P f)(l:List Int)(h0:0<l.l)(J:l.l<4611686018427387904){v gen:Nat}{t:kf}(m:H[v]? = aE (.row t gen (l.map λn=>D.i n))){R:D->gd->Prop}
  (k:R (.tup []) (H.set v (.row t gen ((l.mergeSort λx y=>decide (x<=y)).map λn=>D.i n)))):vc P G f [.gf v gen 1 0 l.l] H R:=by
 intro c w vs gp s
 cases s with
 | @cons u _ _ _ h1 s=>
 cases s;have E:l.l=l.l:=rfl;revert E;generalize hN:l.l=N at h1;intro E
 cases h1 with
 | lB=>omega
 | gf _ _ _ _ _ cap L z r jE iO lV=>
 have p:=gp.ob v _ m;simp only[Ob.gen]at p;rw[z]at p;simp only[ik,r]at p;obtain⟨arr,h,Y,g,Q⟩:=p;rw[en,hN]at g;have M:l3 c H L.b:=⟨v,L,⟨_,m,rfl,z⟩,r,rfl⟩;have o:=gp.lt _ M;have I:∀j,w.cell? ⟨L.b,j,ez⟩=arr[j]? := λj=>by simp[lp,h]
 have W:Holds (cp .i64) w L.b (L.base+0*1) l.toArray:=by
  intro j T;have B:j<l.l:=by simpa using T
  obtain⟨y,h1,h2,X⟩:=Q j (.i l[j]) (by simp[B]);cases X;refine⟨?_,by simp[ku,h]⟩;rw[I,(U:L.base+0*1+j=L.base+j),h1];simp[B]
 have C:=hS.full L.b (L.base+0*1) cap l w W o J;rw[hN]at C;refine C.mono ?_;rintro e w' ⟨rfl,n,os,rfl⟩;generalize S:(l.mergeSort λx y=>decide (x<=y))=l' at k ⊢;have Z:l'.l=N:=by rw[<-S,eC,hN]
 obtain⟨w1,w2⟩:=Ft gp m z r h (putCells (cp .i64) (L.base+0*1) l'.toArray arr) (by simp[putCells]) Y (l'.map λn=>D.i n) (by rw[en,Z];exact g) (λi dd hi=>by
  rw[ax]at hi;obtain⟨a,F,rfl⟩:=ao.1 hi;have O:i<l'.l:=(ae.1 F).1;refine⟨.int .i64 a,?_,rfl,.val _⟩;rw[putCells,dB,bR U,aH,if_pos ⟨U,gL⟩];rw[(U:L.base+i-(L.base+0*1)=i),getElem!_pos l'.toArray i (by simpa using O)];have:=(ae.1 F).2
  simp[this])
 have A:ko (w.setRow L.b (putCells (cp .i64) (L.base+0*1) l'.toArray arr)) (grow (putRow (cp .i64) (Go.Sort.ahead w n) L.b (L.base+0*1) l'.toArray) os):=by
  refine⟨⟨rfl,fj _ _⟩,rfl,rfl,?_,λb V=>?_⟩
  .simp[eh,grow,putRow,mapBlock,Go.Sort.ahead]
  .have K:b<w.heap.size:=by simpa[eh]using V
   simp only[grow,putRow,mapBlock,Go.Sort.ahead];rw[cI (by simpa using K),bh]
   by_cases q:L.b=b
   .subst q;rw[lU w L.b arr _ t _ h,if_pos rfl,h];rfl
   .simp only[eh,bh];rw[if_neg q,if_neg q]
 exact⟨_,c,_,_,rfl,k,fZ,w1.pP A,.tup [] [] rfl (λi v d m=>by simp at m),w2.trans (CS _ A) (di _)⟩
end
structure AV(P:bs)(f:eK):Prop where
 full:∀(l4 off cap i:Nat) (zs:List Int) (w:bb) (_:Holds (cp .i64) w l4 off zs.toArray) (_:zs.l<=cap) (_:cap<=9223372036854775807) (_:i<zs.l),
  nC P f #[.slice (aE ⟨l4,off,ez⟩) zs.l cap,.int .i64 i,.int .i64 ((i:Int)+1)] w λe w'=>e = .returned (.slice (aE ⟨l4,off,ez⟩) (zs.l-1) cap)/\∃n,w'=putRow (cp .i64) (Go.Sort.ahead w n) l4 off (zs.take i++zs.drop (i+1) ++ [0]).toArray
section
variable{P:bs}{G:GT}{c:Ctx}{H:gd}{w:bb}
theorem adk{f:eK}(hS:AV P f)(l:List Int)(i:Nat)(hi:i<l.l){v gen:Nat}{t:kf}{zs:List D}(B:H[v]? = aE (.row t gen (l.map (λn=>D.i n)++zs))){R:D->gd->Prop}
  (k:R (.gf v gen 1 0 (l.l-1)) (H.set v (.row t gen ((l.take i++l.drop (i+1) ++ [0]).map (λn=>D.i n)++zs)))):vc P G f [.gf v gen 1 0 l.l,.i i,.i ((i:Int)+1)] H R:=by
 intro c w vs gp g
 cases g with
 | @cons u _ _ _ h1 g=>
 cases g with
 | @cons u2 _ _ _ s g=>
 cases g with
 | @cons u3 _ _ _ p g=>
 cases g;cases s;cases p;have M:l.l=l.l:=rfl;revert M;generalize hN:l.l=N at h1;intro M
 cases h1 with
 | lB=>omega
 | gf _ _ _ _ _ cap L x r jE K W=>
 have q:=gp.ob v _ B;simp only[Ob.gen]at q;rw[x]at q;simp only[ik,r]at q;obtain⟨arr,o,HU,d,F⟩:=q;rw[aq,en,hN]at d;have V:l3 c H L.b:=⟨v,L,⟨_,B,rfl,x⟩,r,rfl⟩;have O:=gp.lt _ V;have S:∀j,w.cell? ⟨L.b,j,ez⟩=arr[j]? := λj=>by simp[lp,o]
 have hH:Holds (cp .i64) w L.b (L.base+0*1) l.toArray:=by
  intro j m;have z:j<l.l:=by simpa using m
  obtain⟨y,h1,s,p⟩:=F j (.i l[j]) (by rw[ah (by simpa using z)];simp[z]);cases p;refine⟨?_,by simp[ku,o]⟩;rw[S,(U:L.base+0*1+j=L.base+j),h1];simp[z]
 have J:=hS.full L.b (L.base+0*1) cap i l w hH U (by unfold maxLen at K;omega) hi;rw[hN]at J k;refine J.mono ?_;rintro e w' ⟨rfl,n,rfl⟩;generalize X:l.take i++l.drop (i+1) ++ [0]=l' at k ⊢
 have Q:l'.l=N:=by rw[<-X,aq,aq,aJ,aU,bj,hN];omega
 obtain⟨w1,w2⟩:=Ft gp B x r o (putCells (cp .i64) (L.base+0*1) l'.toArray arr) (by simp[putCells]) HU (l'.map (λn=>D.i n)++zs) (by rw[aq,en,Q];exact d) (λj dd m=>by
  by_cases I:j<l'.l
  .rw[ah (by simpa using I),ax]at m;obtain⟨a,Z,rfl⟩:=ao.1 m;refine⟨.int .i64 a,?_,rfl,.val _⟩;rw[putCells,dB,bR U,aH,if_pos ⟨U,gL⟩];rw[(U:L.base+j-(L.base+0*1)=j),getElem!_pos l'.toArray j (by simpa using I)];have:=(ae.1 Z).2;simp[this]
  .have C:l'.l<=j:=by omega
   rw[ak (by simpa using C),en,Q]at m;obtain⟨y,h1,s,p⟩:=F j dd (by rw[ak (by rw[en];omega),en,hN];exact m);refine⟨y,?_,s,p⟩
   rw[putCells,dB,h1,aH,if_neg (λh=>by have:=h.2;simp at this;omega)])
 have E:ko (w.setRow L.b (putCells (cp .i64) (L.base+0*1) l'.toArray arr)) (putRow (cp .i64) (Go.Sort.ahead w n) L.b (L.base+0*1) l'.toArray):=by
  refine⟨⟨rfl,fj _ _⟩,rfl,rfl,?_,λb Y=>?_⟩
  .simp[eh,putRow,mapBlock,Go.Sort.ahead]
  .have uP:b<w.heap.size:=by simpa[eh]using Y
   simp only[putRow,mapBlock,Go.Sort.ahead];rw[bh]
   by_cases A:L.b=b
   .subst A;rw[lU w L.b arr _ t _ o,if_pos rfl,o];rfl
   .simp only[eh,bh];rw[if_neg A,if_neg A]
 have T:gj c (putRow (cp .i64) (Go.Sort.ahead w n) L.b (L.base+0*1) l'.toArray) (.slice (aE ⟨L.b,L.base+0*1,ez⟩) (N-1) cap) (.gf v gen 1 0 (N-1)):=.gf v gen 1 0 (N-1) cap L x r U K W;exact⟨_,c,_,_,rfl,k,fZ,w1.pP E,T,w2.trans (CS _ E) (di _)⟩
end
end Go.AL
namespace Go.AL
open Go
def Out.ex:Out->fp
 | .norm _=>.normal
 | .exit id _=>.exit id
 | .ret _=>.ret
def amz(A:Array ek):List (List Nat):=A.toList.foldl (init:=[]) λa o=>
 a ++ [dedup ((o.after.toList.filter λe=>hU .any e).flatMap λe=>e.on::a.getD e.on [])]
def amL(l:List il)(ord:List (List Nat)):List (Nat×Nat):=(ga l.l).flatMap λi=>(ga i).filterMap λk=>
 if (ord.getD i []).contains k then ez else match l[k]?,l[i]? with
  | some a,aE b=>if Ph a.op b.op then ez else aE (k,i)
  | _,_=>ez
def Zg:List FuncId:=[283]
def Sp:iT->Bool
 | .call f _=>Zg.contains f
 | .callN f _=>Zg.contains f
 | .callv _ xs=>xs.l == 4
 | _=>eB
def Zh(A:Array ek)(l:List il)(ord:List (List Nat))(n:Nat):Bool:=n<l.l&&(ga l.l).all λi=>decide (i<n)||(ga i).all λk=>(ord.getD i []).contains k||(decide (n<=k)&&decide (k+1=i)&&Fi A k i)
def VM(A:Array ek)(a:List (Nat×Nat))(l:List il)(ord:List (List Nat)):IR:=
 let n:=l.findIdx λe=>Sp e.op
 if Zh A l ord n then .mS a (l.take n) (l.drop n)else .mg a l
def nZ:dx->List (Array hh×dx×dx)
 | .seq a b=>nZ a++nZ b
 | .cond _ a b=>nZ a++nZ b
 | .block _ a=>nZ a
 | .loop a=>nZ a
 | .rangeFunc _ ps a b=>(ps,a,b)::(nZ a++nZ b)
 | _=>[]
def cC(P:bs)(G:GT)(N:Nat)(rf:Nat):List (List Nat)->dx->Option (IR×List (List Nat))
 | hs,.skip=>aE (.skip,hs)
 | hs,.region _ ops eB=>match pM P G N ops ops.toList with
  | some l=>aE (.ops l,hs)
  | none=>aE (.bad,hs)
 | hs,.region _ ops cc=>match pM P G N ops ops.toList with
  | some l=>
   let ord:=amz ops
   let d:=amL l ord
   if zF ops&&yR ops ord&&Ta l ord d then aE (VM ops d l ord,hs)else aE (.bad,hs)
  | none=>aE (.bad,hs)
 | hs,.seq a b=>match cC P G N rf hs a with
  | some (x,lg)=>match cC P G N (rf+(nZ a).l) lg b with
   | some (y,l8)=>aE (.seq x y,l8)
   | none=>ez
  | none=>ez
 | hs,.cond c a b=>match cX G c with
  | some x=>match cC P G N rf hs a with
   | some (y,lg)=>match cC P G N (rf+(nZ a).l) lg b with
    | some (z,l8)=>aE (.cond x y z,l8)
    | none=>ez
   | none=>ez
  | none=>aE (.bad,hs)
 | hs,.block id a=>match hs with
  | l::hs=>match cC P G N rf hs a with
   | some (x,lg)=>aE (.block id l x,lg)
   | none=>ez
  | []=>ez
 | hs,.loop a=>match hs with
  | l::hs=>match cC P G N rf hs a with
   | some (x,lg)=>aE (.loop l x,lg)
   | none=>ez
  | []=>ez
 | hs,.rangeFunc g _ _ _=>match cX G g,hs with
  | some x,l::hs=>aE (.oD rf l x,hs)
  | _,_=>aE (.bad,hs)
 | hs,.exit id=>aE (.exit id,hs)
 | hs,.ret=>aE (.ret,hs)
 | hs,_=>aE (.bad,hs)
inductive oa(P:bs)(G:GT)(N:Nat):IR->dx->Prop
 | skip:oa P G N .skip .skip
 | ops {l id A} (h:pM P G N A A.toList=aE l):oa P G N (.ops l) (.region id A eB)
 | mg {jQ l id A} (ord:List (List Nat)) (h:pM P G N A A.toList=aE l) (he:zF A=cc) (ho:yR A ord=cc) (hp:Ta l ord jQ=cc):oa P G N (.mg jQ l) (.region id A cc)
 | mS {jQ l es id A} (ord:List (List Nat)) (h:pM P G N A A.toList=aE (l++es)) (he:zF A=cc) (ho:yR A ord=cc) (hp:Ta (l++es) ord jQ=cc) (z6:∀i,l.l<=i->i<(l++es).l->∀k,k<i->k∈ord.getD i []\/(l.l<=k/\k+1=i/\Fi A k i=cc)):oa P G N (.mS jQ l es) (.region id A cc)
 | seq {a b x y} (h1:oa P G N x a) (h2:oa P G N y b):oa P G N (.seq x y) (.seq a b)
 | cond {c a b x y z} (hc:cX G c=aE x) (h1:oa P G N y a) (h2:oa P G N z b):oa P G N (.cond x y z) (.cond c a b)
 | block {id l a x} (h:oa P G N x a):oa P G N (.block id l x) (.block id a)
 | loop {l a x} (h:oa P G N x a):oa P G N (.loop l x) (.loop a)
 | oD {rf l x g ps ac bc} (hx:cX G g=aE x) (h:G.rt rf=aE (N,ps,ac,bc)):oa P G N (.oD rf l x) (.rangeFunc g ps ac bc)
 | exit {id}:oa P G N (.exit id) (.exit id)
 | ret:oa P G N .ret .ret
 | bad {c}:oa P G N .bad c
def A1(G:GT)(N rf:Nat)(code:dx):Prop:=∀(i:Nat) (x:Array hh×dx×dx),(nZ code)[i]? = aE x->G.rt (rf+i)=aE (N,x)
def A1.left{G:GT}{N rf:Nat}{a b:dx}{l:List (Array hh×dx×dx)}(hl:l=nZ a++nZ b)(h:∀(i:Nat) (x:Array hh×dx×dx),l[i]? = aE x->G.rt (rf+i)=aE (N,x)):A1 G N rf a/\A1 G N (rf+(nZ a).l) b:=by
 subst hl;refine⟨λi x c=>h i x ?_,λi x c=>?_⟩
 .grind
 .rw[a8];exact h _ x (by rw[ak U];simpa using c)
def PS{P:bs}{G:GT}{N:Nat}:∀ {code:dx} {rf:Nat} {hs j:List (List Nat)} {f:IR},A1 G N rf code->cC P G N rf hs code=aE (f,j)->oa P G N f code:=by
 intro code
 induction code with
 | skip=>intro rf hs j f d h;simp only[cC]at h;cases h;exact .skip
 | region id A mg=>
  intro rf hs j f d h;cases mg
  .simp only[cC]at h;split at h
   .rename_i l hl;cases h;exact .ops hl
   .cases h;exact .bad
  .simp only[cC]at h;split at h
   .rename_i l hl;split at h
    .rename_i n;cases h;simp only[ai]at n;unfold VM;dsimp only;split
     .rename_i v;unfold Zh at v;simp only[ai,bX,decide_eq_true_eq,hI,bp,dz]at v;refine .mS _ (by rw[bV];exact hl) n.1.1 n.1.2 (by rw[bV];exact n.2) λi hi w k D=>?_;rw[bV]at w;have C:(l.take (l.findIdx λe=>Sp e.op)).l=l.findIdx λe=>Sp e.op:=by rw[aJ];omega
      rw[C]at hi ⊢;rcases v.2 i w with h|h
      .omega
      .exact(h k D).imp (λh=>h) λh=>⟨h.1.1,h.1.2,h.2⟩
     .exact .mg _ hl n.1.1 n.1.2 n.2
    .cases h;exact .bad
   .cases h;exact .bad
 | seq a b m p=>
  intro rf hs j f d h;obtain⟨s,r⟩:=A1.left rfl d;simp only[cC]at h;split at h
  .rename_i x q o;split at h
   .rename_i y B u;cases h;exact .seq (m s o) (p r u)
   .cases h
  .cases h
 | cond c a b m p=>
  intro rf hs j f d h;obtain⟨s,r⟩:=A1.left rfl d;simp only[cC]at h;split at h
  .rename_i x t;split at h
   .rename_i y q o;split at h
    .rename_i z B u;cases h;exact .cond t (m s o) (p r u)
    .cases h
   .cases h
  .cases h;exact .bad
 | block id a m=>
  intro rf hs j f d h;simp only[cC]at h;split at h
  .split at h
   .rename_i x q o;cases h;exact .block (m d o)
   .cases h
  .cases h
 | loop a m=>
  intro rf hs j f d h;simp only[cC]at h;split at h
  .split at h
   .rename_i x q o;cases h;exact .loop (m d o)
   .cases h
  .cases h
 | rangeFunc g ps a b m p=>
  intro rf hs j f d h;simp only[cC]at h;split at h
  .rename_i x l q t;cases h;exact .oD t (d 0 _ rfl)
  .cases h;exact .bad
 | exit id=>intro rf hs j f d h;simp only[cC]at h;cases h;exact .exit
 | ret=>intro rf hs j f d h;simp only[cC]at h;cases h;exact .ret
 | _=>intro rf hs j f d h;simp only[cC]at h;cases h;exact .bad
def cR(P:bs):iK->Option ve
 | .tmp t=>aE (.tmp t)
 | .cell a t=>match pj P t,kG P t with
  | some eB,aE _=>aE (.tA a)
  | some cc,aE n=>aE (.PT n a)
  | _,_=>ez
def A7(P:bs):List iK->Option (List ve)
 | []=>aE []
 | x::r=>match cR P x,A7 P r with
  | some a,aE l=>aE (a::l)
  | _,_=>ez
def AN(P:bs)(k:Nat):Option (Nat×Array hh×dx×dx):=match P.funcs[k / 64]? with
 | some fn=>match fn.body with
  | some code=>(nZ code)[k % 64]?.map λx=>(fn.ntmps,x)
  | none=>ez
 | none=>ez
def amW{P:bs}{G:GT}(d:G.rt=AN P){f:Nat}{fn:Func}{code:dx}(b:P.funcs[f]? = aE fn)(c:fn.body=aE code)(hl:(nZ code).l<=64):A1 G fn.ntmps (64*f) code:=by intro i x a;have hi:i<64:=aO (ae.1 a).1 hl;rw[d];unfold AN;rw[(U:(64*f+i) / 64=f),(U:(64*f+i) % 64=i),b];simp[c,a]
structure FR(P:bs)(G:GT)(f:eK)(fn:jq):Prop where
 ex:∃func code hs iv,P.funcs[f]? = aE func/\func.body=aE code/\vq P f=cc/\(nZ code).l<=64/\cC P G fn.ntmps (64*f) hs code=aE (fn.body,iv)/\func.ntmps=fn.ntmps/\A7 P func.results.toList=aE fn.results
structure vf(P:bs)(G:GT)(rf:Nat)(R:qJ):Prop where
 ex:∃N ps ac bc,G.rt rf=aE (N,ps,ac,bc)/\ps.toList=R.params/\(R.params.all λp=>decide (p<N))=cc/\oa P G N R.a ac/\oa P G N R.b bc
structure PH(P:bs)(G:GT)(T:iF):Prop where
 rt:G.rt=AN P
 fn:∀f fn,T.fn f=aE fn->FR P G f fn
 round:∀rf R,T.round rf=aE R->vf P G rf R
 sort:∀f sz,T.sort f=aE sz->xP P f sz
 tm:∀f,T.tm f=cc->A3 P f
 s6:∀f,T.s6 f=cc->AV P f
def Mf(F:nf)(n:Nat)(P:bs)(c:dx)(Q:fp->dr->bb->Prop)(a:dr)(w:bb):Prop:=
 ∀(b:Frame) (k:List Item) (cs:List Frame),b.roundOf=F.round->F.fn b.fn->F.room (cs.l+1+n) ->
  ∃e d w',Q e d w'/\ArrivesIn (Machine.fenced P F) P (lone (b.atR a (.code c :: .inLoop c::k)) cs w) b k cs e d w'
section
variable{F:nf}{n:Nat}{P:bs}{Q:fp->dr->bb->Prop}{a:dr}{w:bb}
theorem ahq{c:dx}(h:c.wpIn F n P (Exit.then (Mf F n P c Q) Q) a w):Mf F n P c Q a w:=by
 intro b k cs t m j;obtain⟨e,i,g,f,d⟩:=h b (.inLoop c::k) cs t m j
 cases e with
 | normal=>
  obtain⟨r,s,o,p,q⟩:=f b k cs t m j;exact⟨r,s,o,p,.of_steps (StepsIn.trans d (.one (nK m j rfl) stepR_inLoop)) q⟩
 | exit id=>exact⟨_,i,g,f,.pass (x:=.inLoop c) rfl (λ_ _=>.inl fZ) d⟩
 | goto l=>exact⟨_,i,g,f,.pass (x:=.inLoop c) rfl (λ_ _=>.inl fZ) d⟩
 | ret=>exact⟨_,i,g,f,.pass (x:=.inLoop c) rfl (λ_ _=>.inl fZ) d⟩
 | panic ch=>exact⟨_,i,g,f,.pass (x:=.inLoop c) rfl (λ_ _=>.inl fZ) d⟩
 | outgrown=>exact⟨_,i,g,f,.pass (x:=.inLoop c) rfl (λ_ _=>.inl fZ) d⟩
theorem aoD{c:dx}(h:Mf F n P c Q a w):(Code.loop c).wpIn F n P Q a w:=by intro b k cs i f d;obtain⟨e,l,w',j,g⟩:=h b k cs i f d;exact⟨e,l,w',j,.of_steps (.one (nK f d rfl) stepR_loop) g⟩
end
section
variable{P:bs}{G:GT}{c:Ctx}{w:bb}{a:dr}{N:Nat}
theorem PL(δ:Dl)(H:gd):H.l<=(δ.app H (Al.last H)).l:=by
 cases δ with
 | no=>exact di _
 | cells v o xs=>simp only[Dl.app];split<;>simp
 | obj v ob=>simp[Dl.app]
 | new ob=>simp[Dl.app,Al.last]
theorem O'(ks:nJ)(H:gd):(rD ks H).l=ks.l:=by simp[rD]
theorem ZL{ks:nJ}{H:gd}{f:Nat->Nat}:∀ {vs:List Nat} {ds:List Deferred},sq c vs ds->(∀v∈vs,∀L,c.ι v 0=aE L->(c.gw ks H).ι (f v) 0=aE L)->sq (c.gw ks H) (vs.map f) ds:=by
 intro vs ds h
 induction h with
 | nil=>intro _;exact .nil
 | cons L h1 e _ b=>intro a;exact .cons L (a _ fZ L h1) e (b λv d=>a v (by simp[d]))
theorem abm{n:Nat}{d:D}{v:Nat}(a:v∈jB n d):n<=v:=by cases d<;>simp only[jB]at a<;>first|(split at a<;>simp at a;omega)|(simp at a)
theorem ZY{n:Nat}{o:Ob}{v:Nat}(a:v∈o9 n o):n<=v:=by
 unfold o9 at a;split at a
 .obtain⟨l2,b,c⟩:=bk.1 a;obtain⟨d,_,rfl⟩:=az.1 b;exact abm c
 .obtain⟨l2,b,c⟩:=bk.1 a;obtain⟨d,_,rfl⟩:=az.1 b;exact abm c
 .cases a
theorem Bd{s:St}(hs:lD G N c w s a){n:Nat}(r:n<=s.H.l)(live:List Nat) :
  ∃c',lD G N c' w (cut n live s) a/\Step n c s.H w c' (cut n live s).H w/\n<=(cut n live s).H.l:=by
 unfold cut;split
 .exact⟨c,⟨hs.gp,DE hs.env live,hs.size,hs.marks⟩,Step.refl _ _ _ _,r⟩
 .dsimp only;generalize j:dedup _=K
  have m:∀v∈K,v∈(((forget live s.env).map λp=>jB n p.2).flatten++((s.H.take n).map (o9 n)).flatten++s.marks.filter (n<=·)).filter (· < s.H.l):=λv b=>by rw[<-j]at b;exact Iv b
  have y:∀(d:D) (v:Nat),v∈jB n d->n<=v:=by intro d v b;cases d<;>simp only[jB]at b<;>first|(split at b<;>simp at b;omega)|(simp at b)
  have x:∀v∈K,n<=v:=by
   intro v b;have:=(aS.1 (m v b)).1;rcases aj.1 this with h|h
   .rcases aj.1 h with h|h
    .grind
    .obtain⟨l,hl,q⟩:=bk.1 h;obtain⟨o,_,rfl⟩:=az.1 hl;exact ZY q
   .grind
  have e:AZ (jn n K):=Y8 x (by rw[<-j];exact OC _);have u:=TJ (ks:=jn n K) hs.gp (n:=n) Y7;refine⟨c.gw (jn n K) s.H,⟨E8 hs.gp e,VV hs.gp (DE hs.env live),hs.size,?_⟩,u,?_⟩
  .refine ZL hs.marks λv b L g=>?_
   have t:v<s.H.l:=by
    rcases bB v s.H.l with h|h
    .exact h
    .rw[hs.gp.out v 0 h]at g;cases g
   have:∃i,iR (jn n K) v=aE i:=by
    by_cases k:v<n
    .refine⟨v,Ts e ?_⟩;unfold jn;rw[ah (by simpa using k)];simp[k]
    .have f:v∈K:=by rw[<-j];refine MV (aS.2 ⟨bL _ (aS.2 ⟨b,by simpa using fQ.1 k⟩),by simpa using t⟩)
     obtain⟨i,hi⟩:=aD.1 f;refine⟨n+i,Ts e ?_⟩;unfold jn;rw[ak fZ];simp[hi]
   obtain⟨i,hi⟩:=this;rw[hi];simp only[aZ];rw[Fw hi];exact g
  .rw[O'];simp[jn]
theorem WV{s:St}(hs:lD G N c w s a)(S:List Nat):∃c',lD G N c' w (mj S s) a/\Step s.H.l c s.H w c' (mj S s).H w/\(mj S s).H.l=s.H.l:=by
 refine⟨c.gw (mJ s.H S) s.H,⟨E8 hs.gp WU,VV hs.gp hs.env,hs.size,?_⟩,TJ hs.gp WT,Qz⟩
 have:=ZL (ks:=mJ s.H S) (H:=s.H) (f:=id) hs.marks λv _ L b=>by
  have i:v<s.H.l:=by
   rcases bB v s.H.l with h|h
   .exact h
   .rw[hs.gp.out v 0 h]at b;cases b
  have d:=WT (S:=S) v i;simp only[ao]at d;obtain⟨p,g,e⟩:=d;simp only[Ctx.gw,id,g,e];exact b
 simpa[mj]using this
theorem amE{n:Nat}{d:D}{v:Nat}(a:v∈EW n d):n<=v:=by
 unfold EW at a;split at a
 .grind
 .grind
 .simp at a
theorem Ap{H:gd}(gp:gI G c H w){n:Nat}(i:n<=H.l)(own:Nat){u:b4}{d:D}(b:gj c w u d) :
  ∃c',gI G c' (leave own n H d).2 w/\gj c' w u (leave own n H d).1/\Step n c H w c' (leave own n H d).2 w/\n<=(leave own n H d).2.l:=by
 unfold leave;split
 .exact⟨c,gp,b,Step.refl _ _ _ _,i⟩
 .dsimp only;generalize e:dedup _=K
  have j:∀v∈K,n<=v:=by
   intro v a;rw[<-e]at a;have:=(aS.1 (Iv a)).1;rcases aj.1 this with h|h
   .split at h
    .simp at h
    .exact amE h
    .grind
    .grind
   .obtain⟨l,hl,g⟩:=bk.1 h;obtain⟨o,_,rfl⟩:=az.1 hl;exact ZY g
  have f:AZ (jn n K):=Y8 j (by rw[<-e];exact OC _);exact⟨c.gw (jn n K) H,E8 gp f,AG gp 40 b,TJ gp Y7,by rw[O'];simp[jn]⟩
theorem ahI(args:List D)(k:Nat):(ti args).get k=(args[k]?).getD .any:=by
 have key:∀(l:List D) (i k:Nat),Env.get ((l.zipIdx i).map λp=>(p.2,p.1)) k=if k<i then .any else(l[k-i]?).getD .any:=by
  intro l
  induction l with
  | nil=>intro i k;simp[Env.get]
  | cons d l a=>
   intro i k;simp only[List.zipIdx_cons,mU,Env.w7];split
   .grind
   .grind
 have:=key args 0 k;simpa[ti]using this
theorem adx{vs:List b4}{args:List D}(b:jK c w vs args)(n:Nat):lj c w (ti args).get { tmps:=vs.toArray++Array.replicate (n-vs.toArray.size) undef,defers:=[] }:=λk=>by
 rw[ahI];have hl:=b.l
 cases f:args[k]? with
 | none=>exact .any _
 | some d=>
  have a:k<vs.l:=by rw[hl];exact(ae.1 f).1
  have g:vs[k]? = aE vs[k]:=by simp[a]
  have:=b.get k vs[k] d g f;simp only[aZ]
  have e:(vs.toArray++Array.replicate (n-vs.toArray.size) undef).getD k undef=vs[k]:=by rw[cT,cI (by simpa using a)];simp[a]
  rw[e];exact this
theorem ahk{H:gd}(h:gI G c H w){t:kf}(k:pj P t=aE eB){x d:D}{u:b4}(j:gj c w u x)(a:xu x H=aE d) :
  ∃v,(hY t u).run P w = .ok v w/\gj c w v d/\∃b o,u = .pointer (aE ⟨b,o,ez⟩):=by
 unfold xu at a;split at a
 .rename_i v g o;split at a
  .rename_i n cs l;have m:=uo l;obtain⟨b,p,rfl,f⟩:=My h m j;obtain⟨u,e,_,i⟩:=O6 k f (d:=d) (by simpa using a);exact⟨u,e,i,b,p,rfl⟩
  .cases a
 .rename_i cs;obtain⟨b,p,rfl,_,f⟩:=zu j;obtain⟨u,e,_,i⟩:=O6 k f a;exact⟨u,e,i,b,p,rfl⟩
 .cases a
theorem ahl{H:gd}(h:gI G c H w){t:kf}{n:Nat}(l:pj P t=aE cc)(hs:kG P t=aE n){x d:D}{u:b4}(k:gj c w u x)(a:wi n x H=aE d) :
  ∃v,(hY t u).run P w = .ok v w/\gj c w v d/\∃b o,u = .pointer (aE ⟨b,o,ez⟩):=by
 unfold wi at a;split at a
 .rename_i v g o;split at a
  .rename_i r cs m;split at a
   .rename_i e;cases a;have q:=uo m;obtain⟨b,p,rfl,i⟩:=My h q k;obtain⟨u,f,j⟩:=O7 (n:=n) l hs i gL;exact⟨u,f,j,b,p,rfl⟩
   .cases a
  .cases a
 .rename_i cs;split at a
  .rename_i e;cases a;obtain⟨b,p,rfl,_,i⟩:=zu k;obtain⟨u,f,j⟩:=O7 (n:=n) l hs i e;exact⟨u,f,j,b,p,rfl⟩
  .cases a
 .cases a
def Cu(tmps:Array b4):iK->Sem b4
 | .tmp t=>pure (tmps.getD t undef)
 | .cell a t=>do loadVar t (<-asAddr (tmps.getD a undef))
theorem am5{s:St}(hs:lD G N c w s a){x:iK}{X:ve}(e:cR P x=aE X){d:D}(f:Ct s X=aE d) :
  ∃v,(Cu a.tmps x).run P w = .ok v w/\gj c w v d:=by
 cases x with
 | tmp t=>
  cases e;simp only[Ct,ar]at f;subst f;exact⟨_,rfl,hs.env t⟩
 | cell p t=>
  have j:=hs.env p;generalize q:a.tmps.getD p undef=u at j
  have key:∀v,(hY t u).run P w = .ok v w->(∃b o,u = .pointer (aE ⟨b,o,ez⟩))->(Cu a.tmps (.cell p t)).run P w = .ok v w:=by rintro v h ⟨b,o,rfl⟩;simpa[hY,Instr.sureAddr,asAddr,Cu,q]using h
  simp only[cR]at e;split at e
  .rename_i n l m;cases e;obtain⟨v,g,i,k⟩:=ahk hs.gp l j f;exact⟨v,key v g k,i⟩
  .rename_i n l m;cases e;obtain⟨v,g,i,k⟩:=ahl hs.gp l m j f;exact⟨v,key v g k,i⟩
  .cases e
theorem Tr{s:St}(hs:lD G N c w s a):∀(l:List iK) {xs:List ve} {ds:List D},A7 P l=aE xs->um s xs=aE ds ->
  ∃vs:List b4,(l.mapM (Cu a.tmps)).run P w = .ok vs w/\jK c w vs ds
 | [],xs,ds,h1,h2=>by cases h1;cases h2;exact⟨[],rfl,.nil⟩
 | x::l,xs,ds,h1,h2=>by
  simp only[A7]at h1;split at h1
  .rename_i X m hX k;cases h1;simp only[um]at h2;split at h2
   .rename_i d j i e;cases h2;obtain⟨v,g,h⟩:=am5 hs hX i;obtain⟨vs,f,b⟩:=Tr hs l k e;exact⟨v::vs,by simp[eO,g,f],.cons h b⟩
   .cases h2
  .cases h1
theorem am7{s:St}(hs:lD G N c w s a){func:Func}{fn:jq}(k:A7 P func.results.toList=aE fn.results){d:D}(g:AL.results fn s=aE d) :
  ∃v,(Go.results func a.tmps).run P w = .ok v w/\gj c w v d:=by
 have e:∀vs:List b4,(func.results.toList.mapM (Cu a.tmps)).run P w = .ok vs w->(Go.results func a.tmps).run P w = .ok (if h:vs.toArray.size=1 then vs.toArray[0]else .tuple vs.toArray) w:=by
  intro vs b
  have h1:(func.results.mapM (Cu a.tmps)).run P w = .ok vs.toArray w:=by rw[e9,Sem.run_map,b];rfl
  have j:Go.results func a.tmps=(do let vs <-func.results.mapM (Cu a.tmps);pure (if h:vs.size=1 then vs[0]else .tuple vs)):=rfl;rw[j,fx,h1];rfl
 unfold AL.results at g;split at g
 .rename_i d' i;cases g;obtain⟨vs,b,f⟩:=Tr hs _ k i
  cases f with
  | cons h t=>
   cases t;exact⟨_,e _ b,h⟩
 .rename_i ds l i;cases g;obtain⟨vs,b,f⟩:=Tr hs _ k i;refine⟨_,e _ b,?_⟩
  have hl:vs.toArray.size≠1:=by
   intro h1;have j:ds.l=1:=by rw[<-f.l];simpa using h1
   match ds,j with
   | [d],_=>exact l d rfl
  rw[dif_neg hl];exact .tup vs ds f.l f.get
 .cases g
end
section
variable{P:bs}{G:GT}{c:Ctx}{H:gd}{w:bb}{env:gZ}{a:dr}{N:Nat}
theorem VN(h:gI G c H w){v:Nat}{ob:Ob}(A:H[v]? = aE ob)(O:ob.alive=cc){L:Loc}(Q:c.ι v ob.gen=aE L)(z:L.jN=eB)
  {w':bb} (F:w'.os=w.os/\w.drawn<=w'.drawn) (R:w'.tape=w.tape) (I:w'.output=w.output) (C:w'.heap.size=w.heap.size) (x:∀b,b≠L.b->w'.heap[b]? = w.heap[b]?) :
  gI G c (H.set v .dead) w'/\Step H.l c H w c (H.set v .dead) w':=by
 have s:=(ae.1 A).1;have t:lM c H v L:=⟨ob,A,O,Q⟩;have E:l3 c H L.b:=⟨v,L,t,z,rfl⟩
 have q:∀u l,lM c (H.set v .dead) u l->u≠v/\lM c H u l:=by
  rintro u l ⟨o,f,y,hi⟩;rw[sO s]at f;split at f
  .cases f;cases y
  .rename_i n;exact⟨n,o,f,y,hi⟩
 have m:∀b,l3 c (H.set v .dead) b->l3 c H b:=λb ⟨u,l,hl,r⟩=>⟨u,l,(q u l hl).2,r⟩
 have hs:Step H.l c H w c (H.set v .dead) w':=
  ⟨F,R,I,U,rfl,λ_ h=>h,λ_ h=>.inl h,λb _ N=>x b (λe=>N (e▸E)),λ_ _ _ _ h=>h,λb i=>.inr (m b i)⟩
 have B:∀u d,gj c w u d->gj c w' u d:=λu d p=>p.p8 h.toHeapOK hs
 refine⟨{
  inj:=λu D l K h1 P=>h.inj u D l K (q _ _ h1).2 (q _ _ P).2
  lt:=λb i=>by rw[C];exact h.lt b (m b i)
  nF:=λb i=>h.nF b (m b i)
  kO:=λb i=>by rw[C];exact h.kO b i
  out:=λu k M=>h.out u k (by simpa using M)
  mB:=λu o k f j=>by
   rw[sO s]at f;split at f
   .cases f;rcases j with j|⟨j,_⟩<;>cases j
   .exact h.mB u o k f j
  ob:=λu o f=>by
   rw[sO s]at f;split at f
   .cases f;simp[ik]
   .rename_i n;refine ik.keep (c:=c) (c':=c) rfl B (λl hl J p=>x _ λe=>n (h.inj u v l L ⟨o,f,p,hl⟩ t J z e)) (h.ob u o f)
  gl:=λg cs hg=>let ⟨a,b⟩:=h.gl g cs hg;⟨a,B _ _ b⟩
  rt:=h.rt },hs⟩
theorem ahc{fn:Func}{tmps:Array b4}{R:Ending->bb->Prop}:∀ {ms:List Nat} {ds:List Deferred} {H H1:gd} {w:bb},sq c ms ds->gI G c H w->kill ms H=aE H1 ->
  (∀w1,gI G c H1 w1->Step H.l c H w c H1 w1->H1.l=H.l->LeavesIn (FW ez) 0 P fn tmps R [] .returning w1)->LeavesInM (FW ez) 0 P fn tmps R ds .returning w:=by
 intro ms
 induction ms with
 | nil=>
  intro ds H H1 w e gp d k;cases e;cases d;exact k w gp (Step.refl _ _ _ _) rfl
 | cons v ms i=>
  intro ds H H1 w e gp d k
  cases e with
  | @cons _ _ ds L h1 h e=>
   simp only[kill]at d;split at d
   .rename_i g;have f:=gp.ob v _ g;simp only[Ob.gen]at f;rw[h1]at f;simp only[ik]at f;have a:=f.resolve_left (by simp[h]);have l:L.b<w.heap.size:=(aQ.1 a).1;obtain⟨k1,k2⟩:=VN (w':={ w with heap:=w.heap.setIfInBounds L.b (.deferred ez) }) gp g rfl h1 h ⟨rfl,di _⟩ rfl rfl fZ (λb j=>by rw[cL (cz j)]);refine⟨fZ,.inl ⟨L.b,{ w with heap:=w.heap.setIfInBounds L.b (.deferred ez) },rfl,?_,?_⟩⟩
    .simp[Instr.takeDeferred,lX,mn,gb,a]
    .refine i e k1 d λw1 q1 q2 q3=>k w1 q1 (k2.trans q2 fZ) (by rw[q3];simp)
   .cases d
theorem anC(gp:gI G c H w)(q:lj c w env a){o:ek}{m:iT}(b:nO P G o=aE m){v:Nat}{args:List D}(f:yieldOf env m=aE (v,args)){rf:Nat}{Q:Env}(M:H[v]? = aE (.iu rf Q .ready)) :
  ∃(L:Loc) (r:Loop) (vs:List b4),c.ι v 0=aE L/\L.jN=eB/\w.heap[L.b]? = aE (.loop r)/\jK c w vs args /\
   (vs.l=r.params.size->(iN a.eval o).run P w = .ok (.round L.b r.fn ((r.params.zip vs.toArray).foldl (λtmps (t,a)=>tmps.setIfInBounds t a) r.tmps) r.assign r.body) w):=by
 unfold yieldOf at f;split at f
 .rename_i y j;split at f
  .rename_i v' E;cases f;obtain⟨cl,p⟩:=Vv b rfl;have S:=b;unfold nO at b;simp only[p,aC,ag]at b;obtain⟨xs,C,b⟩:=b;have J:=A8 gp q cl.args.toList C
   have F:∃x X,cl.callee = .value x/\cX G x=aE X/\X=y/\xs=j:=by
    split at b
    .split at b
     .exfalso;simp only[aF,ar]at b;split at b<;>cases b
     .cases b
    .rename_i x R l;simp only[ag,aF,ar]at b;obtain⟨X,hX,O⟩:=b;cases O;exact⟨x,y,l,hX,rfl,rfl⟩
    .split at b
     .simp only[ag]at b;obtain⟨B,_,b⟩:=b;split at b
      .simp only[ag]at b;obtain⟨i,_,z,_,A,_,b⟩:=b;split at b
       .split at b
        .cases b
        .cases b
       .cases b
      .cases b
     .cases b
    .split at b
     .simp only[ag]at b;obtain⟨B,_,b⟩:=b;split at b
      .simp only[ag]at b;obtain⟨A,_,b⟩:=b;split at b
       .simp only[ag]at b;obtain⟨n,_,b⟩:=b;split at b
        .cases b
        .cases b
       .cases b
      .cases b
     .cases b
    .split at b
     .split at b
      .cases b
      .cases b
      .cases b
      .cases b
     .cases b
    .cases b
    .cases b
    .cases b
   obtain⟨x,X,l,hX,rfl,rfl⟩:=F;have h:=iU gp q hX;rw[E]at h;generalize N:a.eval x=u at h
   cases h with
   | iQ _ L s K=>
    have g:=gp.ob v _ M;simp only[Ob.gen]at g;rw[s]at g;simp only[ik]at g;obtain⟨_,r,d,_⟩:=g;refine⟨L,r,_,s,K,d,J,λI=>?_⟩;have e:cl.args.map a.eval=(cl.args.toList.map a.eval).toArray:=by cases cl.args;simp
    have k:cl.args.size=r.params.size:=by simpa using I
    simp only[iN,p,resolve,l,N,Deferred.ofValue,fx,Sem.run_pure,fa,invoke,Instr.yield,ep,lX,gb,d];simp[gb,d,k,e]
  .cases f
 .cases f
theorem VU:∀(ps:List hh) (vs:List b4) (ds:List D) (tmps:Array b4) (a:Env),jK c w vs ds->(∀p∈ps,p<tmps.size)->(∀k,gj c w (tmps.getD k undef) (a.get k)) ->
  ∀k,gj c w (((ps.zip vs).foldl (λ(tmps:Array b4) (p:hh×b4)=>tmps.setIfInBounds p.1 p.2) tmps).getD k undef) ((uq ps ds a).get k)
 | [],vs,ds,tmps,a,_,_,h,k=>by simpa[uq]using h k
 | p::ps,[],ds,tmps,a,b,_,h,k=>by cases b;simpa[uq]using h k
 | p::ps,v::vs,ds,tmps,a,b,hp,h,k=>by
  cases b with
  | @cons _ d _ ds g b=>
   simp only[List.zip_cons_cons,cj,uq];refine VU ps vs ds (tmps.setIfInBounds p v) ((p,d)::a) b (λq f=>by simpa using hp q (by simp[f])) (λj=>?_) k;have i:p<tmps.size:=hp p fZ;simp only[Env.w7];split
   .rename_i e;subst e;have:(tmps.setIfInBounds p v).getD p undef=v:=by simp[Array.getD,i]
    rw[this];exact g
   .rename_i e
    have:(tmps.setIfInBounds p v).getD j undef=tmps.getD j undef:=by simp only[cT,cL e]
    rw[this];exact h j
theorem WN:∀(l:List (hh×b4)) (tmps:Array b4),(l.foldl (λ(tmps:Array b4) (p:hh×b4)=>tmps.setIfInBounds p.1 p.2) tmps).size=tmps.size
 | [],_=>rfl
 | p::l,tmps=>by simp only[cj];rw[WN l];simp
def xM(G:GT)(N n:Nat)(iG:Bool)(c:Ctx)(H:gd)(w:bb)(R:Out->Prop)(Q:fp->dr->bb->Prop):Prop:=
 ∀(o:Out) (c':Ctx) (w':bb) (a:dr),R o->o.st.iG=iG->n<=o.st.H.l->lD G N c' w' o.st a->Step n c H w c' o.st.H w'->Q o.ex a w'
theorem OS{s:St}(hs:lD G N c w s a){v rf:Nat}{e:Env}{st:qz}(f:s.H[v]? = aE (.iu rf e st)){L:Loc}(j:c.ι v 0=aE L) :
  ∃r:Loop,w.heap[L.b]? = aE (.loop r)/\L.jN=eB/\(∀k,gj c w (r.tmps.getD k undef) (e.get k))/\(∃M,G.rt rf=aE (M,r.params,r.assign,r.body)/\M<=r.tmps.size)/\st.is r:=by
 have b:=hs.gp.ob v _ f;simp only[Ob.gen]at b;rw[j]at b;simp only[ik]at b;obtain⟨h1,r,i,h,d,g⟩:=b;rw[hs.gp.rt]at d;exact⟨r,i,h1,h,d,g⟩
theorem aau{s:St}(hs:lD G N c w s a){v rf:Nat}{d:Env}{st st':qz}(e:s.H[v]? = aE (.iu rf d st)){L:Loc}(g:c.ι v 0=aE L){r:Loop}(f:w.heap[L.b]? = aE (.loop r))
  (b:Loop) (h1:b.tmps=r.tmps) (p:b.params=r.params) (o:b.assign=r.assign) (n:b.body=r.body) (m:st'.is b) :
  lD G N c { w with heap:=w.heap.setIfInBounds L.b (.loop b) } { s with H:=s.H.set v (.iu rf d st') } a/\Step s.H.l c s.H w c (s.H.set v (.iu rf d st')) { w with heap:=w.heap.setIfInBounds L.b (.loop b) } /\
   (mn L.b (.loop b)).run P w = .ok () { w with heap:=w.heap.setIfInBounds L.b (.loop b) }:=by
 obtain⟨x,i,h,u,⟨M,t,q⟩,y⟩:=OS hs e g;rw[f]at i;cases i
 obtain⟨k1,k2⟩:=AU hs.gp e rfl rfl (ob':=.iu rf d st') rfl g h (.loop b) (λw' l j=>by
  simp only[ik];refine⟨h,b,l,λk=>by rw[h1];exact j _ _ (u k),⟨M,?_,by rw[h1];exact q⟩,m⟩
  rw[hs.gp.rt,t,p,o,n])
 exact⟨⟨k1,λk=>(hs.env k).p8 hs.gp.toHeapOK k2,hs.size,hs.marks⟩,k2,by simp[mn,gb,f]⟩
theorem agK(a:Option Nat)(l:Nat):(FW a).inRound l=FW (aE l):=rfl
theorem aoI{s:St}{f:Option Nat}{n:Nat}{o:ek}{X:iT}{next:dr->bb->Prop}{Q:fp->dr->bb->Prop}(hs:lD G N c w s a)(Z:nO P G o=aE X)
  (hd:tD N o.dst=cc) {v rf:Nat} {args:List D} {e0:Env} (ke:yieldOf s.env.get X=aE (v,args)) (B:s.H[v]? = aE (.iu rf e0 .ready)) {M:Nat} {ps:Array hh} {ac bc:dx} (vB:G.rt rf=aE (M,ps,ac,bc))
  (m:args.l=ps.size) (NP:∀p∈ps.toList,p<M) {Ra Rb:Out->Prop}
  (hA:∀(f:Option Nat) (n:Nat) (Q:fp->dr->bb->Prop) (c:Ctx) (w:bb) (a:dr),lD G M c w { env:=uq ps.toList args e0,H:=s.H,iG:=cc } a ->
   xM G M s.H.l cc c s.H w Ra Q->ac.wpIn (FW f) n P Q a w)
  (hn:∀o,Ra o->o.stop=eB/\∃g,o.st.H[v]? = aE (.iu rf g .ready))
  (hB:∀s1 g,Ra (.norm s1)->s1.iG=cc->s1.H[v]? = aE (.iu rf g .ready)->∀(f:Option Nat) (n:Nat) (Q:fp->dr->bb->Prop) (c:Ctx) (w:bb) (a:dr),lD G M c w { s1 with H:=s1.H.set v (.iu rf g .busy) } a ->
   xM G M s1.H.l cc c (s1.H.set v (.iu rf g .busy)) w Rb Q->bc.wpIn (FW f) n P Q a w)
  (hm:∀o,Rb o->∃e,o.st.H[v]? = aE (.iu rf e .busy))
  (k:∀(q:Out) (e:Env) (c':Ctx) (w':bb) (a':dr),Rb q->q.st.H[v]? = aE (.iu rf e .busy)->s.H.l<=q.st.H.l->lD G N c' w' { s with env:=put s.env o.dst (.b !q.stop),H:=q.st.H.set v (.iu rf e q.AM) } a' ->
   Step s.H.l c s.H w c' (q.st.H.set v (.iu rf e q.AM)) w'->next a' w'):o.wpIn (FW f) n P a w next Q:=by
 obtain⟨L,r,vs,gv,iA,u,Y,iE⟩:=anC hs.gp hs.env Z ke B;obtain⟨r0,x,_,a3,⟨M',a4,a6⟩,a5⟩:=OS hs B gv;rw[u]at x;cases x;rw[vB]at a4;cases a4;have W:v<s.H.l:=(ae.1 B).1;have iL:vs.l=r.params.size:=by rw[Y.l];exact m
 refine⟨λ_ _=>trivial,?_⟩;rw[Oper.semAt_plain (FW f) a.eval o (Aw Z),iE iL];refine⟨λh=>by simp[Fence.wide]at h,roundIn_of_wpIn (F:=FW f) trivial ?_⟩;rw[agK]
 have XU:(r.params.zip vs.toArray).foldl (λtmps (t,a)=>tmps.setIfInBounds t a) r.tmps=(r.params.toList.zip vs).foldl (λ(tmps:Array b4) (p:hh×b4)=>tmps.setIfInBounds p.1 p.2) r.tmps:=by rw[<-Array.foldl_toList];simp
 refine hA (aE L.b) _ _ c w _ ⟨hs.gp,λj=>?_,?_,.nil⟩ ?_
 .show gj c w (Array.getD ((r.params.zip vs.toArray).foldl (λtmps (t,a)=>tmps.setIfInBounds t a) r.tmps) j undef) _;rw[XU];exact VU _ _ _ _ _ Y (λp hp=>aO (NP p hp) a6) a3 j
 .show M<=Array.size ((r.params.zip vs.toArray).foldl (λtmps (t,a)=>tmps.setIfInBounds t a) r.tmps);rw[XU,WN];exact a6
 .intro U c1 w1 x S J O V Af;obtain⟨YC,g,A⟩:=hn U S
  cases U with
  | exit=>cases YC
  | ret=>cases YC
  | norm s1=>
   have y:c1.ι v 0=aE L:=Af.old v 0 L W gv;obtain⟨l,b1,b2,b3,_,b5⟩:=OS V A y;have E:l.state = .ready/\l.pending=none:=b5;obtain⟨k1,k2,k3⟩:=aau (P:=P) (st':=.busy) V A y b1 { l with state:=.busy } rfl rfl rfl rfl rfl;refine⟨{ w1 with heap:=w1.heap.setIfInBounds L.b (.loop { l with state:=.busy }) },?_,?_⟩
   .have hg:(ep L.b).run P w1 = .ok l w1:=by simp[ep,lX,gb,b1]
    simp only[Instr.beginRound,fx,hg,fa,k3,E.1];simp
   .refine hB s1 g S J A (aE L.b) _ _ c1 _ x k1 ?_;intro b c2 d h' R g9 Hx NV EA;obtain⟨e,z⟩:=hm b R;have I:v<s1.H.l:=aO W O;have Ak:c2.ι v 0=aE L:=EA.old v 0 L I y;obtain⟨i,d1,d2,d3,_,d5⟩:=OS NV z Ak
    have key:∀(j:Option dx),b.AM.is { i with state:=if j.isNone then .ready else .done,pending:=j }->j.isNone = !b.stop->∃v w',(nm L.b j).run P d = .ok v w'/\next (a.put o.dst v) w':=by
     intro j hj C;obtain⟨e1,e2,e3⟩:=aau (P:=P) (st':=b.AM) NV z Ak d1 { i with state:=if j.isNone then .ready else .done,pending:=j } rfl rfl rfl rfl hj;have hg:(ep L.b).run P d = .ok i d:=by simp[ep,lX,gb,d1]
     refine⟨.bool j.isNone,{ d with heap:=d.heap.setIfInBounds L.b (.loop { i with state:=if j.isNone then .ready else .done,pending:=j }) },?_,?_⟩
     .simp only[nm,fx,hg,fa,e3];rfl
     .have K:gj c2 { d with heap:=d.heap.setIfInBounds L.b (.loop { i with state:=if j.isNone then .ready else .done,pending:=j }) } (.bool j.isNone) (.b !b.stop):=by
       have:D.b (!b.stop)=D.val (.bool j.isNone):=by rw[C]
       rw[this];exact .val _
      have gA:Step s.H.l c s.H w c2 (b.st.H.set v (.iu rf e b.AM)) { d with heap:=d.heap.setIfInBounds L.b (.loop { i with state:=if j.isNone then .ready else .done,pending:=j }) }:=
       (Af.trans (k2.trans (EA.trans e2 Hx) (di _)) O)
      refine k b e c2 _ _ R z (Nat.le_trans O Hx) (hs.next e1.gp gA hd K) gA
    cases b with
    | norm T=>exact key ez ⟨rfl,rfl⟩ rfl
    | ret T=>exact key (aE .ret) ⟨rfl,rfl⟩ rfl
    | exit id T=>exact key (aE (.exit id)) ⟨rfl,rfl⟩ rfl
theorem adw{s:St}(hs:lD G N c w s a){rf:Nat}{ps:Array hh}{ac bc:dx}(l:G.rt rf=aE (N,ps,ac,bc))(live:List Nat)(fn:eK) :
  ∃(c2:Ctx) (w2:bb) (g f:Loc),(mX fn a.tmps ps ac bc ez).run P w = .ok (f.b,[{ target:=.collected g.b,args:=#[] }]) w2/\g.jN=eB/\f.jN=eB /\
   c2.ι s.H.l 0=aE g/\c2.ι (s.H.l+1) 0=aE f/\gI G c2 (s.H ++ [.jH,.iu rf (forget live s.env) .ready]) w2/\Step s.H.l c s.H w c2 (s.H ++ [.jH,.iu rf (forget live s.env) .ready]) w2:=by
 obtain⟨b,_,d⟩:=Oz hs.gp (np.last s.H) (.deferred (aE [])) .jH rfl rfl (λ_ e=>by simp only[ik];exact .inr e);simp only[Al.last]at b d;generalize o:c.set s.H.l 0 ⟨w.heap.size,0,0,eB⟩=c1 at b d;have k:c1.ι s.H.l 0=aE ⟨w.heap.size,0,0,eB⟩:=by rw[<-o];exact Ctx.sP _ _ _ _
 generalize h:w.alloc (.deferred (aE []))=w1 at b d;have p:w1.heap.size=w.heap.size+1:=by rw[<-h];simp
 have n:(s.H ++ [Ob.jH]).l=s.H.l+1:=fZ
 obtain⟨nh,_,i⟩:=Oz b (np.last (s.H ++ [.jH])) (.loop { state:=.ready,pending:=ez,fn:=fn,tmps:=a.tmps,params:=ps,assign:=ac,body:=bc,defers:=w.heap.size }) (.iu rf (forget live s.env) .ready) rfl rfl (λm e=>by
  simp only[ik];refine⟨trivial,_,e,λj=>m _ _ ((DE hs.env live j).p8 hs.gp.toHeapOK d),⟨N,?_,hs.size⟩,rfl,rfl⟩
  rw[<-l,<-b.rt];rfl)
 simp only[Al.last,n,aL,fH]at nh i;refine⟨_,_,⟨w.heap.size,0,0,eB⟩,⟨w1.heap.size,0,0,eB⟩,?_,rfl,rfl,?_,Ctx.sP _ _ _ _,nh,d.trans i U⟩
 .subst h;simp[mX]
 .rw[Ctx.wz _ _ U];exact k
theorem aoG{s:St}{n:Nat}{Q:fp->dr->bb->Prop}(hs:lD G N c w s a){g:kJ}{X:X}(hx:cX G g=aE X){f:eK}{first cap:List D}(pS:ev s.env.get X = .fn (.func f) first cap)
  (kX:vq P f=cc) {rf:Nat} {ps:Array hh} {ac bc:dx} (vB:G.rt rf=aE (N,ps,ac,bc)) {live:List Nat} {R1:D->gd->Prop} {R:Out->Prop}
  (jx:vc P G f (first ++ [.iQ (s.H.l+1)]++cap) (s.H ++ [.jH,.iu rf (forget live s.env) .ready]) R1)
  (k:∀d H',R1 d H'->∃env st o,H'[s.H.l+1]? = aE (.iu rf env st)/\AE { s with H:=H'.set (s.H.l+1) .dead,marks:=s.H.l::s.marks } st=aE o/\R o)
  (U:xM G N s.H.l s.iG c s.H w R Q):(Code.rangeFunc g ps ac bc).wpIn (FW ez) n P Q a w:=by
 refine wpIn_rangeFunc λfn _=>?_;obtain⟨c2,w2,E,l,a',nW,oM,O,F,nh,YA⟩:=adw (P:=P) hs vB live fn;have Yp:∀u d,gj c w u d->gj c2 w2 u d:=λu d hd=>hd.p8 hs.gp.toHeapOK YA;have T:=iU hs.gp hs.env hx;rw[pS]at T;generalize hu:a.eval g=u at T
 cases T with
 | fn _ fs cs _ _ q1 q2 q3 q4=>
  have Z:gj c2 w2 (.func (.yield l.b) #[] #[]) (.iQ (s.H.l+1)):=.iQ _ l F oM
  have iJ:jK c2 w2 (fs ++ [fb (.yield l.b) #[] #[]]++cs) (first ++ [.iQ (s.H.l+1)]++cap):=
   ((jK.ID q1 λi v d h1 C=>Yp _ _ (q3 i v d h1 C)).append (.cons Z .nil)).append (jK.ID q2 λi v d h1 C=>Yp _ _ (q4 i v d h1 C))
  have Eu:(resolve a.eval (rangeCall g l.b) 0).run P w2 = .ok { target:=.fn (.func f) cs.toArray,args:=fs.toArray ++ #[fb (.yield l.b) #[] #[]] } w2:=by simp[resolve,hu,Deferred.ofValue];rfl
  have B:(invoke (.fn (.func f) cs.toArray) (fs.toArray ++ #[fb (.yield l.b) #[] #[]])).run P w2 = .ok (.enter f (fs ++ [fb (.yield l.b) #[] #[]]++cs).toArray) w2:=by have C:=O5 (P:=P) kX (fs ++ [fb (.yield l.b) #[] #[]]++cs).toArray w2;simpa[invoke]using C
  have NB:=jx c2 w2 _ nh iJ
  have kY:CallsIn (FW ez) (n-1) P f (fs ++ [fb (.yield l.b) #[] #[]]++cs).toArray w2 (rangePost (FW ez) n P l.b Q { a with defers:=[{ target:=.collected E.b,args:=#[] }]++a.defers }):=by
   refine Du.2 (NB.mono ?_);rintro e m ⟨v,t,d,K,rfl,hR,r,HG,_,EA⟩;obtain⟨env,st,q,lq,A,Q4⟩:=k d K hR;have M:(s.H ++ [Ob.jH,Ob.iu rf (forget live s.env) .ready]).l=s.H.l+2:=fZ;have O:t.ι s.H.l 0=aE E:=EA.old _ 0 E (by rw[M];omega) O;have F:t.ι (s.H.l+1) 0=aE l:=EA.old _ 0 l (by rw[M];omega) F;have I:=HG.ob _ _ lq;simp only[Ob.gen]at I;rw[F]at I;simp only[ik]at I;obtain⟨_,p,S,_,_,y⟩:=I;have e':l.b<m.heap.size:=(aQ.1 S).1;obtain⟨m1,m2⟩:=VN (w':={ m with heap:=m.heap.setIfInBounds l.b (.loop { p with state:=.exhausted }) }) HG lq rfl F oM ⟨rfl,di _⟩ rfl rfl fZ (λb hb=>by rw[cL (cz hb)])
   have z:Step s.H.l c s.H w t (K.set (s.H.l+1) .dead) { m with heap:=m.heap.setIfInBounds l.b (.loop { p with state:=.exhausted }) }:=
    YA.trans (EA.trans m2 r) (by rw[M];omega)
   have J:lD G N t { m with heap:=m.heap.setIfInBounds l.b (.loop { p with state:=.exhausted }) } { s with H:=K.set (s.H.l+1) .dead,marks:=s.H.l::s.marks } { a with defers:=[{ target:=.collected E.b,args:=#[] }]++a.defers }:=by
    refine⟨m1,λj=>(hs.env j).p8 hs.gp.toHeapOK z,hs.size,.cons E O nW (hs.marks.mono λv L h=>z.old v 0 L ?_ h)⟩;rcases bB v s.H.l with Y|Y
    .exact Y
    .rw[hs.gp.out v 0 Y]at h;cases h
   have Yf:p.state≠.busy:=by
    cases st with
    | busy=>cases A
    | ready=>rw[y.1];decide
    | Be=>rw[y.1];decide
    | zD=>rw[y.1];decide
   have XS:(ns l.b).run P m = .ok p.pending { m with heap:=m.heap.setIfInBounds l.b (.loop { p with state:=.exhausted }) }:=by
    have hg:(ep l.b).run P m = .ok p m:=by have:m.heap[l.b]? = aE (.loop p):=S;simp[ep,lX,gb,this]
    have tS:(mn l.b (.loop { p with state:=.exhausted })).run P m = .ok () { m with heap:=m.heap.setIfInBounds l.b (.loop { p with state:=.exhausted }) }:=by have:m.heap[l.b]? = aE (.loop p):=S;simp[mn,gb,this]
    have V:(p.state == .busy)=false:=by generalize p.state=x at Yf;cases x<;>first|rfl|exact absurd rfl Yf
    simp only[ns,fx,hg,fa,V,tS];simp[tS]
   generalize ({ m with heap:=m.heap.setIfInBounds l.b (.loop { p with state:=.exhausted }) }:bb)=W at J z XS;refine⟨p.pending,W,XS,?_⟩
   have RE:s.H.l<=(K.set (s.H.l+1) .dead).l:=by rw[M]at r;simp;omega
   cases st with
   | busy=>cases A
   | ready=>
    cases A;rw[y.2];exact U _ t _ _ Q4 rfl RE J z
   | Be=>
    cases A;rw[y.2];exact wpIn_ret (U _ t _ _ Q4 rfl RE J z)
   | zD id=>
    cases A;rw[y.2];exact wpIn_exit (U _ t _ _ Q4 rfl RE J z)
  exact⟨l.b,_,w2,_,w2,f,_,w2,a',Eu,λ_ _=>trivial,B,λh=>by simp[Fence.wide]at h,kY⟩
