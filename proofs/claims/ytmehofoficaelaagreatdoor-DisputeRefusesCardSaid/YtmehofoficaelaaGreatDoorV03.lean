/- 3 -/
import Derived.Test.YtmehofoficaelaaGreatDoorV02
import Derived.ChangeKeysEq
set_option linter.all false
open Option renaming some→aE,none→cp,bind_some→lX
open Go.Result renaming andThen_ok→bb,ok→nf
open Go renaming execOp→bs,Value→b4,run_underlying→di,TypeId→dr,IntKind→dx,World→ek,run_eqGuard_agg→eL,MapEntry→e8,BinOp→ga,getObj→hh,FuncId→hI,run_equalIn_struct→iN,run_equalIn_bool'→jk,Program→ku,run_equalIn_int→kx,Operand→kJ,eqGuard→la,run_eql_struct→lb,run_neq_struct→lp,TypeDesc→mn
open Go.Sem renaming run_bind→cc,run_ite→fx,run→hU,run_pure→hY
open Bool renaming true→eh,false→er
open Go.Instr renaming sameBits→en,findKey→ep,mapUpdate→ez,findNow→eB,checkKey→fa,sameNow→gb,lookup→iK,keyThatStays→iV,findAsking→j'
open Go.Program renaming fieldsOf→eK
open Go.Op renaming equalIn→fb,eqFields→fp,eqItems→mX,equal→nm
open List renaming replicate→jm,map_cons→kf,map_nil→lz,range→ns,length→List.l
open Nat renaming ble→lU,le_refl→mU,ble_eq→mV
open Int renaming toNat→Int.n
open UInt8 renaming toNat→UInt8.n
namespace Go.AL
open Go
section
variable{P:ku}{G:GT}{c:Ctx}{H:gd}{w:ek}{K:jO}{env:gZ}{a:Act}
theorem Ss{x:D}{kv u:b4}(b:gj c w u x)(h:keyOf x=aE kv):u=kv:=by
 unfold keyOf at h;split at h
 .cases h;cases b;rfl
 .cases h;cases b;rfl
 .cases h;cases b;rfl
 .rename_i cs;simp only[ao]at h;obtain⟨l,hl,rfl⟩:=h
  cases b with
  | agg vs _ a _ h1=>
   have key:∀(cs:List D) (vs l:List b4),Ig cs=aE l->vs.l=cs.l->(∀(i:Nat) (v:b4) (d:D),vs[i]? = aE v->cs[i]? = aE d->gj c w v d)->vs=l:=by
    intro cs
    induction cs with
    | nil=>intro vs l hl a _;simp[Ig]at hl;subst hl;exact aV (by simpa using a)
    | cons d cs j=>
     intro vs l hl a h1
     cases vs with
     | nil=>simp at a
     | cons v vs=>
      unfold Ig at hl;split at hl
      .grind
      .rename_i k n r e;cases e;simp only[ao]at hl;obtain⟨f,g,rfl⟩:=hl;have h0:=h1 0 v _ rfl rfl;cases h0;rw[j vs f g (by simpa using a) (λi v d m o=>h1 (i+1) v d (by simpa using m) (by simpa using o))]
      .cases hl
   rw[key cs vs l hl a h1]
 .cases h
def y6:List b4->List b4->Bool
 | .int k a::x,.int k' b::y=>k == k'&&a == b&&y6 x y
 | [],[]=>eh
 | _,_=>er
theorem abQ{t:dr}{k:dx}(h:P.underlying t=aE (.int k)):pj P t=aE false:=by simp[pj,h]
theorem EI{k:dx}{ks:List dx}{vs:List b4}(h:tg (k::ks) vs=eh):∃n a,vs = .int k n::a/\tg ks a=true:=by
 cases vs with
 | nil=>cases h
 | cons v a=>
  cases v<;>simp[tg]at h;obtain⟨rfl,h⟩:=h;exact⟨_,_,rfl,h⟩
theorem Tb{t:dr}{k a:dx}(h:P.underlying t=aE (.int k)){vs:List b4}{i:Nat}{n:Int}(b:vs[i]? = aE (.int a n)):(part t vs.toArray i).run P w = .ok (.int a n) w:=by simp[part,CF (abQ h) w,b]
theorem VY(d:Nat){vs us:List b4}:∀(fs:List Field) (i:Nat) (ks:List dx),Cd P i fs=aE ks->tg ks (vs.drop i)=eh->tg ks (us.drop i)=eh ->
  (fp (d+1) vs.toArray us.toArray fs).run P w = .ok (y6 (vs.drop i) (us.drop i)) w
 | [],i,ks,h,hv,hu=>by
  cases h
  cases b:vs.drop i with
  | nil=>cases a:us.drop i with
   | nil=>rfl
   | cons y B=>rw[a]at hu;cases hu
  | cons x xr=>rw[b]at hv;cases hv
 | f::fs,i,ks,h,hv,hu=>by
  simp only[Cd]at h;split at h
  .rename_i k s c p;split at h
   .rename_i r;obtain⟨z,v⟩:=r;cases h;obtain⟨n,l,b,q⟩:=EI hv;obtain⟨m,o,a,t⟩:=EI hu;have A:vs[i]? = aE (.int k n):=by have:=congrArg (·[0]?) b;simpa using this
    have u:us[i]? = aE (.int k m):=by have:=congrArg (·[0]?) a;simpa using this
    have j:vs.drop (i+1)=l:=by rw[<-b9,b];rfl
    have g:us.drop (i+1)=o:=by rw[<-b9,a];rfl
    have e:=VY d fs (i+1) s p (by rw[j];exact q) (by rw[g];exact t);rw[j,g]at e;rw[b,a];simp only[fp,if_pos v,cc,z,Tb c A,Tb c u,bb,kx w d f.type k k n m c,fx,e,y6];cases n == m<;>simp
   .cases h
  .cases h
theorem Zd{l:List dx}:∀ {a b:List b4},tg l a=eh->tg l b=eh->nY (.agg a.toArray) (.agg b.toArray)=y6 a b:=by
 induction l with
 | nil=>intro a b h1 c;cases a<;>cases b<;>simp[tg]at h1 c;simp[nY,y6]
 | cons k ks d=>
  intro a b h1 c;obtain⟨n,i,rfl,f⟩:=EI h1;obtain⟨m,g,rfl,e⟩:=EI c;have h:=d f e;simp[nY,y6]at h ⊢;rw[<-h];cases n == m<;>cases i.l == g.l<;>simp
theorem abH:∀ {a b:List b4},y6 a b=eh->a=b
 | [],[],_=>rfl
 | .int k n::a,.int k' m::b,h=>by simp[y6]at h;obtain⟨⟨rfl,rfl⟩,h⟩:=h;rw[abH h]
 | [],_::_,h=>by simp[y6]at h
theorem aaY(n:Nat):∀ {l:List dx} {a:List b4},tg l a=eh->(a.zip a).all (λ(x,y)=>en n x y)=eh
 | [],[],_=>rfl
 | k::l,v::a,h=>by obtain⟨m,r,e,h⟩:=EI h;cases e;simp only[List.zip_cons_cons,fR,aaY n h];cases n<;>simp[en]
def KC(P:ku)(t:dr)(d:mn)(kk:KK):Prop:=(∃k,d = .int k/\kk = .int k)\/(d = .string/\kk = .str)\/(d = .bool/\kk = .bool)\/∃fs l,d = .struct fs/\kk = .ints l/\Cd P 0 fs.toList=aE l/\P.stoodInHeld t=er
theorem Px{t:dr}{kk:KK}(h:uW P t=aE kk):∃d,P.underlying t=aE d/\KC P t d kk:=by
 unfold uW at h;split at h
 .rename_i fs a;split at h
  .rename_i hs;obtain⟨l,hl,rfl⟩:=ao.1 h;exact⟨_,a,.inr (.inr (.inr ⟨fs,l,rfl,rfl,hl,hs⟩))⟩
  .cases h
 .rename_i k a;cases h;exact⟨_,a,.inl ⟨k,rfl,rfl⟩⟩
 .rename_i a;cases h;exact⟨_,a,.inr (.inl ⟨rfl,rfl⟩)⟩
 .rename_i a;cases h;exact⟨_,a,.inr (.inr (.inl ⟨rfl,rfl⟩))⟩
 .cases h
theorem acr{t:dr}{k:dx}(h:P.underlying t=aE (.int k))(b:Bool)(n:Nat)(m:Int):(fa b (n+1) t (.int k m)).run P w = .ok () w:=by unfold fa;simp only[cc,di h,bb];rfl
theorem run_checkKey{t:dr}{kk:KK}(h:uW P t=aE kk)(b:Bool){kv:b4}(c:kk.has kv=eh)(w:ek):(fa b 10000 t kv).run P w = .ok () w:=by
 obtain⟨d,e,g⟩:=Px h;unfold fa;rcases g with⟨k,rfl,rfl⟩|⟨rfl,rfl⟩|⟨rfl,rfl⟩|⟨fs,l,rfl,rfl,a,_⟩
 .simp only[cc,di e,bb];rfl
 .simp only[cc,di e,bb];rfl
 .simp only[cc,di e,bb];rfl
 .cases kv<;>simp[KK.has]at c;rename_i cs;obtain⟨vs⟩:=cs;simp only[cc,di e,bb];rw[<-Array.forIn_toList];have h0:tg l (vs.drop 0)=true:=by simpa using c
  clear c h;obtain⟨i,hi⟩:∃i,i=0:=⟨_,rfl⟩;rw[<-hi]at a h0;clear hi e;generalize fs.toList=fl at a ⊢
  induction fl generalizing i l with
  | nil=>simp
  | cons f fl q=>
   simp only[Cd]at a;split at a
   .rename_i k s c o;split at a
    .rename_i g;obtain⟨v,u⟩:=g;cases a;obtain⟨n,m,j,p⟩:=EI h0;have x:vs[i]? = aE (.int k n):=by have:=congrArg (·[0]?) j;simpa using this
     have y:vs.drop (i+1)=m:=by rw[<-b9,j];rfl
     have r:=q s (i+1) (by rw[y];exact p) o;rw[List.forIn_cons];simp only[if_pos u,cc,v,Tb c x,bb,acr c,hY];exact r
    .cases a
   .cases a
def oh(kv:b4):List e8->Nat->Option (Nat×b4)
 | [],_=>cp
 | e::es,i=>if nY kv e.key then aE (i,e.val)else oh kv es (i+1)
theorem Qu{d:mn}{kk:KK}(f:(∃k,d = .int k/\kk = .int k)\/(d = .string/\kk = .str)\/(d = .bool/\kk = .bool)){kv:b4}(b:kk.has kv=eh) :
  ∀(es:List e8) (i:Nat),(∀e∈es,kk.has e.key=eh)->eB d kv es i=aE (oh kv es i):=by
 intro es
 induction es with
 | nil=>intro i _;rfl
 | cons e es c=>
  intro i h;have a:=h e fZ;have g:=c (i+1) (λe a=>h e (by simp[a]));unfold eB oh
  have hs:gb d kv e.key=aE (nY kv e.key):=by obtain⟨key,val,born⟩:=e;rcases f with⟨k,rfl,rfl⟩|⟨rfl,rfl⟩|⟨rfl,rfl⟩<;>cases kv<;>simp[KK.has]at b<;>cases key<;>simp[KK.has]at a<;>simp[gb,nY];subst b;subst a;simp
  rw[hs];cases nY kv e.key
  .grind
  .rfl
theorem WC{t:dr}{fs:Array Field}{l:List dx}(d:P.underlying t=aE (.struct fs))(f:Cd P 0 fs.toList=aE l)(g:P.stoodInHeld t=er){kv:b4}(b:(KK.ints l).has kv=eh)(w:ek) :
  ∀(es:List e8) (i:Nat),(∀e∈es,(KK.ints l).has e.key=eh)->(j' t kv es i).run P w = .ok (oh kv es i) w
 | [],i,_=>rfl
 | e::es,i,h=>by
  have a:=h e fZ;have k:=WC d f g b w es (i+1) λe a=>h e (by simp[a]);have m:P.underlying t=aE (.struct (P.fieldsOf t)):=by unfold eK;rw[d]
  have j:P.fieldsOf t=fs:=by unfold eK;rw[d]
  obtain⟨key,val,born⟩:=e;cases kv<;>simp[KK.has]at b;cases key<;>simp[KK.has]at a;rename_i cs ds;obtain⟨vs⟩:=cs;obtain⟨us⟩:=ds;dsimp only at b a
  have c:(nm t (.agg ⟨vs⟩) (.agg ⟨us⟩)).run P w = .ok (nY (.agg ⟨vs⟩) (.agg ⟨us⟩)) w:=by show(fb 10000 t (.agg ⟨vs⟩) (.agg ⟨us⟩)).run P w=_;rw[iN w 9999 t ⟨vs⟩ ⟨us⟩ m g,j,Zd b a];exact VY 9998 (vs:=vs) (us:=us) fs.toList 0 l f (by simpa using b) (by simpa using a)
  unfold j' oh;simp only[cc,c,bb,fx,k];cases nY (.agg ⟨vs⟩) (.agg ⟨us⟩)<;>simp
theorem run_findKey{t:dr}{kk:KK}(h:uW P t=aE kk){kv:b4}(f:kk.has kv=eh)(es:List e8)(c:∀e∈es,kk.has e.key=eh)(w:ek) :
  (ep t kv es).run P w = .ok (oh kv es 0) w:=by
 obtain⟨d,b,a⟩:=Px h;rcases a with a|a|a|⟨fs,l,rfl,rfl,g,j⟩
 .simp[ep,di b,Qu (.inl a) f es 0 c]
 .simp[ep,di b,Qu (.inr (.inl a)) f es 0 c]
 .simp[ep,di b,Qu (.inr (.inr a)) f es 0 c]
 .cases es with
  | nil=>simp[ep,di b,eB,oh]
  | cons e es=>
   have i:eB (.struct fs) kv (e::es) 0=none:=by unfold eB;cases kv<;>cases e.key<;>simp[gb]
   simp only[ep,cc,di b,bb,i];exact WC b g j f w (e::es) 0 c
theorem YR:∀ {l:List dx} {vs:List b4},tg l vs=eh->∀v∈vs,v.oneCell'=eh
 | [],[],_,v,hv=>by cases hv
 | k::ks,.int k' n::vs,h,v,hv=>by
  simp only[tg,ai]at h;rcases av.1 hv with rfl|hv
  .rfl
  .exact YR h.2 v hv
theorem aaC{kk:KK}{v:b4}(h:kk.has v=eh):gj c w v (sM v):=by
 unfold sM;split
 .rename_i cs;cases kk<;>simp only[KK.has]at h<;>first|(cases h;done)|skip
  have:=gj.agg (c:=c) (w:=w) cs.toList (cs.toList.map .val) fZ (YR h) (λi v d b a=>by
   simp only[ax,b,aH,ar]at a;subst a
   exact .val _)
  simpa using this
 .exact .val _
theorem SM{arr:Array e8}{a:Nat}{es:List (b4×D)}(b:FX c w arr a es){kk:KK}(d:∀x∈es,kk.has x.1=eh):∀e∈arr.toList,kk.has e.key=true:=by
 intro e f;obtain⟨i,hi⟩:=aD.1 f;have hl:i<es.l:=by rw[<-b.1];have:=(ae.1 hi).1;simpa using this
 obtain⟨h1,_⟩:=b.2.1 i e es[i] (by simpa using hi) (by simp[hl]);rw[h1];exact d _ (bP hl)
theorem GJ(kv:b4):∀(l:List e8) (es:List (b4×D)) (i:Nat),l.l=es.l ->
  (∀(j:Nat) (e:e8) (x:b4×D),l[j]? = aE e->es[j]? = aE x->e.key=x.1/\gj c w e.val x.2) ->
  (oh kv l i=cp/\rz es kv=cp/\∀y,mE es kv y=es ++ [(kv,y)]) \/
  (∃j v d,oh kv l i=aE (i+j,v)/\rz es kv=aE d/\gj c w v d/\j<l.l/\(∀y,mE es kv y=es.set j (kv,y))/\∃e,l[j]? = aE e/\nY kv e.key=eh)
 | [],[],i,_,_=>.inl ⟨rfl,rfl,λ_=>rfl⟩
 | e::l,(k,d)::es,i,hl,h=>by
  obtain⟨f,n⟩:=h 0 e (k,d) rfl rfl;dsimp only at f n
  by_cases a:nY kv e.key=eh
  .refine .inr ⟨0,e.val,d,by simp[oh,a],by simp[rz,<-f,a],n,fZ,λy=>by simp[mE,<-f,a],e,rfl,a⟩
  .have b:nY kv k=false:=by rw[<-f];simpa using a
   rcases GJ kv l es (i+1) (by simpa using hl) (λj e x a o=>h (j+1) e x (by simpa using a) (by simpa using o))with⟨h1,m,g⟩|⟨j,v,d',h1,m,g,t,r,s,q,p⟩
   .exact .inl ⟨by simp[oh,a,h1],by simp[rz,b,m],λy=>by simp[mE,b,g]⟩
   .exact .inr ⟨j+1,v,d',by simp[oh,a,h1];omega,by simp[rz,b,m],g,gL,λy=>by simp[mE,b,r],s,by simpa using q,p⟩
theorem amg(h:gI G c H w){t k e:dr}{kk:KK}{z:D}(S:P.underlying t=aE (.map k e))(F:uW P k=aE kk)(s:Fu P e=aE z)(ok:Bool){m x:D}{u v:b4}(h1:gj c w u m)(V:gj c w v x)
  (g:Im kk z ok m x H K):∃r,(iK t u v ok).run P w = .ok r w/\ju G c H w K r w:=by
 have o:∃n,(zeroValue e).run P w = .ok n w/\gj c w n z:=by
  unfold Fu at s
  cases hi:P.info? e with
  | none=>simp[hi]at s
  | some i=>
   simp only[hi,lX]at s
   cases C:i.zero with
   | none=>simp[C]at s
   | some n=>
    simp only[C,lX]at s;exact⟨n,by simp[zeroValue,run_typeInfo hi,C],Tp s⟩
 obtain⟨n,J,I⟩:=o;unfold Im at g;split at g
 .rename_i v0 kv X;split at g
  .rename_i Z es Q;obtain⟨rfl,E,g⟩:=g;have f:=Ss V X;subst f
   cases h1 with
   | gH _ L W iA=>
    have y:=h.ob v0 _ (uc Q);simp only[Ob.gen]at y;rw[W]at y;simp only[ik]at y;obtain⟨_,M,arr,q,T,B⟩:=y;have Y:=run_findKey F E arr.toList (SM B M) w;have N:=run_checkKey (w:=w) F arr.isEmpty E
    have A:(iK t (.map (aE L.b)) v ok).run P w=((match oh v arr.toList 0 with
      | some (_,v)=>nf (v,eh) w
      | none=>nf (n,er) w:Result (b4×Bool)).andThen λp w=>.ok (if ok then .tuple #[p.1,.bool p.2]else p.1) w):=by
     have O:(hh L.b).run P w = .ok (.map arr q) w:=by simp[hh,hU,T]
     simp only[iK,cc,di S,bb,O,hY,N,Y]
     cases oh v arr.toList 0 with
     | none=>simp[J]
     | some p=>obtain⟨_,_⟩:=p;simp
    rcases GJ (c:=c) (w:=w) v arr.toList es 0 (by simpa using B.1) (λj e x U R=>let ⟨a,b,_⟩:=B.2.1 j e x (by simpa using U) R;⟨a,b⟩)with⟨f1,f2,_⟩|⟨j,val,d,f1,f2,f3,_⟩
    .rw[f1]at A;rw[f2]at g;refine⟨_,A,.plain h g ?_⟩;cases ok
     .exact I
     .exact .tup [n,.bool er] [z,.val (.bool er)] rfl (λi v d f l=>by
       match i with
       | 0=>simp at f l;subst f;subst l;exact I
       | 1=>simp at f l;subst f;subst l;exact .val _
       | i+2=>simp at f)
    .rw[f1]at A;rw[f2]at g;refine⟨_,A,.plain h g ?_⟩;cases ok
     .exact f3
     .exact .tup [val,.bool eh] [d,.val (.bool eh)] rfl (λi v d' f l=>by
       match i with
       | 0=>simp at f l;subst f;subst l;exact f3
       | 1=>simp at f l;subst f;subst l;exact .val _
       | i+2=>simp at f)
  .exact g.elim
 .grind
theorem anD{kk:KK}(a:kk = .str\/kk = .bool\/∃k,kk = .int k){old new:b4}(h1:kk.has new=eh)(b:kk.has old=eh)(h:nY new old=eh):en 10000 old new=true:=by
 rcases a with rfl|rfl|⟨k,rfl⟩<;>cases new<;>simp[KK.has]at h1<;>cases old<;>simp[KK.has]at b<;>simp[nY]at h<;>simp[en]
 .rename_i x y;obtain⟨x⟩:=x;obtain⟨y⟩:=y;have c:(x == y)=true:=h;have e:=eq_of_beq c;subst e;exact h
 .exact h.symm
 .grind
theorem aaX{kk:KK}(b:(kk = .str\/kk = .bool\/∃k,kk = .int k)\/∃l,kk = .ints l){old new:b4}(h1:kk.has new=eh)(a:kk.has old=eh)(h:nY new old=eh):en 10000 old new=true:=by
 rcases b with b|⟨l,rfl⟩
 .exact anD b h1 a h
 .cases new<;>simp[KK.has]at h1;cases old<;>simp[KK.has]at a;rename_i cs ds;obtain⟨vs⟩:=cs;obtain⟨us⟩:=ds;dsimp only at h1 a;have e:=abH ((Zd h1 a).symm.trans h);subst e;have:=aaY 9999 h1;simp only[en,beq_self_eq_true,eW];exact this
theorem AU{G:GT}{c:Ctx}{H:gd}{w:ek}(h:gI G c H w){v:Nat}{ob ob':Ob}(e:H[v]? = aE ob)(f:ob.alive=eh)(i:ob'.alive=eh)(m:ob'.gen=ob.gen){L:Loc}(g:c.ι v ob.gen=aE L)(a:L.jN=er)(o':Obj)
  (j:∀w',w'.heap[L.b]? = aE o'->(∀u d,gj c w u d->gj c w' u d)->ik c w' (aE L) ob') :
  gI G c (H.set v ob') { w with heap:=w.heap.setIfInBounds L.b o' }/\Step H.l c H w c (H.set v ob') { w with heap:=w.heap.setIfInBounds L.b o' }:=by
 have l:=h.lt _ ⟨v,L,⟨ob,e,f,g⟩,a,rfl⟩;refine abD (w':={ w with heap:=w.heap.setIfInBounds L.b o' }) h e f i m g a ⟨rfl,mU _⟩ rfl rfl fZ (λb k=>?_) (j _ (by simp[l]));rw[cL (cz k)]
theorem ZG{es:List (b4×D)}{kv:b4}{y:D}:∀x∈mE es kv y,x∈es\/x=(kv,y):=by
 induction es with
 | nil=>intro x a;simp[mE]at a;exact .inr a
 | cons e es b=>
  intro x a;obtain⟨k,d⟩:=e;simp only[mE]at a;split at a
  .grind
  .grind
theorem Z5(h:gI G c H w){t k e:dr}{kk:KK}(V:P.underlying t=aE (.map k e))(O:uW P k=aE kk){m x y:D}{u v z:b4}(h1:gj c w u m)(h2:gj c w v x)(W:gj c w z y)
  (s:Ir kk m x y H K):∃w',(ez t u v z).run P w = .ok () w'/\ju G c H w K undef w':=by
 have RQ:(kk = .str\/kk = .bool\/∃k,kk = .int k)\/∃l,kk = .ints l:=by
  obtain⟨d,_,hc⟩:=Px O;rcases hc with⟨k,_,rfl⟩|⟨_,rfl⟩|⟨_,rfl⟩|⟨_,l,_,rfl,_⟩
  .grind
  .grind
  .grind
  .grind
 unfold Ir at s;split at s
 .rename_i v0 kv Hv;split at s
  .rename_i C es Q;obtain⟨rfl,B,s⟩:=s;have hv:=Ss h2 Hv;subst hv
   cases h1 with
   | gH _ L S F=>
    have E:=h.ob v0 _ (uc Q);simp only[Ob.gen]at E;rw[S]at E;simp only[ik]at E;obtain⟨_,tN,arr,f,I,n⟩:=E;have Y:=SM n tN;have Z:=run_findKey O B arr.toList Y w;have U:=run_checkKey (w:=w) O er B
    have X:∀T,∀x∈mE es v T,C.has x.1=true:=λT x g=>by
     rcases ZG x g with h|rfl
     .grind
     .exact B
    rcases GJ (c:=c) (w:=w) v arr.toList es 0 (by simpa using n.1) (λj e x o g=>let ⟨a,b,_⟩:=n.2.1 j e x (by simpa using o) g;⟨a,b⟩)with⟨f1,f2,f3⟩|⟨j,val,d,f1,f2,_,f4,f5,J,f6,f7⟩
    .have R:(ez t (.map (aE L.b)) v z).run P w = .ok () { w with heap:=w.heap.setIfInBounds L.b (.map (arr.push { key:=v,val:=z,born:=f }) (f+1)) }:=by
      have N:(hh L.b).run P w = .ok (.map arr f) w:=by simp[hh,hU,I]
      simp only[ez,cc,di V,bb,N,U,Z,f1];simp[setObj,hU,I]
     obtain⟨m1,m2⟩:=AU h (uc Q) rfl rfl rfl S F (.map (arr.push { key:=v,val:=z,born:=f }) (f+1)) (ob':=.map C (mE es v y)) (by
      intro w' M A;simp only[ik];refine⟨F,X y,_,_,M,?_⟩;rw[f3];refine⟨by simp[n.1],λi e x o g=>?_,by simp[n.2.2]⟩;rw[eH]at o;split at o
      .rename_i hi;cases o;rw[ak (by rw[hi,n.1];exact mU _),hi,n.1]at g;simp at g;subst g;exact⟨rfl,A _ _ W,by rw[hi,n.1,n.2.2]⟩
      .have hi:i<es.l:=by rw[<-n.1];exact(aQ.1 o).1
       rw[ah hi]at g;obtain⟨p,q,r⟩:=n.2.1 i e x o g
       exact⟨p,A _ _ q,r⟩)
     exact⟨_,R,.any,_,c,s,m1,.any _,m2⟩
    .have nD:j<arr.size:=by simpa using f4
     have vN:arr[j]? = aE J:=by simpa using f6
     have RA:C.has J.key=true:=Y J (List.mem_of_getElem? f6)
     have R3:(iV J.key v).run P w = .ok v w:=by simp[iV,aaX RQ B RA f7]
     have R:(ez t (.map (aE L.b)) v z).run P w = .ok () { w with heap:=w.heap.setIfInBounds L.b (.map (arr.modify j λe=>{ e with key:=v,val:=z }) f) }:=by
      have N:(hh L.b).run P w = .ok (.map arr f) w:=by simp[hh,hU,I]
      simp only[ez,cc,di V,bb,N,U,Z,f1,aR,vN,aH,aZ,R3];simp[setObj,hU,I]
     obtain⟨m1,m2⟩:=AU h (uc Q) rfl rfl rfl S F (.map (arr.modify j λe=>{ e with key:=v,val:=z }) f) (ob':=.map C (mE es v y)) (by
      intro w' M A;simp only[ik];refine⟨F,X y,_,_,M,?_⟩;rw[f5];refine⟨by simp[n.1],λi e x o g=>?_,by simp[n.2.2]⟩
      .rw[bh]at o;rw[bT]at g;split at o
       .rename_i hi;subst hi;rw[if_pos rfl]at g;simp only[ao]at o;obtain⟨e0,h0,rfl⟩:=o;split at g
        .cases g;have hj:j<es.l:=by rw[<-n.1];exact nD
         exact⟨rfl,A _ _ W,(n.2.1 j e0 es[j] h0 (by simp[hj])).2.2⟩
        .cases g
       .rename_i hi;rw[if_neg hi]at g;obtain⟨p,q,r⟩:=n.2.1 i e x o g
        exact⟨p,A _ _ q,r⟩)
     exact⟨_,R,.any,_,c,s,m1,.any _,m2⟩
  .exact s.elim
 .exact s.elim
end
section
variable{P:ku}{G:GT}{c:Ctx}{H:gd}{w:ek}{K:jO}{env:gZ}{a:Act}
theorem Zl{t:dr}{l:mQ}(hl:yF P t=aE l)(d:Nat){x y:D}{u v:b4}(h1:gj c w u x)(b:gj c w v y){r:Bool}(h:uG l x y=aE r):(fb (d+1) t u v).run P w = .ok r w:=by
 unfold uG at h;split at h
 .rename_i k m f n;cases h1;cases b;split at h
  .rename_i e;subst e;cases h;unfold yF at hl;split at hl
   .rename_i k0 a;exact kx w d t k k0 m n a
   .cases hl
   .cases hl
   .cases hl
  .cases h
 .cases h1;cases b;cases h;unfold yF at hl;split at hl
  .cases hl
  .cases hl
  .rename_i a;exact jk w d t _ _ a
  .cases hl
 .cases h1;cases b;cases h;rename_i p q;unfold yF at hl;split at hl
  .cases hl
  .rename_i a;have:=run_equalIn_string (P:=P) w d t p q a;rw[ByteArray.toList_eq,ByteArray.toList_eq]at this;exact this
  .cases hl
  .cases hl
 .cases h
theorem Zk{t:dr}{l:mQ}(hl:yF P t=aE l):pj P t=aE false:=by unfold yF at hl;unfold pj;split at hl<;>first|(rename_i a;simp[a])|(rename_i k a;simp[a])|cases hl
theorem VZ(d:Nat){vs us:List b4}{xs a:List D}(k:Cells c w vs xs)(j:Cells c w us a):∀(fs:List Field) (i:Nat) (ls:List mQ) (r:Bool),M3 P i fs=aE ls->mO ls (xs.drop i) (a.drop i)=aE r ->
  (fp (d+1) vs.toArray us.toArray fs).run P w = .ok r w
 | [],i,ls,r,he,hc=>by
  cases he;unfold mO at hc;split at hc
  .cases hc;rfl
  .grind
  .cases hc
 | f::fs,i,ls,r,he,hc=>by
  simp only[M3]at he;split at he
  .rename_i l g hl s;split at he
   .rename_i A;obtain⟨n,J⟩:=A;cases he
    cases b:xs.drop i with
    | nil=>rw[b]at hc;simp[mO]at hc
    | cons x xr=>
     cases e:a.drop i with
     | nil=>rw[b,e]at hc;simp[mO]at hc
     | cons y o=>
      rw[b,e]at hc;simp only[mO]at hc;split at hc
      .rename_i p q G F;cases hc;have L:xs[i]? = aE x:=by have:=congrArg (·[0]?) b;simpa using this
       have I:a[i]? = aE y:=by have:=congrArg (·[0]?) e;simpa using this
       have M:xs.drop (i+1)=xr:=by rw[<-b9,b];rfl
       have K:a.drop (i+1)=o:=by rw[<-b9,e];rfl
       obtain⟨u,E,_,H⟩:=k.get L;obtain⟨v,C,_,HV⟩:=j.get I;have B:=VZ d k j fs (i+1) g q s (by rw[M,K];exact F);have h:=Zl (w:=w) hl d H HV G;have m:=CF (Zk hl) w;have t:(part f.type vs.toArray f.offset).run P w = .ok u w:=by simp[part,m,n,E]
       have z:(part f.type us.toArray f.offset).run P w = .ok v w:=by simp[part,m,n,C]
       simp only[fp,if_pos J,cc,t,z,bb,h,fx,B];cases p<;>simp
      .cases hc
   .cases he
  .cases he
theorem V0{e:dr}{l:mQ}(hl:yF P e=aE l)(d:Nat){vs us:List b4}{xs a:List D}(j:Cells c w vs xs)(h:Cells c w us a):∀(n i:Nat) (r:Bool),mO (jm n l) (xs.drop i) (a.drop i)=aE r ->
  (mX (d+1) e 1 vs.toArray us.toArray (List.range' i n)).run P w = .ok r w
 | 0,i,r,hc=>by
  unfold mO at hc;split at hc
  .cases hc;rfl
  .grind
  .cases hc
 | n+1,i,r,hc=>by
  rw[br]at hc
  cases b:xs.drop i with
  | nil=>rw[b]at hc;simp[mO]at hc
  | cons x xr=>
   cases f:a.drop i with
   | nil=>rw[b,f]at hc;simp[mO]at hc
   | cons y m=>
    rw[b,f]at hc;simp only[mO]at hc;split at hc
    .rename_i p q C B;cases hc;have H:xs[i]? = aE x:=by have:=congrArg (·[0]?) b;simpa using this
     have F:a[i]? = aE y:=by have:=congrArg (·[0]?) f;simpa using this
     have I:xs.drop (i+1)=xr:=by rw[<-b9,b];rfl
     have G:a.drop (i+1)=m:=by rw[<-b9,f];rfl
     obtain⟨u,A,_,E⟩:=j.get H;obtain⟨v,z,_,HV⟩:=h.get F;have t:=V0 hl d j h n (i+1) q (by rw[I,G];exact B);have g:=Zl (w:=w) hl d E HV C;have k:=CF (Zk hl) w;have o:(part e vs.toArray (i*1)).run P w = .ok u w:=by simp[part,k,A]
     have s:(part e us.toArray (i*1)).run P w = .ok v w:=by simp[part,k,z]
     rw[cD];simp only[mX,cc,o,s,bb,g,fx,t];cases p<;>simp
    .cases hc
theorem Z4(h:gI G c H w){t:dr}{ls:List mQ}(d:M4 P t=aE ls)(neg:Bool){x y:D}{u v:b4}(h1:gj c w u x)(E:gj c w v y)(a:wZ eh ls neg x y H K)(xo f:kJ) :
  ∃r,(do la (if neg then .neq else .eql) t xo f u v;binOp (if neg then .neq else .eql) t u v).run P w = .ok r w/\ju G c H w K r w:=by
 unfold M4 at d;split at d
 .rename_i fs i;split at d
  .rename_i g;have J:P.underlying t=aE (.struct (P.fieldsOf t)):=by unfold eK;rw[i]
   have F:P.fieldsOf t=fs:=by unfold eK;rw[i]
   have o:∃cs ds,x = .agg cs/\y = .agg ds:=by
    unfold wZ at a;split at a
    .grind
    .contradiction
    .exact a.elim
   obtain⟨cs,ds,rfl,rfl⟩:=o;simp only[wZ]at a;split at a
   .rename_i r p
    cases h1 with
    | agg vs _ j C B=>
     cases E with
     | agg us _ k A z=>
      have s:Cells c w vs cs:=⟨j,C,B⟩;have q:Cells c w us ds:=⟨k,A,z⟩;have m:=VZ (P:=P) 9998 s q fs.toList 0 ls r d (by simpa using p)
      have b:(fb 10000 t (.agg vs.toArray) (.agg us.toArray)).run P w = .ok r w:=by rw[iN w 9999 t vs.toArray us.toArray J g.1,F];exact m
      cases neg
      .simp only[bC,if_false,cc,eL w .eql t xo f vs.toArray us.toArray g.2,bb,lb,b];exact⟨_,rfl,.val h (by simpa using a)⟩
      .simp only[if_true,cc,eL w .neq t xo f vs.toArray us.toArray g.2,bb,lp,b];exact⟨_,rfl,.val h (by simpa using a)⟩
   .exact a.elim
  .cases d
 .rename_i n e i;split at d
  .rename_i g;obtain⟨hg,L,hi⟩:=g;obtain⟨I,hi⟩:=de.1 hi;obtain⟨l,hl,rfl⟩:=ao.1 d
   have o:∃cs ds,x = .agg cs/\y = .agg ds:=by
    unfold wZ at a;split at a
    .grind
    .contradiction
    .exact a.elim
   obtain⟨cs,ds,rfl,rfl⟩:=o;simp only[wZ]at a;split at a
   .rename_i r p
    cases h1 with
    | agg vs _ j C B=>
     cases E with
     | agg us _ k A z=>
      have s:Cells c w vs cs:=⟨j,C,B⟩;have q:Cells c w us ds:=⟨k,A,z⟩;have m:=V0 (P:=P) (w:=w) hl 9998 s q n 0 r (by simpa using p)
      have b:(fb 10000 t (.agg vs.toArray) (.agg us.toArray)).run P w = .ok r w:=by rw[run_equalIn_array (w:=w) 9999 vs.toArray us.toArray i hi,L,cM];exact m
      cases neg
      .simp only[bC,if_false,cc,eL w .eql t xo f vs.toArray us.toArray hg,bb,lb,b];exact⟨_,rfl,.val h (by simpa using a)⟩
      .simp only[if_true,cc,eL w .neq t xo f vs.toArray us.toArray hg,bb,lp,b];exact⟨_,rfl,.val h (by simpa using a)⟩
   .exact a.elim
  .cases d
 .cases d
theorem Z3(h:gI G c H w){t:dr}(k:P.underlying t=aE .bool)(neg:Bool){x y:D}{u v:b4}(h1:gj c w u x)(m:gj c w v y)(f:wZ er [.bool] neg x y H K)(xo j:kJ) :
  ∃r,(do la (if neg then .neq else .eql) t xo j u v;binOp (if neg then .neq else .eql) t u v).run P w = .ok r w/\ju G c H w K r w:=by
 simp only[wZ]at f;split at f
 .rename_i r d;simp only[mO]at d;split at d
  .rename_i p q e l;cases l;cases d;unfold uG at e;split at e
   .contradiction
   .cases h1;cases m;cases e;rename_i b g _;have a:=jk (P:=P) w 9999 t b g k;have i:nm t (.bool b) (.bool g)=fb 10000 t (.bool b) (.bool g):=rfl;cases neg
    .exact⟨_,by simp[la,binOp,i,a]<;>rfl,.val h (by simpa using f)⟩
    .exact⟨_,by simp[la,binOp,i,a]<;>rfl,.val h (by simpa using f)⟩
   .contradiction
   .cases e
  .cases d
 .grind
theorem O5{f:hI}(h:vq P f=eh)(args:Array b4)(w:ek):(callFunc f args).run P w = .ok (.enter f args) w:=by
 unfold vq at h;split at h
 .rename_i fn b;simp only[ai,bne_iff_ne,ne_eq]at h;have a:fn.body.isNone=false:=by cases a:fn.body<;>simp[a]at h ⊢
  simp[callFunc,b,h.1];intro e;rw[e]at a;cases a
 .cases h
end
section
variable{P:ku}{G:GT}{c:Ctx}{H:gd}{w:ek}{K:jO}{env:gZ}{a:Act}
def Dn(r:Result Next)(v:b4)(w':ek):Prop:=r = .ok (.value v) w'\/(r = .ok .skip w'/\v=undef)
theorem jR{s:Sem b4}{v:b4}{w':ek}(h:s.run P w = .ok v w'):Dn ((do pure (.value (<-s)):Sem Next).run P w) v w':=.inl (by simp[h])
theorem Jq{s:Sem Unit}{w':ek}(h:s.run P w = .ok () w'):Dn ((do s;pure .skip:Sem Next).run P w) undef w':=.inr ⟨by simp[h],rfl⟩
theorem al3(h:gI G c H w){s d:dr}{sd:mn}{k:dx}(hs:P.underlying s=aE sd)(b:P.underlying d=aE (.int k)){x:D}{u:b4}(h1:gj c w u x)
  (a:Gp k x H K):∃r,(convert s d u).run P w = .ok r w/\ju G c H w K r w:=by
 unfold Gp at a;split at a
 .rename_i f n;cases h1;have e:P.intKind d=k:=by simp[Program.intKind,b]
  have:=run_convert_int (P:=P) w s d f n (by rw[hs];rfl) (by rw[e];exact b);rw[e]at this;exact⟨_,this,.val h a⟩
 .exact a.elim
theorem amm(h:gI G c H w){o:Oper}{x:kJ}(l:o.op = .nilCheck x){d:D}(h1:gj c w (a.eval x) d)
  (g:Iz d H K):∃v w',Dn ((bs a.eval o).run P w) v w'/\ju G c H w K v w':=by
 have key:∀v,a.eval x=v->(match v with | .pointer (aE _)=>True | .func (.func _) _ _=>True | .func (.yield _) _ _=>True|_=>False)->Dn ((bs a.eval o).run P w) v w:=by intro v i m;refine .inl ?_;simp only[bs,l,i];split at m<;>simp_all
 generalize i:a.eval x=v at h1;unfold Iz at g;split at g
 .cases h1 with
  | ptr _ _ _ L k j=>exact⟨_,w,key _ i trivial,.plain h g (.ptr _ _ _ L k j)⟩
 .obtain⟨b,p,e,u,t⟩:=zu h1;subst e;exact⟨_,w,key _ i trivial,.plain h g h1⟩
 .cases h1 with
  | fn f fs cs y z s r q n=>exact⟨_,w,key _ i trivial,.plain h g (.fn _ fs cs _ _ s r q n)⟩
 .cases h1 with
  | iQ _ L k j=>exact⟨_,w,key _ i trivial,.plain h g (.iQ _ L k j)⟩
 .exact g.elim
theorem Tq{l:Array kJ}{xs:List D}(h:jK c w (l.toList.map a.eval) xs):∃vs:List b4,l.map a.eval=vs.toArray/\jK c w vs xs:=
 ⟨_,by cases l;simp,h⟩
theorem xD{o:Oper}{cl:Call}(c:o.op = .call cl){b:Builtin}(d:cl.callee = .builtin b):(bs a.eval o).run P w=(builtin b cl.argTypes o.type (cl.args.map λ| .const _=>eh|_=>er) (cl.args.map a.eval)).run P w:=by simp only[bs,c,resolve,d,cc,hY,bb,invoke];rfl
theorem aao(h:gI G c H w)(B:lj c w env a){al:Al}(iy:np H al){o:Oper}{io:iT}(g:nO P G o=aE io)(A:F4 env H al K io) :
  ∃v w',Dn ((bs a.eval o).run P w) v w'/\ju G c H w K v w':=by
 unfold nO at g
 cases p:o.op with
 | move x=>
  simp only[p,aC,ag,aF,ar]at g;obtain⟨X,hX,rfl⟩:=g;exact⟨_,w,.inl (by simp only[bs,p];rfl),.plain h A (iU h B hX)⟩
 | assign x=>
  simp only[p,aC,ag,aF,ar]at g;obtain⟨X,hX,rfl⟩:=g;exact⟨_,w,.inl (by simp only[bs,p];rfl),.plain h A (iU h B hX)⟩
 | pick x y z=>
  simp only[p,aC,ag,aF,ar]at g;obtain⟨X,hX,Y,F,Z,hZ,rfl⟩:=g;obtain⟨b,J,j⟩:=amn h (iU h B hX) (iU h B F) (iU h B hZ) A;exact⟨_,w,.inl (by simp[bs,p,J];rfl),j⟩
 | box e x=>
  simp only[p,aC,ag,aF,ar]at g;obtain⟨X,hX,rfl⟩:=g;obtain⟨r,w',U,j⟩:=alX (P:=P) h iy e (iU h B hX) A;exact⟨r,w',by simp only[bs,p];exact jR U,j⟩
 | alloc e=>
  simp only[p,aC,ag,aF,ar]at g;obtain⟨z,O,rfl⟩:=g;obtain⟨r,w',U,j⟩:=alS (P:=P) h iy O A;exact⟨r,w',by simp only[bs,p];exact jR U,j⟩
 | build t ps=>
  simp only[p,aC,ag]at g;obtain⟨z,O,l,hl,g⟩:=g;split at g
  .rename_i fs C;split at g
   .rename_i hf;simp only[ag,aF,ar]at g;obtain⟨qs,hq,rfl⟩:=g;obtain⟨r,U,j⟩:=alY h B O hl C hf hq A;exact⟨r,w,by simp only[bs,p];exact jR U,j⟩
   .cases g
  .rename_i n e C;simp only[ag,aF,ar]at g;obtain⟨sz,hs,rfl⟩:=g;obtain⟨r,U,j⟩:=alZ h B O hl C hs A;exact⟨r,w,by simp only[bs,p];exact jR U,j⟩
  .cases g
 | buildSlice t n ps=>
  simp only[p,aC,ag]at g;obtain⟨S,C,g⟩:=g;split at g
  .rename_i e;simp only[ag]at g;obtain⟨z,O,sz,hs,l,hl,g⟩:=g;split at g
   .rename_i T;cases g;obtain⟨r,w',U,j⟩:=al0 (P:=P) h iy B C O hs hl T.1 T.2.1 T.2.2 A;exact⟨r,w',by simp only[bs,p];exact jR U,j⟩
   .cases g
  .cases g
 | load t x=>
  simp only[p,aC,ag]at g;obtain⟨X,hX,n,E,b,J,g⟩:=g;cases b
  .cases g;obtain⟨v,q,j⟩:=ame h J (iU h B hX) A;exact⟨v,w,by simp only[bs,p];exact jR q,j⟩
  .cases g;obtain⟨v,q,j⟩:=amf h J E (iU h B hX) A;exact⟨v,w,by simp only[bs,p];exact jR q,j⟩
 | store t x y=>
  simp only[p,aC,ag]at g;obtain⟨X,hX,Y,F,n,E,b,J,g⟩:=g;cases b
  .simp only[bC,if_false]at g;split at g
   .rename_i e;subst e;cases g;obtain⟨w',q,j⟩:=amt h E (iU h B hX) (iU h B F) A;exact⟨_,w',by simp only[bs,p];exact Jq q,j⟩
   .cases g
  .cases g;obtain⟨w',q,j⟩:=amu h E (iU h B hX) (iU h B F) A;exact⟨_,w',by simp only[bs,p];exact Jq q,j⟩
 | nilCheck x=>
  simp only[p,aC,ag,aF,ar]at g;obtain⟨X,hX,rfl⟩:=g;exact amm h p (iU h B hX) A
 | binOp op t x y yt=>
  simp only[p,aC,ag]at g;obtain⟨X,hX,Y,F,g⟩:=g;have I:=iU h B hX;have Q:=iU h B F;split at g
  .split at g
   .rename_i J;cases g;obtain⟨v,q,j⟩:=Z3 (P:=P) h (by unfold Mq at J;split at J<;>first|assumption|cases J) er I Q A x y;exact⟨v,w,by simp only[bs,p];exact jR q,j⟩
   .split at g
    .cases g;obtain⟨v,q,j⟩:=S7 (P:=P) h I Q A t x y;exact⟨v,w,by simp only[bs,p];exact jR q,j⟩
    .simp only[ag,aF,ar]at g;obtain⟨ls,vP,rfl⟩:=g;obtain⟨v,q,j⟩:=Z4 (P:=P) h vP er I Q A x y;exact⟨v,w,by simp only[bs,p];exact jR q,j⟩
  .split at g
   .rename_i J;cases g;obtain⟨v,q,j⟩:=Z3 (P:=P) h (by unfold Mq at J;split at J<;>first|assumption|cases J) eh I Q A x y;exact⟨v,w,by simp only[bs,p];exact jR q,j⟩
   .split at g
    .cases g;obtain⟨v,q,j⟩:=S7 (P:=P) h I Q A t x y;exact⟨v,w,by simp only[bs,p];exact jR q,j⟩
    .simp only[ag,aF,ar]at g;obtain⟨ls,vP,rfl⟩:=g;obtain⟨v,q,j⟩:=Z4 (P:=P) h vP eh I Q A x y;exact⟨v,w,by simp only[bs,p];exact jR q,j⟩
  .cases g;obtain⟨v,q,j⟩:=S7 (P:=P) h I Q A t x y;exact⟨v,w,by simp only[bs,p];exact jR q,j⟩
 | unOp op t x=>
  simp only[p,aC,ag,aF,ar]at g;obtain⟨X,hX,rfl⟩:=g;obtain⟨v,q,j⟩:=amv (P:=P) h (iU h B hX) A;exact⟨v,w,by simp only[bs,p];exact jR q,j⟩
 | convert s d x=>
  simp only[p,aC,ag]at g;obtain⟨X,hX,sd,hs,g⟩:=g;split at g
  .rename_i k hd;cases g;obtain⟨v,q,j⟩:=al3 (P:=P) h hs hd (iU h B hX) A;exact⟨v,w,by simp only[bs,p];exact jR q,j⟩
  .rename_i hd;simp only[ag]at g;obtain⟨b5,l8,g⟩:=g;split at g
   .rename_i e;simp only[ag]at g;obtain⟨ed,b',g⟩:=g;split at g
    .cases g;obtain⟨v,q,j⟩:=alW (P:=P) h l8 b' hd (iU h B hX) A;exact⟨v,w,by simp only[bs,p];exact jR q,j⟩
    .cases g
   .cases g
  .cases g
 | makeFunc f first cap=>
  simp only[p,aC,ag,aF,ar]at g;obtain⟨X,hX,Y,F,rfl⟩:=g;exact⟨_,w,.inl (by simp[bs,p,Instr.makeFunc]),ami h B hX F A⟩
 | makeMap t r=>
  cases r with
  | some r=>simp[p]at g
  | none=>
   simp only[p,aC,ag]at g;obtain⟨S,C,g⟩:=g;split at g
   .simp only[ag,aF,ar]at g;obtain⟨kk,lH,rfl⟩:=g;obtain⟨v,w',q,j⟩:=amj (P:=P) h iy t kk A;exact⟨v,w',by simp only[bs,p];exact jR q,j⟩
   .cases g
 | lookup t x i ok=>
  simp only[p,aC,ag]at g;obtain⟨S,C,g⟩:=g;split at g
  .simp only[ag,aF,ar]at g;obtain⟨z,O,kk,lH,X,hX,Y,F,rfl⟩:=g;obtain⟨v,q,j⟩:=amg (P:=P) h C lH O ok (iU h B hX) (iU h B F) A;exact⟨v,w,by simp only[bs,p];exact jR q,j⟩
  .cases g
 | mapUpdate t m k x=>
  simp only[p,aC,ag]at g;obtain⟨S,C,g⟩:=g;split at g
  .simp only[ag,aF,ar]at g;obtain⟨kk,lH,X,hX,Y,F,Z,hZ,rfl⟩:=g;obtain⟨w',q,j⟩:=Z5 (P:=P) h C lH (iU h B hX) (iU h B F) (iU h B hZ) A;exact⟨_,w',by simp only[bs,p];exact Jq q,j⟩
  .cases g
 | insert t m k x=>
  simp only[p,aC,ag]at g;obtain⟨S,C,g⟩:=g;split at g
  .simp only[ag,aF,ar]at g;obtain⟨kk,lH,X,hX,Y,F,Z,hZ,rfl⟩:=g;obtain⟨w',q,j⟩:=Z5 (P:=P) h C lH (iU h B hX) (iU h B F) (iU h B hZ) A;exact⟨_,w',by simp only[bs,p];exact Jq q,j⟩
  .cases g
 | makeSlice t l m=>
  simp only[p,aC,ag]at g;obtain⟨S,C,g⟩:=g;split at g
  .simp only[ag]at g;obtain⟨z,O,i,hi,g⟩:=g;split at g
   .rename_i T;simp only[ag,aF,ar]at g;obtain⟨X,hX,Y,F,rfl⟩:=g;obtain⟨v,w',q,j⟩:=amk (P:=P) h iy C hi O T.1 T.2 (iU h B hX) (iU h B F) A;exact⟨_,w',by simp only[bs,p];exact jR q,j⟩
   .cases g
  .cases g
 | slice t x lo hi mx=>
  cases mx with
  | some r=>
   cases hi with
   | none=>simp[p]at g
   | some hi=>
    simp only[p,aC,ag]at g;obtain⟨X,hX,L,hL,M,hM,N,hN,S,C,g⟩:=g;split at g
    .simp only[ag,aF,ar]at g;obtain⟨n,E,rfl⟩:=g;obtain⟨v,q,j⟩:=amp (P:=P) h B C E hL hM hN (iU h B hX) A;exact⟨v,w,by simp only[bs,p];exact jR q,j⟩
    .cases g
  | none=>
   simp only[p,aC,ag]at g;obtain⟨X,hX,L,hL,M,hM,g⟩:=g;have I:=iU h B hX;split at g
   .rename_i e C;simp only[ag,aF,ar]at g;obtain⟨n,E,rfl⟩:=g;obtain⟨v,q,j⟩:=amr (P:=P) h B C E hL hM I A;exact⟨v,w,by simp only[bs,p];exact jR q,j⟩
   .rename_i C;cases g
    have hs:∃s,ev env X = .val (.string s):=by
     simp only[F4]at A;unfold Fb at A;split at A
     .rename_i s e;exact⟨s,e⟩
     .exact A.elim
    obtain⟨s,hs⟩:=hs;simp only[F4]at A;rw[hs]at A I
    have EB:a.eval x = .string s:=by generalize a.eval x=u at I;cases I;rfl
    obtain⟨v,q,j⟩:=ams (P:=P) h B C hL hM A;exact⟨v,w,by simp only[bs,p,EB];exact jR q,j⟩
   .rename_i m e C;simp only[ag,aF,ar]at g;obtain⟨n,E,rfl⟩:=g;obtain⟨v,q,j⟩:=amq (P:=P) h B C E hL hM I A;exact⟨v,w,by simp only[bs,p];exact jR q,j⟩
   .cases g
 | fieldAddr t x f=>
  simp only[p,aC,ag]at g;obtain⟨X,hX,S,C,g⟩:=g;split at g
  .simp only[ag]at g;obtain⟨fd,hf,n,E,g⟩:=g;split at g
   .rename_i ky;cases g;obtain⟨v,q,j⟩:=al9 (P:=P) h C hf E ky (iU h B hX) A;exact⟨v,w,by simp only[bs,p];exact jR q,j⟩
   .cases g
  .cases g
 | field t x f=>
  simp only[p,aC,ag]at g;obtain⟨X,hX,S,C,g⟩:=g;split at g
  .simp only[ag,aF,ar]at g;obtain⟨fd,hf,n,E,b,J,rfl⟩:=g;obtain⟨v,q,j⟩:=al8 (P:=P) h C hf J E (iU h B hX) A;exact⟨v,w,by simp only[bs,p];exact jR q,j⟩
  .cases g
 | indexAddr t x i=>
  simp only[p,aC,ag]at g;obtain⟨X,hX,Y,F,g⟩:=g;split at g
  .rename_i e C;simp only[ag]at g;obtain⟨n,E,g⟩:=g;split at g
   .rename_i ky;cases g;obtain⟨v,q,j⟩:=amb (P:=P) h C E ky (iU h B hX) (iU h B F) A;exact⟨v,w,by simp only[bs,p];exact jR q,j⟩
   .cases g
  .rename_i m e C;simp only[ag,aF,ar]at g;obtain⟨n,E,rfl⟩:=g;obtain⟨v,q,j⟩:=amc (P:=P) h C E (iU h B hX) (iU h B F) A;exact⟨v,w,by simp only[bs,p];exact jR q,j⟩
  .cases g
 | index t x i=>
  simp only[p,aC,ag]at g;obtain⟨X,hX,Y,F,g⟩:=g;split at g
  .rename_i m e C;simp only[ag,aF,ar]at g;obtain⟨n,E,b,J,rfl⟩:=g;obtain⟨v,q,j⟩:=ama (P:=P) h C E J (iU h B hX) (iU h B F) A;exact⟨v,w,by simp only[bs,p];exact jR q,j⟩
  .rename_i C;cases g;obtain⟨v,q,j⟩:=amd (P:=P) h C (iU h B hX) (iU h B F) A;exact⟨v,w,by simp only[bs,p];exact jR q,j⟩
  .cases g
 | extract x i=>
  simp only[p,aC,ag,aF,ar]at g;obtain⟨X,hX,rfl⟩:=g;obtain⟨v,q,j⟩:=al7 (P:=P) h (iU h B hX) A;exact⟨v,w,by simp only[bs,p];exact jR q,j⟩
 | call cl=>
  simp only[p,aC,ag]at g;obtain⟨args,tG,g⟩:=g;have D:=A8 h B cl.args.toList tG;split at g
  .split at g
   .cases g;split at A<;>exact(show False from A).elim
   .cases g
  .simp only[ag,aF,ar]at g;obtain⟨X,hX,rfl⟩:=g;exact(show False from A).elim
  .rename_i R;split at g
   .rename_i t u x y lq;have V:cl.argTypes = #[t,u]:=by rw[<-bM (xs:=cl.argTypes),lq]
    obtain⟨vs,W,D⟩:=Tq D;simp only[kf,lz]at D
    cases D with|cons I D=>cases D with|cons Q D=>cases D with|nil=>
    simp only[ag]at g;obtain⟨S,C,g⟩:=g;split at g
    .simp only[ag]at g;obtain⟨i,hi,z,O,ud,N1,g⟩:=g;split at g
     .split at g
      .rename_i T;cases g;obtain⟨v,w',q,j⟩:=alT (P:=P) (ty:=o.type) h iy C ⟨_,N1⟩ hi O T.1 T.2 I Q A;exact⟨v,w',by rw[xD p R,W,V];exact jR q,j⟩
      .cases g
     .cases g
    .cases g
   .cases g
  .rename_i R;split at g
   .rename_i t u x y lq;have V:cl.argTypes = #[t,u]:=by rw[<-bM (xs:=cl.argTypes),lq]
    obtain⟨vs,W,D⟩:=Tq D;simp only[kf,lz]at D
    cases D with|cons I D=>cases D with|cons Q D=>cases D with|nil=>
    simp only[ag]at g;obtain⟨S,C,g⟩:=g;split at g
    .simp only[ag]at g;obtain⟨ud,N1,g⟩:=g;split at g
     .simp only[ag]at g;obtain⟨n,E,g⟩:=g;split at g
      .rename_i ky;cases g;obtain⟨v,w',q,j⟩:=al4 (P:=P) (u:=u) (ty:=o.type) h C E ky I Q A;exact⟨v,w',by rw[xD p R,W,V];exact jR q,j⟩
      .cases g
     .cases g
    .cases g
   .cases g
  .rename_i R;split at g
   .rename_i t x lq;have V:cl.argTypes = #[t]:=by rw[<-bM (xs:=cl.argTypes),lq]
    obtain⟨vs,W,D⟩:=Tq D;simp only[kf,lz]at D
    cases D with|cons I D=>cases D with|nil=>
    split at g
    .rename_i e C;cases g;obtain⟨v,q,j⟩:=S8 (P:=P) (ty:=o.type) (k:=.slice) h C ⟨e,rfl⟩ I A;exact⟨v,w,by rw[xD p R,W,V];exact jR q,j⟩
    .rename_i C;cases g;obtain⟨v,q,j⟩:=S8 (P:=P) (ty:=o.type) (k:=.string) h C rfl I A;exact⟨v,w,by rw[xD p R,W,V];exact jR q,j⟩
    .rename_i k e C;cases g;obtain⟨v,q,j⟩:=S8 (P:=P) (ty:=o.type) (k:=.map) h C ⟨k,e,rfl⟩ I A;exact⟨v,w,by rw[xD p R,W,V];exact jR q,j⟩
    .cases g
   .cases g
  .rename_i R;cases g;obtain⟨v,q,j⟩:=Z6 (P:=P) h B tG eh cl.argTypes o.type A;exact⟨v,w,by rw[xD p R];exact jR (by simpa using q),j⟩
  .rename_i R;cases g;obtain⟨v,q,j⟩:=Z6 (P:=P) h B tG er cl.argTypes o.type A;exact⟨v,w,by rw[xD p R];exact jR (by simpa using q),j⟩
  .cases g
 | _=>simp[p]at g
end
def N6:Int->Bool
 | .ofNat m=>lU m 9223372036854775807
 | .negSucc m=>lU m 9223372036854775807
def agC(n:Int):N6 n=eh↔nX n:=by
 unfold nX
 cases n with
 | ofNat m=>
  have e:N6 (.ofNat m)=lU m 9223372036854775807:=rfl;rw[e,mV];have:(Int.ofNat m)=(m:Int):=rfl;omega
 | negSucc m=>
  have e:N6 (.negSucc m)=lU m 9223372036854775807:=rfl;rw[e,mV];have:Int.negSucc m = -((m:Int)+1):=Int.negSucc_eq m;omega
instance(n:Int):Decidable (nX n):=decidable_of_iff (N6 n=eh) (agC n)
def Od(k:Nat):Int->Bool
 | .ofNat m=>lU m k
 | .negSucc _=>eh
def rr(n:Int)(k:Nat):Prop:=n<=(k:Int)
def ag7(n:Int)(k:Nat):Od k n=eh↔rr n k:=by
 unfold rr
 cases n with
 | ofNat m=>
  have e:Od k (.ofNat m)=lU m k:=rfl;rw[e,mV];have:(Int.ofNat m)=(m:Int):=rfl;omega
 | negSucc m=>
  have e:Od k (.negSucc m)=true:=rfl;rw[e];have:Int.negSucc m = -((m:Int)+1):=Int.negSucc_eq m;simp only[true_iff];omega
instance(n:Int)(k:Nat):Decidable (rr n k):=decidable_of_iff (Od k n=eh) (ag7 n k)
inductive Dl where
 | no
 | cells (v o:Nat) (xs:List D)
 | obj (v:Nat) (ob:Ob)
 | new (ob:Ob)
 deriving Inhabited
def Dl.app(H:gd)(al:Al):Dl->gd
 | .no=>H
 | .cells v o xs=>match H[v]? with
  | some (.row t g cs)=>H.set v (.row t g (cs.take o++xs++cs.drop (o+xs.l)))
  | _=>H
 | .obj v ob=>H.set v ob
 | .new ob=>al.2 ob
abbrev R:=Option (D×Dl)
def ret(d:D):R:=aE (d,.no)
def kc(op:ga)(k:dx)(a b:Int):Option D:=
 match op with
 | .add=>if k = .i64 then(if nX (a+b)then aE (.val (.int .i64 (a+b)))else cp)else aE (.val (.int k (k.wrap (a+b))))
 | .sub=>if k = .i64 then(if nX (a-b)then aE (.val (.int .i64 (a-b)))else cp)else aE (.val (.int k (k.wrap (a-b))))
 | .mul=>if k = .i64 then(if nX (a*b)then aE (.val (.int .i64 (a*b)))else cp)else aE (.val (.int k (k.wrap (a*b))))
 | .quo=>if b=0 then cp else aE (.val (.int k (k.wrap (a.tdiv b))))
 | .rem=>if b=0 then cp else aE (.val (.int k (a.tmod b)))
 | .and | .or | .xor | .andNot=>aE (.val (.int k (bits op k a b)))
 | .eql=>aE (.val (.bool (a == b)))
 | .neq=>aE (.val (.bool (a != b)))
 | .lss=>aE (.val (.bool (decide (a<b))))
 | .leq=>aE (.val (.bool (decide (a<=b))))
 | .gtr=>aE (.val (.bool (decide (a>b))))
 | .geq=>aE (.val (.bool (decide (a>=b))))
 | _=>cp
def TK(op:ga)(k:dx)(a b:Int):Option D:=
 match op with
 | .shl=>if 0<=b then aE (.val (.int k (k.wrap (a*2 ^ (min b.n k.bits)))))else cp
 | .shr=>if 0<=b then aE (.val (.int k (a.fdiv (2 ^ (min b.n k.bits)))))else cp
 | _=>cp
def Fh(op:ga)(a b:ByteArray):Option D:=
 match op with
 | .eql=>aE (.val (.bool (a.data.toList == b.data.toList)))
 | .neq=>aE (.val (.bool (!(a.data.toList == b.data.toList))))
 | .add=>if rr ((a.size+b.size:Nat):Int) 9223372036854775807 then aE (.val (.string (a++b)))else cp
 | _=>cp
def lk(op:ga)(x y:D):Option D:=
 match x,y with
 | .val (.int k a),.val (.int k' b)=>if pY op then TK op k a b else if k=k' then kc op k a b else cp
 | .val (.string a),.val (.string b)=>Fh op a b
 | _,_=>cp
def Fk(op:UnOp)(x:D):Option D:=
 match op,x with
 | .not,.val (.bool b)=>aE (.val (.bool (!b)))
 | .neg,.val (.int .i64 n)=>if nX (-n)then aE (.val (.int .i64 (-n)))else cp
 | .xor,.val (.int k n)=>aE (.val (.int k (bits .xor k (if k.signed then -1 else k.max) n)))
 | _,_=>cp
def Bk(c:Bool)(ls:List mQ)(neg:Bool)(x y:D):Option D:=
 match c,x,y with
 | true,.agg a,.agg b=>match mO ls a b with
  | some r=>aE (.val (.bool (if neg then !r else r)))
  | none=>cp
 | false,x,y=>match mO ls [x] [y]with
  | some r=>aE (.val (.bool (if neg then !r else r)))
  | none=>cp
 | _,_,_=>cp
def Cr(c a b:D):Option D:=
 match c with
 | .val (.bool x)=>aE (if x then a else b)
 | _=>cp
def xu(x:D)(H:gd):Option D:=
 match x with
 | .ptr v g o=>match rowAt H v g with
  | some (_,cs)=>cs[o]?
  | none=>cp
 | .gC cs=>cs[0]?
 | _=>cp
def wi(n:Nat)(x:D)(H:gd):Option D:=
 match x with
 | .ptr v g o=>match rowAt H v g with
  | some (_,cs)=>if o+n<=cs.l then aE (.agg ((cs.drop o).take n))else cp
  | none=>cp
 | .gC cs=>if n<=cs.l then aE (.agg (cs.take n))else cp
 | _=>cp
def CN(a x:D)(H:gd):R:=
 match a with
 | .ptr v g o=>match rowAt H v g with
  | some (_,cs)=>if o<cs.l/\one x=eh then aE (.any,.cells v o [x])else cp
  | none=>cp
 | _=>cp
def CQ(n:Nat)(a x:D)(H:gd):R:=
 match a,cellsOf x with
 | .ptr v g o,aE xs=>match rowAt H v g with
  | some (_,cs)=>if xs.l=n/\o+n<=cs.l then aE (.any,.cells v o xs)else cp
  | none=>cp
 | _,_=>cp
def sY(t:dr)(x:D)(n:Nat):R:=
 match cellsOf x with
 | some cs=>aE (.ptr n 0 0,.new (.row t 0 cs))
 | none=>cp
def Dt(env:gZ)(z:List D)(ps:List (Nat×Nat×X)):Option D:=
 match partsOf env ps with
 | some l=>match lay l z with
  | some cs=>aE (.agg cs)
  | none=>cp
 | none=>cp
def zr(env:gZ)(t sz:Nat)(z:List D)(m:Nat)(ps:List (Nat×X))(n:Nat):R:=
 match partsOf env (ps.map λp=>(p.1*sz,sz,p.2))with
 | some l=>match lay l (jm m z).flatten with
  | some cs=>aE (.gf n 0 sz 0 m,.new (.row t 0 cs))
  | none=>cp
 | none=>cp
def GG(off:Nat)(x:D):Option D:=
 match x with
 | .ptr v g o=>aE (.ptr v g (o+off))
 | .gC cs=>aE (.gC (cs.drop off))
 | _=>cp
def Bq(off n:Nat)(a:Bool)(x:D):Option D:=
 match x with
 | .agg cs=>if a then(if off+n<=cs.l then aE (.agg ((cs.drop off).take n))else cp)else cs[off]?
 | _=>cp
def mC(sz:Nat)(x i:D):Option D:=
 match x,i with
 | .sl ia es,.val (.int _ n)=>if ia=sz/\0<=n/\n<es.l then aE (.gC (es.getD n.n []))else cp
 | .kW vs,.val (.int _ n)=>if 1=sz/\0<=n/\n<vs.l then aE (.gC [.val (vs.getD n.n undef)])else cp
 | .gf v g ia off len,.val (.int _ n)=>if ia=sz/\0<=n/\n<len then aE (.ptr v g ((off+n.n)*sz))else cp
 | _,_=>cp
def H9(sz n:Nat)(x i:D):Option D:=
 match x,i with
 | .ptr v g o,.val (.int _ k)=>if 0<=k/\k<n then aE (.ptr v g (o+k.n*sz))else cp
 | .gC cs,.val (.int _ k)=>if 0<=k/\k<n then aE (.gC (cs.drop (k.n*sz)))else cp
 | _,_=>cp
def N7(sz n:Nat)(a:Bool)(x i:D):Option D:=
 match x,i with
 | .agg cs,.val (.int _ k)=>if 0<=k/\k<n then Bq (k.n*sz) sz a (.agg cs)else cp
 | _,_=>cp
def Sm(x i:D):Option D:=
 match x,i with
 | .val (.string s),.val (.int _ k)=>if 0<=k/\k<s.size then aE (.val (.int .u8 ((s.data.toList.getD k.n 0).n)))else cp
 | _,_=>cp
def Cf(a:KK)(z:D)(ok:Bool)(m k:D)(H:gd):Option D:=
 match m,keyOf k with
 | .gH v,aE kv=>match lW H v with
  | some (kk,es)=>if kk=a/\kk.has kv=eh then(match rz es kv with
    | some d=>aE (if ok then .tup [d,.val (.bool eh)]else d)
    | none=>aE (if ok then .tup [z,.val (.bool er)]else z))else cp
  | none=>cp
 | _,_=>cp
def As(a:KK)(m k x:D)(H:gd):R:=
 match m,keyOf k with
 | .gH v,aE kv=>match lW H v with
  | some (kk,es)=>if kk=a/\kk.has kv=eh then aE (.any,.obj v (.map kk (mE es kv x)))else cp
  | none=>cp
 | _,_=>cp
def M8(x:D)(i:Nat):Option D:=
 match x with
 | .tup ds=>ds[i]?
 | _=>cp
def ER(t sz bytes:Nat)(z:List D)(l c:D)(v:Nat):R:=
 match l,c with
 | .val (.int _ n),.val (.int _ m)=>if 0<=n/\n<=m/\rr m 9223372036854775807/\rr ((bytes:Int)*m) 281474976710656 then aE (.gf v 0 sz 0 n.n,.new (.row t 0 (jm m.n z).flatten))else cp
 | _,_=>cp
def uu(env:gZ)(sz:Nat)(x:D)(lo hi:Option X):Option D:=
 match x with
 | .sl a es=>match iq env lo 0,iq env hi es.l with
  | some l,aE h=>if a=sz/\0<=l/\l<=h/\h<=es.l then aE (.sl sz ((es.drop l.n).take (h.n-l.n)))else cp
  | _,_=>cp
 | .gf v g a off len=>match iq env lo 0,iq env hi len with
  | some l,aE h=>if a=sz/\0<=l/\l<=h/\h<=len then aE (.gf v g sz (off+l.n) (h.n-l.n))else cp
  | _,_=>cp
 | .gi=>match iq env lo 0,iq env hi 0 with
  | some l,aE h=>if l=0/\h=0 then aE .gi else cp
  | _,_=>cp
 | _=>cp
def yX(env:gZ)(sz:Nat)(x:D)(lo:Option X)(hi mx:X):Option D:=
 match iq env lo 0,iq env (aE hi) 0,iq env (aE mx) 0 with
 | some l,aE h,aE m=>match x with
  | .sl a es=>if a=sz/\0<=l/\l<=h/\h=m/\m<=es.l then aE (clip sz ((es.drop l.n).take (h.n-l.n)))else cp
  | .gf v g a off len=>if a=sz/\0<=l/\l<=h/\h<=m/\m<=len then aE (.gf v g sz (off+l.n) (h.n-l.n))else cp
  | .gi=>if l=0/\h=0/\m=0 then aE .gi else cp
  | _=>cp
 | _,_,_=>cp
def AP(env:gZ)(sz n:Nat)(x:D)(lo hi:Option X)(H:gd):Option D:=
 match x,iq env lo 0,iq env hi n with
 | .gC cs,aE l,aE h=>if sz=1/\n<=cs.l/\n<=16777216/\0<=l/\l<=h/\h<=n then aE (.sl 1 (((cs.drop l.n).take (h.n-l.n)).map λd=>[d]))else cp
 | .ptr v g o,aE l,aE h=>match rowAt H v g with
  | some (_,cs)=>if o % sz=0/\o+n*sz<=cs.l/\n<=16777216/\0<=l/\l<=h/\h<=n then aE (.gf v g sz (o / sz+l.n) (h.n-l.n))else cp
  | none=>cp
 | _,_,_=>cp
def Pb(env:gZ)(x:D)(lo hi:Option X):Option D:=
 match x with
 | .val (.string s)=>match iq env lo 0,iq env hi s.size with
  | some l,aE h=>if 0<=l/\l<=h/\h<=s.size then aE (.val (.string (s.extract l.n h.n)))else cp
  | _,_=>cp
 | _=>cp
def sX(t sz bytes:Nat)(x y:D)(H:gd)(a:Nat):R:=
 match lu sz H y with
 | some (ys,n)=>match x with
  | .gf v g b off len=>match rowAt H v g with
   | some (t',cs)=>if b=sz/\t'=t/\(off+len)*sz<=cs.l/\(len+n)*bytes<=140737488355328/\len+n<=9223372036854775807 then
     aE (.gf v (g+1) sz 0 (len+n),.obj v (.row t (g+1) ((cs.drop (off*sz)).take (len*sz)++ys)))else cp
   | none=>cp
  | .kW vs=>if n≠0/\sz=1/\(vs.l+n)*bytes<=140737488355328/\vs.l+n<=9223372036854775807 then aE (.gf a 0 sz 0 (vs.l+n),.new (.row t 0 (vs.map .val++ys)))else cp
  | .gi=>if n=0 then aE (.gi,.no)else if n*bytes<=140737488355328/\n<=9223372036854775807 then aE (.gf a 0 sz 0 n,.new (.row t 0 ys))else cp
  | _=>cp
 | none=>cp
def zC(sz:Nat)(x y:D)(H:gd):R:=
 match x,lu sz H y with
 | .gf v g ia off len,aE (ys,n)=>match rowAt H v g with
  | some (t,cs)=>if ia=sz/\(off+len)*sz<=cs.l then
    aE (.val (.int .i64 (min n len:Nat)),.obj v (.row t g (cs.take (off*sz)++ys.take (min n len*sz)++cs.drop (off*sz+min n len*sz))))else cp
  | none=>cp
 | .gi,aE _=>aE (.val (.int .i64 0),.no)
 | _,_=>cp
def mY(k:A0)(x:D)(H:gd):Option D:=
 match k,x with
 | .slice,.sl _ es=>aE (.val (.int .i64 es.l))
 | .slice,.gi=>aE (.val (.int .i64 0))
 | .slice,.kW vs=>aE (.val (.int .i64 vs.l))
 | .slice,.gf _ _ _ _ len=>aE (.val (.int .i64 len))
 | .string,.val (.string s)=>aE (.val (.int .i64 s.size))
 | .map,.gH v=>match lW H v with
  | some (_,es)=>aE (.val (.int .i64 es.l))
  | none=>cp
 | _,_=>cp
def EP(env:gZ)(d:Bool)(xs:List X):Option D:=
 match r8 env xs with
 | some [a,b]=>aE (.val (.int .i64 (if d then max a b else min a b)))
 | some [a,b,c]=>aE (.val (.int .i64 (if d then max (max a b) c else min (min a b) c)))
 | _=>cp
def Cl(x:D):Option D:=
 match x with
 | .ptr v g o=>aE (.ptr v g o)
 | .gC cs=>aE (.gC cs)
 | .fn (.func f) a b=>aE (.fn (.func f) a b)
 | .iQ v=>aE (.iQ v)
 | _=>cp
def MO(k:dx)(x:D):Option D:=
 match x with
 | .val (.int _ n)=>aE (.val (.int k (k.wrap n)))
 | _=>cp
def Dr(x:D)(H:gd):Option D:=
 match lu 1 H x with
 | some (ys,_)=>match bytesOf ys with
  | some a=>aE (.val (.string (a.foldl (λr n=>r.push (UInt8.ofNat n.n)) ByteArray.empty)))
  | none=>cp
 | none=>cp
def lift:Option D->R
 | some d=>aE (d,.no)
 | none=>cp
def gW(env:gZ)(H:gd)(n:Nat):iT->R
 | .mv x=>lift (aE (ev env x))
 | .pick c a b=>lift (Cr (ev env c) (ev env a) (ev env b))
 | .box t x=>sY t (ev env x) n
 | .alloc t z=>aE (.ptr n 0 0,.new (.row t 0 z))
 | .build z ps=>lift (Dt env z ps)
 | .buildSl t sz z m ps=>zr env t sz z m ps n
 | .ld1 x=>lift (xu (ev env x) H)
 | .ldN m x=>lift (wi m (ev env x) H)
 | .st1 a x=>CN (ev env a) (ev env x) H
 | .stN m a x=>CQ m (ev env a) (ev env x) H
 | .nilck x=>lift (Cl (ev env x))
 | .arith op x y=>lift (lk op (ev env x) (ev env y))
 | .eqS e ls neg x y=>lift (Bk e ls neg (ev env x) (ev env y))
 | .un op x=>lift (Fk op (ev env x))
 | .conv k x=>lift (MO k (ev env x))
 | .b2s x=>lift (Dr (ev env x) H)
 | .mkfn f first cap=>lift (aE (.fn f (first.map (ev env)) (cap.map (ev env))))
 | .mkmap kk=>aE (.gH n,.new (.map kk []))
 | .mksl t sz bytes z l c=>ER t sz bytes z (ev env l) (ev env c) n
 | .slc sz x lo hi=>lift (uu env sz (ev env x) lo hi)
 | .slcS x lo hi=>lift (Pb env (ev env x) lo hi)
 | .slc3 sz x lo hi mx=>lift (yX env sz (ev env x) lo hi mx)
 | .slcArr sz n x lo hi=>lift (AP env sz n (ev env x) lo hi H)
 | .fieldA off x=>lift (GG off (ev env x))
 | .field off m e x=>lift (Bq off m e (ev env x))
 | .idxA sz x i=>lift (mC sz (ev env x) (ev env i))
 | .idxArr sz m x i=>lift (H9 sz m (ev env x) (ev env i))
 | .idx sz m e x i=>lift (N7 sz m e (ev env x) (ev env i))
 | .idxStr x i=>lift (Sm (ev env x) (ev env i))
 | .lookup kk z ok m k=>lift (Cf kk z ok (ev env m) (ev env k) H)
 | .mapUpd kk m k x=>As kk (ev env m) (ev env k) (ev env x) H
 | .ext x i=>lift (M8 (ev env x) i)
 | .call _ _ | .callN _ _ | .callv _ _=>cp
 | .app t sz bytes x y=>sX t sz bytes (ev env x) (ev env y) H n
 | .copy sz x y=>zC sz (ev env x) (ev env y) H
 | .len k x=>lift (mY k (ev env x) H)
 | .minmax d xs=>lift (EP env d xs)
 | .nilS .. | .capE .. | .appZ .. | .clr .. | .rangeS .. | .nextS .. | .rangeM .. | .nextM .. | .entry .. | .mapEnt .. | .entSt .. => cp
section
variable{env:gZ}{H:gd}{al:Al}{d:D}{δ:Dl}{K:jO}
theorem amG{a b c:D}(h:Cr a b c=aE d)(e:K d H):IG a b c H K:=by unfold Cr at h;unfold IG;(repeat' split at h)<;>simp_all
theorem ag4{x:D}(h:xu x H=aE d)(a:K d H):Ih x H K:=by unfold xu at h;unfold Ih;(repeat' split at h)<;>simp_all
theorem ag5{n:Nat}{x:D}(h:wi n x H=aE d)(a:K d H):Ii n x H K:=by unfold wi at h;unfold Ii;(repeat' split at h)<;>simp_all
theorem aci{z:List D}{ps:List (Nat×Nat×X)}(h:Dt env z ps=aE d)(a:K d H):A6 env z ps H K:=by unfold Dt at h;unfold A6;(repeat' split at h)<;>simp_all
theorem ahQ{x:D}(h:Cl x=aE d)(a:K d H):Iz x H K:=by unfold Cl at h;unfold Iz;(repeat' split at h)<;>simp_all
theorem aos{op:UnOp}{x:D}(h:Fk op x=aE d)(a:K d H):Jk op x H K:=by unfold Fk at h;unfold Jk;(repeat' split at h)<;>simp_all
theorem adB{b:Bool}{ls:List mQ}{neg:Bool}{x y:D}(h:Bk b ls neg x y=aE d)(a:K d H):wZ b ls neg x y H K:=by unfold Bk at h;unfold wZ;(repeat' split at h)<;>simp_all
theorem ac3{k:dx}{x:D}(h:MO k x=aE d)(a:K d H):Gp k x H K:=by unfold MO at h;unfold Gp;(repeat' split at h)<;>simp_all
theorem ab6{x:D}(h:Dr x H=aE d)(a:K d H):F9 x H K:=by unfold Dr at h;unfold F9;(repeat' split at h)<;>simp_all
theorem anW{sz:Nat}{x:D}{lo hi:Option X}(h:uu env sz x lo hi=aE d)(a:K d H):I6 env sz x lo hi H K:=by unfold uu at h;unfold I6;(repeat' split at h)<;>simp_all
theorem anS{sz:Nat}{x:D}{lo:Option X}{hi mx:X}(h:yX env sz x lo hi mx=aE d)(a:K d H):I4 env sz x lo hi mx H K:=by unfold yX at h;unfold I4;(repeat' split at h)<;>simp_all<;>omega
theorem anU{sz n:Nat}{x:D}{lo hi:Option X}(h:AP env sz n x lo hi H=aE d)(a:K d H):I5 env sz n x lo hi H K:=by unfold AP at h;unfold I5;(repeat' split at h)<;>simp_all
theorem anV{x:D}{lo hi:Option X}(h:Pb env x lo hi=aE d)(a:K d H):Fb env x lo hi H K:=by unfold Pb at h;unfold Fb;(repeat' split at h)<;>simp_all
theorem afa{off:Nat}{x:D}(h:GG off x=aE d)(a:K d H):GF off x H K:=by unfold GG at h;unfold GF;(repeat' split at h)<;>simp_all
theorem Wz{off n:Nat}{b:Bool}{x:D}(h:Bq off n b x=aE d)(a:K d H):Bp off n b x H K:=by unfold Bq at h;unfold Bp;(repeat' split at h)<;>simp_all
theorem agD{sz:Nat}{x i:D}(h:mC sz x i=aE d)(a:K d H):H7 sz x i H K:=by unfold mC at h;unfold H7;(repeat' split at h)<;>simp_all
theorem agF{sz n:Nat}{x i:D}(h:H9 sz n x i=aE d)(a:K d H):H8 sz n x i H K:=by unfold H9 at h;unfold H8;(repeat' split at h)<;>simp_all
theorem agG{x i:D}(h:Sm x i=aE d)(a:K d H):Ib x i H K:=by unfold Sm at h;unfold Ib;(repeat' split at h)<;>simp_all
theorem ahp{kk:KK}{z:D}{ok:Bool}{m k:D}(h:Cf kk z ok m k H=aE d)(b:K d H):Im kk z ok m k H K:=by
 unfold Cf at h;unfold Im;split at h
 .split at h
  .split at h
   .rename_i c;obtain⟨rfl,c⟩:=c;simp only[*,true_and];split at h
    .rename_i a;cases h;simp only[a];exact b
    .rename_i a;cases h;simp only[a];exact b
   .cases h
  .cases h
 .cases h
theorem adD{x:D}{i:Nat}(h:M8 x i=aE d)(a:K d H):Gy x i H K:=by unfold M8 at h;unfold Gy;(repeat' split at h)<;>simp_all
theorem ahe{k:A0}{x:D}(h:mY k x H=aE d)(a:K d H):Ij k x H K:=by unfold mY at h;unfold Ij;(repeat' split at h)<;>simp_all
theorem ahH{b:Bool}{xs:List X}(h:EP env b xs=aE d)(a:K d H):Iw env b xs H K:=by unfold EP at h;unfold Iw;(repeat' split at h)<;>simp_all
theorem abZ{op:ga}{k:dx}{a b:Int}(h:kc op k a b=aE d)(c:K d H):F6 op k a b H K:=by unfold kc at h;unfold F6;(repeat' split at h)<;>simp_all
theorem anQ{op:ga}{k:dx}{a b:Int}(h:TK op k a b=aE d)(c:K d H):I3 op k a b H K:=by unfold TK at h;unfold I3;(repeat' split at h)<;>simp_all
theorem aoj{op:ga}{a b:ByteArray}(h:Fh op a b=aE d)(c:K d H):Pj op a b H K:=by unfold Fh at h;unfold Pj;(repeat' split at h)<;>simp_all [rr]
theorem acf{t:dr}{x:D}(h:sY t x al.1=aE (d,δ))(a:K d (δ.app H al)):Gb t x al K:=by unfold sY at h;unfold Gb;(repeat' split at h)<;>cases h<;>simp_all [Dl.app]
theorem ach{t sz:Nat}{z:List D}{m:Nat}{ps:List (Nat×X)}(h:zr env t sz z m ps al.1=aE (d,δ))(a:K d (δ.app H al)):Gc env t sz z m ps al K:=by unfold zr at h;unfold Gc;(repeat' split at h)<;>cases h<;>simp_all [Dl.app]
theorem IW{v g:Nat}{x:dr×List D}(h:rowAt H v g=aE x):H[v]? = aE (.row x.1 g x.2):=by
 unfold rowAt at h;split at h
 .split at h
  .rename_i e;subst e;cases h;assumption
  .cases h
 .cases h
theorem aof{a x:D}(h:CN a x H=aE (d,δ))(f:K d (δ.app H al)):I9 a x H K:=by
 unfold CN at h;unfold I9;split at h
 .split at h
  .rename_i v g o _ t cs c;split at h
   .rename_i b;cases h;simp only[c];refine⟨b.1,b.2,?_⟩;simp only[Dl.app,IW c]at f
    have e:cs.set o x=cs.take o ++ [x]++cs.drop (o + [x].l):=by rw[cG,if_pos b.1];simp
    rw[e];exact f
   .cases h
  .cases h
 .cases h
theorem aog{n:Nat}{a x:D}(h:CQ n a x H=aE (d,δ))(b:K d (δ.app H al)):I' n a x H K:=by
 unfold CQ at h;unfold I';split at h
 .split at h
  .rename_i v g o xs _ _ t cs c;split at h
   .rename_i e;cases h;simp only[*];refine⟨trivial,trivial,?_⟩;simp only[Dl.app,IW c]at b;rw[e.1]at b;exact b
   .cases h
  .cases h
 .cases h
theorem ahJ{t sz bytes:Nat}{z:List D}{l c:D}(h:ER t sz bytes z l c al.1=aE (d,δ))(a:K d (δ.app H al)):Ix t sz bytes z l c al K:=by unfold ER at h;unfold Ix;(repeat' split at h)<;>cases h<;>simp_all [Dl.app,rr]
theorem ahE{kk:KK}{m k x:D}(h:As kk m k x H=aE (d,δ))(b:K d (δ.app H al)):Ir kk m k x H K:=by
 unfold As at h;unfold Ir;split at h
 .split at h
  .split at h
   .rename_i a;obtain⟨rfl,a⟩:=a;cases h;simp only[*,true_and];exact b
   .cases h
  .cases h
 .cases h
theorem abW{t sz bytes:Nat}{x y:D}(h:sX t sz bytes x y H al.1=aE (d,δ))(a:K d (δ.app H al)):F5 t sz bytes x y H al K:=by unfold sX at h;unfold F5;(repeat' split at h)<;>cases h<;>simp_all [Dl.app]
theorem ac5{sz:Nat}{x y:D}(h:zC sz x y H=aE (d,δ))(a:K d (δ.app H al)):Gs sz x y H K:=by unfold zC at h;unfold Gs;(repeat' split at h)<;>cases h<;>simp_all [Dl.app]
theorem acb{op:ga}{x y:D}(h:lk op x y=aE d)(a:K d H):F' op x y H K:=by
 unfold lk at h;unfold F';split at h
 .split at h
  .rename_i hs;simp only[hs,if_true];exact anQ h a
  .rename_i hs;simp only[hs];split at h
   .rename_i e;exact⟨e,abZ h a⟩
   .cases h
 .exact aoj h a
 .cases h
theorem agH{sz n:Nat}{b:Bool}{x i:D}(h:N7 sz n b x i=aE d)(a:K d H):Ia sz n b x i H K:=by
 unfold N7 at h;unfold Ia;split at h
 .split at h
  .rename_i c;exact⟨c,Wz h a⟩
  .cases h
 .cases h
theorem mD{o:Option D}(h:lift o=aE (d,δ)):o=aE d/\δ = .no:=by cases o<;>simp[lift]at h;exact⟨by rw[h.1],h.2.symm⟩
theorem UP{c:iT}(h:gW env H al.1 c=aE (d,δ))(b:K d (δ.app H al)):F4 env H al K c:=by
 cases c<;>simp only[gW]at h<;>simp only[F4]
 case mv=>obtain⟨a,rfl⟩:=mD h;cases a;exact b
 case mkfn=>obtain⟨a,rfl⟩:=mD h;cases a;exact b
 case alloc=>cases h;exact b
 case mkmap=>cases h;exact b
 case call=>cases h
 case callN=>cases h
 case callv=>cases h
 case nilS=>cases h
 case capE=>cases h
 case appZ=>cases h
 case clr=>cases h
 case rangeS=>cases h
 case nextS=>cases h
 case rangeM=>cases h
 case nextM=>cases h
 case entry=>cases h
 case mapEnt=>cases h
 case entSt=>cases h
 case box=>exact acf h b
 case buildSl=>exact ach h b
 case st1=>exact aof h b
 case stN=>exact aog h b
 case mksl=>exact ahJ h b
 case mapUpd=>exact ahE h b
 case app=>exact abW h b
 case copy=>exact ac5 h b
 case pick=>obtain⟨a,rfl⟩:=mD h;exact amG a b
 case build=>obtain⟨a,rfl⟩:=mD h;exact aci a b
 case ld1=>obtain⟨a,rfl⟩:=mD h;exact ag4 a b
 case ldN=>obtain⟨a,rfl⟩:=mD h;exact ag5 a b
 case nilck=>obtain⟨a,rfl⟩:=mD h;exact ahQ a b
 case arith=>obtain⟨a,rfl⟩:=mD h;exact acb a b
 case eqS=>obtain⟨a,rfl⟩:=mD h;exact adB a b
 case un=>obtain⟨a,rfl⟩:=mD h;exact aos a b
 case conv=>obtain⟨a,rfl⟩:=mD h;exact ac3 a b
 case b2s=>obtain⟨a,rfl⟩:=mD h;exact ab6 a b
 case slc=>obtain⟨a,rfl⟩:=mD h;exact anW a b
 case slc3=>obtain⟨a,rfl⟩:=mD h;exact anS a b
 case slcArr=>obtain⟨a,rfl⟩:=mD h;exact anU a b
 case slcS=>obtain⟨a,rfl⟩:=mD h;exact anV a b
 case fieldA=>obtain⟨a,rfl⟩:=mD h;exact afa a b
 case field=>obtain⟨a,rfl⟩:=mD h;exact Wz a b
 case idxA=>obtain⟨a,rfl⟩:=mD h;exact agD a b
 case idxArr=>obtain⟨a,rfl⟩:=mD h;exact agF a b
 case idx=>obtain⟨a,rfl⟩:=mD h;exact agH a b
 case idxStr=>obtain⟨a,rfl⟩:=mD h;exact agG a b
 case lookup=>obtain⟨a,rfl⟩:=mD h;exact ahp a b
 case ext=>obtain⟨a,rfl⟩:=mD h;exact adD a b
 case len=>obtain⟨a,rfl⟩:=mD h;exact ahe a b
 case minmax=>obtain⟨a,rfl⟩:=mD h;exact ahH a b
end
mutual
def flat:D->Bool
 | .any | .val _ | .gi=>eh
 | .agg cs | .tup cs=>oX cs
 | .sl _ es=>es.isEmpty
 | _=>er
def oX:List D->Bool
 | []=>eh
 | d::ds=>flat d&&oX ds
end
def chunks(sz:Nat):Nat->List D->List (List D)
 | 0,_=>[]
 | n+1,cs=>cs.take sz::chunks sz n (cs.drop sz)
def gw(ρ:Nat->Option Nat)(H:gd):Nat->D->D
 | 0,d=>if closed d then d else .any
 | k+1,d=>if closed d then d else match d with
  | .agg cs=>.agg (cs.map (gw ρ H k))
  | .tup cs=>.tup (cs.map (gw ρ H k))
  | .sl sz es=>.sl sz (es.map (·.map (gw ρ H k)))
  | .gC cs=>.gC (cs.map (gw ρ H k))
  | .fn f a b=>.fn f (a.map (gw ρ H k)) (b.map (gw ρ H k))
  | .gf v g sz off len=>match ρ v with
   | some v'=>.gf v' g sz off len
   | none=>match rowAt H v g with
    | some (_,cs)=>if (off+len)*sz<=cs.l then .sl sz (chunks sz len ((cs.drop (off*sz)).map (gw ρ H k)))else .any
    | none=>.any
  | .ptr v g off=>match ρ v with
   | some v'=>.ptr v' g off
   | none=>match rowAt H v g with
    | some (_,cs)=>.gC ((cs.drop off).map (gw ρ H k))
    | none=>.any
  | .gH v=>match ρ v with
   | some v'=>.gH v'
   | none=>.any
  | .iQ v=>match ρ v with
   | some v'=>.iQ v'
   | none=>.any
  | d=>d
def pI(ρ:Nat->Option Nat)(H:gd):Ob->Ob
 | .row t g cs=>.row t g (cs.map (gw ρ H 40))
 | .map kk es=>.map kk (es.map λx=>(x.1,gw ρ H 40 x.2))
 | .iu rf env st=>.iu rf (env.map λx=>(x.1,gw ρ H 40 x.2)) st
 | .sh s p=>.sh s p
 | .jo m since seen=>.jo (gw ρ H 40 m) since seen
 | .jH=>.jH
 | .dead=>.dead
 | .lT=>.dead
abbrev nJ:=List (Nat×Bool)
def iR(ks:nJ)(v:Nat):Option Nat:=ks.findIdx? (λp=>p.2&&p.1 == v)
def rD(ks:nJ)(H:gd):gd:=ks.map λp=>if p.2 then(match H[p.1]? with|some o=>pI (iR ks) H o|none=>.dead)else .dead
def jB(n:Nat):D->List Nat
 | .gf v _ _ _ _=>if n<=v then [v]else []
 | .ptr v _ _=>if n<=v then [v]else []
 | .gH v=>if n<=v then [v]else []
 | .iQ v=>if n<=v then [v]else []
 | _=>[]
def o9(n:Nat):Ob->List Nat
 | .row _ _ cs=>(cs.map (jB n)).flatten
 | .map _ es=>(es.map λx=>jB n x.2).flatten
 | _=>[]
def dedup:List Nat->List Nat
 | []=>[]
 | x::r=>if x∈r then dedup r else x::dedup r
def jn(n:Nat)(K:List Nat):nJ:=((ns n).map λv=>(v,eh))++K.map λv=>(v,eh)
def forget(live:List Nat)(env:Env):Env:=live.map λk=>(k,env.get k)
structure St where
 env:Env
 H:gd
 marks:List Nat:=[]
 iG:Bool:=er
 deriving Inhabited
def Cm(live:List Nat):Bool:=match live with
 | k::_=>Nat.beq k 9999
 | []=>er
def cut(n:Nat)(live:List Nat)(s:St):St:=
 let env:=forget live s.env
 if s.H.l<=n\/Cm live=eh then{ s with env:=env }else
 let K:=dedup (((env.map λp=>jB n p.2).flatten++((s.H.take n).map (o9 n)).flatten++s.marks.filter (n<=·)).filter (· < s.H.l))
 let ks:=jn n K
 { s with env:=env.map λp=>(p.1,gw (iR ks) s.H 40 p.2),H:=rD ks s.H,marks:=s.marks.map λv=>(iR ks v).getD v }
def EW(n:Nat):D->List Nat
 | .gf v _ _ 0 _=>if n<=v then [v]else []
 | .tup ds=>(ds.map λd=>match d with | .gf v _ _ 0 _=>if n<=v then [v]else []|_=>[]).flatten
 | _=>[]
inductive IR where
 | skip
 | ops (l:List il)
 | mg (jQ:List (Nat×Nat)) (l:List il)
 | mS (jQ:List (Nat×Nat)) (l es:List il)
 | seq (a b:IR)
 | cond (c:X) (a b:IR)
 | block (id:Nat) (live:List Nat) (a:IR)
 | loop (live:List Nat) (a:IR)
 | oD (rf:Nat) (live:List Nat) (x:X)
 | exit (id:Nat)
 | ret
 | bad
 | fz (S:List Nat) (a:IR)
 | vu (S:List Nat) (a b:List il)
 deriving Inhabited
inductive ve where
 | tmp (t:Nat)
 | tA (t:Nat)
 | PT (n t:Nat)
 deriving Inhabited
structure jq where
 ntmps:Nat
 body:IR
 results:List ve
 full:Bool:=er
 own:Nat:=0
 fz:Bool:=er
 deriving Inhabited
def Ct(s:St):ve->Option D
 | .tmp t=>aE (s.env.get t)
 | .tA t=>xu (s.env.get t) s.H
 | .PT n t=>wi n (s.env.get t) s.H
def um(s:St):List ve->Option (List D)
 | []=>aE []
 | x::r=>match Ct s x,um s r with
  | some d,aE l=>aE (d::l)
  | _,_=>cp
def results(fn:jq)(s:St):Option D:=match um s fn.results with
 | some [d]=>aE d
 | some ds=>aE (.tup ds)
 | none=>cp
def ti(args:List D):Env:=args.zipIdx.map λp=>(p.2,p.1)
def uq:List Nat->List D->Env->Env
 | k::ks,d::ds,env=>uq ks ds ((k,d)::env)
 | _,_,env=>env
def kC(env:gZ):iT->Option (hI×List D)
 | .call f args=>aE (f,args.map (ev env))
 | .callN f args=>aE (f,args.map (ev env))
 | .callv f args=>match ev env f with
  | .fn (.func k) first cap=>aE (k,first++args.map (ev env)++cap)
  | _=>cp
 | _=>cp
def Ic:iT->Bool
 | .call _ _ | .callN _ _ | .callv _ _=>eh
 | _=>er
def guardOf(env:gZ):Option (Nat×Bool)->Option Bool
 | none=>aE eh
 | some (s,want)=>match env s with
  | .val (.bool b)=>aE (b == want)
  | .val (.tuple _)=>aE er
  | _=>cp
def yH(n:Nat):D->D
 | .gf v g sz off len=>.gf (v+n) g sz off len
 | d=>d
def kE(n:Nat):D->D
 | .gf v g sz off len=>.gf (v+n) g sz off len
 | .gH v=>.gH (v+n)
 | .tup ds=>.tup (ds.map (yH n))
 | .agg ds=>.agg (ds.map (yH n))
 | d=>d
def nN:Ob->Bool
 | .row _ _ cs=>gK cs
 | .map _ es=>es.all λx=>closed x.2
 | _=>er
def pv:Ob->Bool
 | .row _ _ cs=>oX cs
 | _=>er
def yQ(p:D->Bool):D->Bool
 | .gf .. => eh
 | d=>p d
def xA(p:D->Bool):D->Bool
 | .gf .. => eh
 | .gH _=>eh
 | .tup ds=>ds.all (yQ p)
 | .agg ds=>ds.all (yQ p)
 | d=>p d
def mL:D->Bool:=xA closed
def oR:D->Bool:=xA flat
def rowsOf(H:gd)(v:Nat):Option (dr×Nat×List D):=match H[v]? with
 | some (.row t g cs)=>aE (t,g,cs)
 | _=>cp
def iB(H:gd):Nat->D->List Nat
 | 0,_=>[]
 | k+1,d=>if closed d then []else match d with
  | .agg cs | .tup cs | .gC cs=>(cs.map (iB H k)).flatten
  | .sl _ es=>(es.map λe=>(e.map (iB H k)).flatten).flatten
  | .fn _ a b=>(a.map (iB H k)).flatten++(b.map (iB H k)).flatten
  | .gf v _ _ _ _ | .ptr v _ _=>v::(match rowsOf H v with
   | some (_,_,cs)=>(cs.map (iB H k)).flatten
   | none=>[])
  | .gH v | .iQ v=>[v]
  | _=>[]
def leave(own:Nat)(n:Nat)(H:gd)(d:D):D×gd:=
 if H.l<=n\/own=4 then(d,H)else
 let K:=dedup (((match own with|0=>[]|1=>EW n d|3=>((iB H 40 d).filter (n<=·)).take 1|_=>(iB H 40 d).filter (n<=·))++((H.take n).map (o9 n)).flatten).filter (· < H.l))
 let ks:=jn n K
 (gw (iR ks) H 40 d,rD ks H)
def mJ(H:gd)(S:List Nat):nJ:=(ns H.l).map λv=>(v,!(S.contains v))
structure qJ where
 params:List Nat
 a:IR
 b:IR
 deriving Inhabited
structure iF where
 fn:hI->Option jq
 round:Nat->Option qJ:=λ_=>cp
 sort:hI->Option Nat:=λ_=>cp
 tm:hI->Bool:=λ_=>er
 s6:hI->Bool:=λ_=>er
def after(s:St)(dst:Option Nat)(args:List D)(r:D)(Hn:gd):Option St:=
 if (if gK args then mL r&&Hn.all nN else oR r&&Hn.all pv)then
  aE { s with env:=put s.env dst (kE s.H.l r),H:=s.H++Hn }else cp
def mj(S:List Nat)(s:St):St:=
 let ks:=mJ s.H S
 { s with env:=s.env.map λp=>(p.1,gw (iR ks) s.H 40 p.2),H:=rD ks s.H }
def xY{ds:List D}(h:gK ds=eh){i:Nat}{d:D}(a:ds[i]? = aE d):closed d=true:=by
 induction ds generalizing i with
 | nil=>simp at a
 | cons x xs b=>
  simp only[gK,ai]at h
  cases i with
  | zero=>simp at a;subst a;exact h.1
  | succ i=>exact b h.2 (by simpa using a)
def acK{es:List (List D)}(h:Dy es=eh){i:Nat}{e:List D}(a:es[i]? = aE e):gK e=true:=by
 induction es generalizing i with
 | nil=>simp at a
 | cons x xs b=>
  simp only[Dy,ai]at h
  cases i with
  | zero=>simp at a;subst a;exact h.1
  | succ i=>exact b h.2 (by simpa using a)
theorem gj.closed{c c':Ctx}{w:ek}(A:∀b,c.F b->c'.F b){u:b4}{d:D}(h:gj c w u d)(l:closed d=eh):gj c' w u d:=by
 induction h with
 | any v=>exact .any _
 | val v=>exact .val _
 | agg vs ds hl h1 h n=>exact .agg vs _ hl h1 λi v d m k=>n i v d m k (xY l k)
 | tup vs ds hl h n=>exact .tup vs _ hl λi v d m k=>n i v d m k (xY l k)
 | sl a len cap sz es g r G y H x q I n=>
  refine .sl a len cap sz _ g r G y H x ?_ λi e j d s k=>n i e j d s k (xY (acK l s) k);intro i e j d s k;obtain⟨b,o,z,p,t,h1⟩:=q i e j d s k;exact⟨b,o,z,A b p,t,h1⟩
 | gi=>exact .gi
 | kW a vs y x q=>
  refine .kW a vs y x ?_;intro i v m;obtain⟨b,o,z,p,t,h1⟩:=q i v m;exact⟨b,o,z,A b p,t,h1⟩
 | gf=>cases l
 | lB=>cases l
 | ptr=>cases l
 | gC b o cs g p q I n=>exact .gC b o _ g (A b p) q λj d k=>n j d k (xY l k)
 | gH=>cases l
 | fn f fs cs K L E F h1 J C B=>
  simp only[AL.closed,ai]at l;exact .fn f fs cs _ _ E F (λi v d m k=>C i v d m k (xY l.1 k)) (λi v d m k=>B i v d m k (xY l.2 k))
 | iQ=>cases l
def DL{ds:List D}(h:oX ds=eh){i:Nat}{d:D}(a:ds[i]? = aE d):flat d=true:=by
 induction ds generalizing i with
 | nil=>simp at a
 | cons x xs b=>
  simp only[oX,ai]at h
  cases i with
  | zero=>simp at a;subst a;exact h.1
  | succ i=>exact b h.2 (by simpa using a)
theorem gj.flat{c c':Ctx}{w:ek}{u:b4}{d:D}(h:gj c w u d)(b:flat d=eh):gj c' w u d:=by
 induction h with
 | any v=>exact .any _
 | val v=>exact .val _
 | agg vs ds hl h1 h j=>exact .agg vs _ hl h1 λi v d k f=>j i v d k f (DL b f)
 | tup vs ds hl h j=>exact .tup vs _ hl λi v d k f=>j i v d k f (DL b f)
 | sl a len cap sz es g e m n p l o q j=>
  simp only[AL.flat,ej]at b;subst b;exact .sl a len cap sz _ g e m n fZ l fZ fZ
 | gi=>exact .gi
 | kW=>cases b
 | gf=>cases b
 | lB=>cases b
 | ptr=>cases b
 | gC=>cases b
 | gH=>cases b
 | fn=>cases b
 | iQ=>cases b
theorem U7(sz:Nat):∀(n:Nat) (cs:List D),(chunks sz n cs).l=n
 | 0,_=>rfl
 | n+1,cs=>by simp[chunks,U7 sz n]
theorem PX(sz:Nat):∀(n:Nat) (cs:List D) (i:Nat) (e:List D),(chunks sz n cs)[i]? = aE e->i<n/\e=(cs.drop (i*sz)).take sz
 | 0,_,i,e,h=>by simp[chunks]at h
 | n+1,cs,0,e,h=>by simp[chunks]at h;subst h;simp
 | n+1,cs,i+1,e,h=>by simp only[chunks,dp]at h;obtain⟨h1,a⟩:=PX sz n _ i e h;refine⟨U,?_⟩;rw[a,b9];congr 2;rw[bq];omega
def anR{c:Ctx}{w:ek}{b o sz len cap:Nat}{vs:List b4}{ds:List D}(n:c.F b)(k:Cells c w vs ds)(hl:ds.l=len*sz)(l:len<=cap)(m:cap<=maxLen)
  (r:∀(j:Nat) (v:b4),vs[j]? = aE v->w.cell? ⟨b,o+j,cp⟩=aE v):gj c w (.slice (aE ⟨b,o,cp⟩) len cap) (.sl sz (chunks sz len ds)):=by
 have h:∀(i:Nat) (e:List D) (j:Nat) (d:D),(chunks sz len ds)[i]? = aE e->e[j]? = aE d->ds[i*sz+j]? = aE d/\j<sz:=by
  intro i e j d a f;obtain⟨_,rfl⟩:=PX sz len ds i e a;rw[aG]at f;split at f
  .grind
  .cases f
 refine .sl _ len cap sz _ (λi j=>vs.getD (i*sz+j) undef) (U7 _ _ _) l m ?_ fZ ?_ ?_
 .intro e a;obtain⟨i,hi⟩:=aD.1 a;obtain⟨h1,rfl⟩:=PX sz len ds i e hi;simp only[aJ,aU,hl];have:(i+1)*sz<=len*sz:=bw _ h1;rw[bq]at this;omega
 .intro i e j d a f;obtain⟨h1,_⟩:=h i e j d a f;obtain⟨v,g,q,_⟩:=k.get h1;refine⟨b,o,rfl,n,?_,?_⟩
  .grind
  .grind
 .intro i e j d a f;obtain⟨h1,_⟩:=h i e j d a f;obtain⟨v,g,_,p⟩:=k.get h1;simp only[List.getD,g,aZ];exact p
theorem Cells.map{c c':Ctx}{w:ek}{f:D->D}(g:∀v d,gj c w v d->gj c' w v (f d)){vs:List b4}{cs:List D}(h:Cells c w vs cs):Cells c' w vs (cs.map f):=
 ⟨by simpa using h.len,h.one,λi v d e a=>by
  simp only[ax,ao]at a;obtain⟨d0,b,rfl⟩:=a
  exact g _ _ (h.rep i v d0 e b)⟩
def Ctx.gw(c:Ctx)(ks:nJ)(H:gd):Ctx where
 ι:=λi g=>match ks[i]? with
  | some p=>c.ι p.1 g
  | none=>cp
 F:=λb=>c.F b\/∃v L,lM c H v L/\iR ks v=cp/\L.jN=er/\L.b=b
 RT:=c.RT
def aaG{ks:nJ}{v i:Nat}(h:iR ks v=aE i):ks[i]? = aE (v,eh):=by unfold iR at h;rw[ea]at h;obtain⟨hi,a,_⟩:=h;simp only[ai,beq_iff_eq]at a;rw[List.getElem?_eq_getElem hi];congr 1;exact dh a.2 a.1
def aaF{ks:nJ}{v:Nat}(h:iR ks v=cp)(i:Nat):ks[i]?≠aE (v,eh):=by intro hi;unfold iR at h;rw[dJ]at h;have:=h _ (List.mem_of_getElem? hi);simp at this
section
variable{G:GT}{c:Ctx}{H:gd}{w:ek}{ks:nJ}
theorem Fw{v i g:Nat}(h:iR ks v=aE i):(c.gw ks H).ι i g=c.ι v g:=by simp[Ctx.gw,aaG h]
theorem Dh{b:Nat}(h:c.F b):(c.gw ks H).F b:=Or.inl h
theorem UA{v:Nat}{L:Loc}(h1:lM c H v L)(b:iR ks v=cp)(a:L.jN=er):(c.gw ks H).F L.b:=Or.inr ⟨v,L,h1,b,a,rfl⟩
theorem AG(h:gI G c H w):∀(k:Nat) {u:b4} {d:D},gj c w u d->gj (c.gw ks H) w u (gw (iR ks) H k d)
 | 0,u,d,q=>by
  unfold AL.gw;split
  .rename_i M;exact q.closed (λb N=>Dh N) M
  .exact .any _
 | k+1,u,d,q=>by
  have A:=λ{u:b4} {d:D} (q:gj c w u d)=>AG h k q;unfold AL.gw;split
  .rename_i M;exact q.closed (λb N=>Dh N) M
  .cases q with
   | any v=>exact .any _
   | val v=>exact .val _
   | agg vs ds hl h1 z=>
     refine .agg vs _ (by simpa using hl) h1 λi v d l y=>?_;simp only[ax,ao]at y;obtain⟨d0,B,rfl⟩:=y;exact A (z i v d0 l B)
   | tup vs ds hl z=>
     refine .tup vs _ (by simpa using hl) λi v d l y=>?_;simp only[ax,ao]at y;obtain⟨d0,B,rfl⟩:=y;exact A (z i v d0 l B)
   | sl a len cap sz es g s E F iL V Q q=>
    refine .sl a len cap sz _ g (by simpa using s) E F ?_ V ?_ ?_
    .grind
    .intro i e j d R y;simp only[ax,ao]at R;obtain⟨e0,K,rfl⟩:=R;simp only[ax,ao]at y;obtain⟨d0,B,rfl⟩:=y;obtain⟨b,o,ha,I,T,h1⟩:=Q i e0 j d0 K B;exact⟨b,o,ha,Dh I,T,h1⟩
    .grind
   | gi=>exact .gi
   | kW a vs h1 z S=>rename_i Z;exact absurd rfl Z
   | gf v g sz off len cap L p l E F U=>
    dsimp only;split
    .rename_i v' r;exact .gf v' g sz off len cap L (by rw[Fw r];exact p) l E F U
    .rename_i P;split
     .rename_i t cs J;split
      .rename_i ng;have C:=uo J;obtain⟨arr,h1,z,S,O⟩:=yU h C p l;have W:=(((O.drop (off*sz)).map (λ_ _ q=>A q)).take (len*sz));have s:((cs.drop (off*sz)).map (AL.gw (iR ks) H k)).l=(cs.l-off*sz):=fZ
       have Rj:chunks sz len ((cs.drop (off*sz)).map (AL.gw (iR ks) H k))=chunks sz len (((cs.drop (off*sz)).map (AL.gw (iR ks) H k)).take (len*sz)):=by
        have key:∀(n:Nat) (xs:List D),chunks sz n xs=chunks sz n (xs.take (n*sz)):=by
         intro n
         induction n with
         | zero=>intro xs;rfl
         | succ n A=>
          intro xs;simp only[chunks];rw[dX,Nat.min_eq_left (by rw[bq];omega),A (xs.drop sz),List.drop_take,show(n+1)*sz-sz=n*sz by rw[bq];omega]
        exact key _ _
       rw[Rj];refine anR (UA ⟨_,C,rfl,p⟩ P l) W ?_ E F λj x m=>?_
       .grind
       .rw[aG]at m;split at m
        .rw[aK,aG]at m;split at m
         .rw[aK]at m;simp[World.cell?,h1];rw[a8];simpa using m
         .cases m
        .cases m
      .exact .any _
     .exact .any _
   | lB v g sz off L p a=>
    dsimp only;split
    .rename_i v' r;exact .lB v' g sz off L (by rw[Fw r];exact p) a
    .split
     .split
      .exact .sl a 0 0 sz _ (λ_ _=>undef) rfl (mU _) (by unfold maxLen;omega) (by simp[chunks]) (λ_=>rfl) (by simp[chunks]) (by simp[chunks])
      .exact .any _
     .exact .any _
   | ptr v g off L p l=>
    dsimp only;split
    .rename_i v' r;exact .ptr v' g off L (by rw[Fw r];exact p) l
    .rename_i P;split
     .rename_i t cs J;have C:=uo J;obtain⟨arr,h1,z,S,O⟩:=yU h C p l;refine Qy (UA ⟨_,C,rfl,p⟩ P l) ⟨_,(O.drop off).map (λ_ _ q=>A q),λj x m=>?_⟩;rw[aK,aG]at m;split at m
      .rw[aK]at m;simp[World.cell?,h1];rw[a8];simpa using m
      .cases m
     .exact .any _
   | gC b o cs g I Q q=>
    refine .gC b o _ g (Dh I) ?_ ?_
    .grind
    .grind
   | gH v L p l=>
    dsimp only;split
    .rename_i v' r;exact .gH v' L (by rw[Fw r];exact p) l
    .exact .any _
   | fn f fs cs df dc X Y h1 z=>
    refine .fn f fs cs _ _ (by simpa using X) (by simpa using Y) ?_ ?_
    .grind
    .grind
   | iQ v L p l=>
    dsimp only;split
    .rename_i v' r;exact .iQ v' L (by rw[Fw r];exact p) l
    .exact .any _
