/- 3 -/
import Derived.Test.YtmehofoficaelaaGreatDoorP02
import Derived.ChangeKeysEq
set_option linter.all false
open Option renaming some→aE,none→dx,bind_some→mV
open Go.Result renaming andThen_ok→bf,ok→n3
open Go renaming execOp→cc,Value→cp,run_underlying→eh,TypeId→ej,IntKind→ek,World→ez,run_eqGuard_agg→fx,MapEntry→ga,BinOp→iK,getObj→jA,FuncId→jI,run_equalIn_struct→kl,run_equalIn_bool'→kx,Program→lp,run_equalIn_int→lu,Operand→lK,eqGuard→ml,run_eql_struct→mz,run_neq_struct→mP,TypeDesc→nm
open Go.Sem renaming run_bind→di,run_ite→hY,run→jX,run_pure→j'
open Bool renaming true→ep,and_eq_true→er,false→eL
open Go.Instr renaming sameBits→eB,findKey→eK,mapUpdate→fa,findNow→fb,checkKey→gb,sameNow→iN,lookup→kb,keyThatStays→ku,findAsking→la
open Go.Program renaming fieldsOf→fp
open Go.Op renaming equalIn→hI,eqFields→hU,eqItems→nK,equal→n4
open List renaming replicate→kD,map_cons→lb,map_nil→mR,range→oc,length→List.l
open Nat renaming ble→mT,le_refl→ns,ble_eq→nB
open Int renaming toNat→Int.n
open UInt8 renaming toNat→UInt8.n
namespace Go.AL
open Go
section
variable{P:lp}{G:GT}{c:Ctx}{H:gQ}{w:ez}{K:kH}{env:iM}{a:Act}
theorem V2{x:D}{kv u:cp}(b:gX c w u x)(h:keyOf x=aE kv):u=kv:=by
 unfold keyOf at h;split at h
 .cases h;cases b;rfl
 .cases h;cases b;rfl
 .cases h;cases b;rfl
 .rename_i cs;simp only[ar]at h;obtain⟨l,hl,rfl⟩:=h
  cases b with
  | agg vs _ a _ h1=>
   have key:∀(cs:List D) (vs l:List cp),K3 cs=aE l->vs.l=cs.l->(∀(i:Nat) (v:cp) (d:D),vs[i]? = aE v->cs[i]? = aE d->gX c w v d)->vs=l:=by
    intro cs
    induction cs with
    | nil=>intro vs l hl a _;simp[K3]at hl;subst hl;exact bj (by simpa using a)
    | cons d cs j=>
     intro vs l hl a h1
     cases vs with
     | nil=>simp at a
     | cons v vs=>
      unfold K3 at hl;split at hl
      .grind
      .rename_i k n r e;cases e;simp only[ar]at hl;obtain⟨g,f,rfl⟩:=hl;have h0:=h1 0 v _ rfl rfl;cases h0;rw[j vs g f (by simpa using a) (λi v d m o=>h1 (i+1) v d (by simpa using m) (by simpa using o))]
      .cases hl
   rw[key cs vs l hl a h1]
 .cases h
def A1:List cp->List cp->Bool
 | .int k a::x,.int k' b::y=>k == k'&&a == b&&A1 x y
 | [],[]=>ep
 | _,_=>eL
theorem afN{t:ej}{k:ek}(h:P.underlying t=aE (.int k)):ry P t=aE false:=by simp[ry,h]
theorem G5{k:ek}{ks:List ek}{vs:List cp}(h:vx (k::ks) vs=ep):∃n a,vs = .int k n::a/\vx ks a=true:=by
 cases vs with
 | nil=>cases h
 | cons v a=>
  cases v<;>simp[vx]at h;obtain⟨rfl,h⟩:=h;exact⟨_,_,rfl,h⟩
theorem WT{t:ej}{k a:ek}(h:P.underlying t=aE (.int k)){vs:List cp}{i:Nat}{n:Int}(b:vs[i]? = aE (.int a n)):(part t vs.toArray i).run P w = .ok (.int a n) w:=by simp[part,EW (afN h) w,b]
theorem aar(d:Nat){vs us:List cp}:∀(fs:List Field) (i:Nat) (ks:List ek),En P i fs=aE ks->vx ks (vs.drop i)=ep->vx ks (us.drop i)=ep ->
  (hU (d+1) vs.toArray us.toArray fs).run P w = .ok (A1 (vs.drop i) (us.drop i)) w
 | [],i,ks,h,hv,hu=>by
  cases h
  cases b:vs.drop i with
  | nil=>cases a:us.drop i with
   | nil=>rfl
   | cons y A=>rw[a]at hu;cases hu
  | cons x xr=>rw[b]at hv;cases hv
 | f::fs,i,ks,h,hv,hu=>by
  simp only[En]at h;split at h
  .rename_i k s c p;split at h
   .rename_i r;obtain⟨q8,u⟩:=r;cases h;obtain⟨n,l,b,q⟩:=G5 hv;obtain⟨m,o,a,t⟩:=G5 hu;have z:vs[i]? = aE (.int k n):=by have:=congrArg (·[0]?) b;simpa using this
    have v:us[i]? = aE (.int k m):=by have:=congrArg (·[0]?) a;simpa using this
    have j:vs.drop (i+1)=l:=by rw[<-cJ,b];rfl
    have g:us.drop (i+1)=o:=by rw[<-cJ,a];rfl
    have e:=aar d fs (i+1) s p (by rw[j];exact q) (by rw[g];exact t);rw[j,g]at e;rw[b,a];simp only[hU,if_pos u,di,q8,WT c z,WT c v,bf,lu w d f.type k k n m c,hY,e,A1];cases n == m<;>simp
   .cases h
  .cases h
theorem acz{l:List ek}:∀ {a b:List cp},vx l a=ep->vx l b=ep->oz (.agg a.toArray) (.agg b.toArray)=A1 a b:=by
 induction l with
 | nil=>intro a b h1 c;cases a<;>cases b<;>simp[vx]at h1 c;simp[oz,A1]
 | cons k ks d=>
  intro a b h1 c;obtain⟨n,i,rfl,f⟩:=G5 h1;obtain⟨m,g,rfl,e⟩:=G5 c;have h:=d f e;simp[oz,A1]at h ⊢;rw[<-h];cases n == m<;>cases i.l == g.l<;>simp
theorem afw:∀ {a b:List cp},A1 a b=ep->a=b
 | [],[],_=>rfl
 | .int k n::a,.int k' m::b,h=>by simp[A1]at h;obtain⟨⟨rfl,rfl⟩,h⟩:=h;rw[afw h]
 | [],_::_,h=>by simp[A1]at h
theorem aeE(n:Nat):∀ {l:List ek} {a:List cp},vx l a=ep->(a.zip a).all (λ(x,y)=>eB n x y)=ep
 | [],[],_=>rfl
 | k::l,v::a,h=>by obtain⟨m,r,e,h⟩:=G5 h;cases e;simp only[List.zip_cons_cons,List.all_cons,aeE n h];cases n<;>simp[eB]
def KC(P:lp)(t:ej)(d:nm)(kk:KK):Prop:=(∃k,d = .int k/\kk = .int k)\/(d = .string/\kk = .str)\/(d = .bool/\kk = .bool)\/∃fs l,d = .struct fs/\kk = .ints l/\En P 0 fs.toList=aE l/\P.stoodInHeld t=eL
theorem SS{t:ej}{kk:KK}(h:xm P t=aE kk):∃d,P.underlying t=aE d/\KC P t d kk:=by
 unfold xm at h;split at h
 .rename_i fs a;split at h
  .rename_i hs;obtain⟨l,hl,rfl⟩:=ar.1 h;exact⟨_,a,.inr (.inr (.inr ⟨fs,l,rfl,rfl,hl,hs⟩))⟩
  .cases h
 .rename_i k a;cases h;exact⟨_,a,.inl ⟨k,rfl,rfl⟩⟩
 .rename_i a;cases h;exact⟨_,a,.inr (.inl ⟨rfl,rfl⟩)⟩
 .rename_i a;cases h;exact⟨_,a,.inr (.inr (.inl ⟨rfl,rfl⟩))⟩
 .cases h
theorem agt{t:ej}{k:ek}(h:P.underlying t=aE (.int k))(b:Bool)(n:Nat)(m:Int):(gb b (n+1) t (.int k m)).run P w = .ok () w:=by unfold gb;simp only[di,eh h,bf];rfl
theorem run_checkKey{t:ej}{kk:KK}(h:xm P t=aE kk)(b:Bool){kv:cp}(c:kk.has kv=ep)(w:ez):(gb b 10000 t kv).run P w = .ok () w:=by
 obtain⟨d,e,g⟩:=SS h;unfold gb;rcases g with⟨k,rfl,rfl⟩|⟨rfl,rfl⟩|⟨rfl,rfl⟩|⟨fs,l,rfl,rfl,a,_⟩
 .simp only[di,eh e,bf];rfl
 .simp only[di,eh e,bf];rfl
 .simp only[di,eh e,bf];rfl
 .cases kv<;>simp[KK.has]at c;rename_i cs;obtain⟨vs⟩:=cs;simp only[di,eh e,bf];rw[<-Array.forIn_toList];have h0:vx l (vs.drop 0)=true:=by simpa using c
  clear c h;obtain⟨i,hi⟩:∃i,i=0:=⟨_,rfl⟩;rw[<-hi]at a h0;clear hi e;generalize fs.toList=fl at a ⊢
  induction fl generalizing i l with
  | nil=>simp
  | cons f fl q=>
   simp only[En]at a;split at a
   .rename_i k s c o;split at a
    .rename_i g;obtain⟨q8,u⟩:=g;cases a;obtain⟨n,m,j,p⟩:=G5 h0;have v:vs[i]? = aE (.int k n):=by have:=congrArg (·[0]?) j;simpa using this
     have x:vs.drop (i+1)=m:=by rw[<-cJ,j];rfl
     have r:=q s (i+1) (by rw[x];exact p) o;rw[List.forIn_cons];simp only[if_pos u,di,q8,WT c v,bf,agt c,j'];exact r
    .cases a
   .cases a
def pU(kv:cp):List ga->Nat->Option (Nat×cp)
 | [],_=>dx
 | e::es,i=>if oz kv e.key then aE (i,e.val)else pU kv es (i+1)
theorem T2{d:nm}{kk:KK}(f:(∃k,d = .int k/\kk = .int k)\/(d = .string/\kk = .str)\/(d = .bool/\kk = .bool)){kv:cp}(b:kk.has kv=ep) :
  ∀(es:List ga) (i:Nat),(∀e∈es,kk.has e.key=ep)->fb d kv es i=aE (pU kv es i):=by
 intro es
 induction es with
 | nil=>intro i _;rfl
 | cons e es c=>
  intro i h;have a:=h e gP;have g:=c (i+1) (λe a=>h e (by simp[a]));unfold fb pU
  have hs:iN d kv e.key=aE (oz kv e.key):=by obtain⟨key,val,born⟩:=e;rcases f with⟨k,rfl,rfl⟩|⟨rfl,rfl⟩|⟨rfl,rfl⟩<;>cases kv<;>simp[KK.has]at b<;>cases key<;>simp[KK.has]at a<;>simp[iN,oz];subst b;subst a;simp
  rw[hs];cases oz kv e.key
  .grind
  .rfl
theorem aa5{t:ej}{fs:Array Field}{l:List ek}(d:P.underlying t=aE (.struct fs))(f:En P 0 fs.toList=aE l)(g:P.stoodInHeld t=eL){kv:cp}(b:(KK.ints l).has kv=ep)(w:ez) :
  ∀(es:List ga) (i:Nat),(∀e∈es,(KK.ints l).has e.key=ep)->(la t kv es i).run P w = .ok (pU kv es i) w
 | [],i,_=>rfl
 | e::es,i,h=>by
  have a:=h e gP;have k:=aa5 d f g b w es (i+1) λe a=>h e (by simp[a]);have m:P.underlying t=aE (.struct (P.fieldsOf t)):=by unfold fp;rw[d]
  have j:P.fieldsOf t=fs:=by unfold fp;rw[d]
  obtain⟨key,val,born⟩:=e;cases kv<;>simp[KK.has]at b;cases key<;>simp[KK.has]at a;rename_i cs ds;obtain⟨vs⟩:=cs;obtain⟨us⟩:=ds;dsimp only at b a
  have c:(n4 t (.agg ⟨vs⟩) (.agg ⟨us⟩)).run P w = .ok (oz (.agg ⟨vs⟩) (.agg ⟨us⟩)) w:=by show(hI 10000 t (.agg ⟨vs⟩) (.agg ⟨us⟩)).run P w=_;rw[kl w 9999 t ⟨vs⟩ ⟨us⟩ m g,j,acz b a];exact aar 9998 (vs:=vs) (us:=us) fs.toList 0 l f (by simpa using b) (by simpa using a)
  unfold la pU;simp only[di,c,bf,hY,k];cases oz (.agg ⟨vs⟩) (.agg ⟨us⟩)<;>simp
theorem run_findKey{t:ej}{kk:KK}(h:xm P t=aE kk){kv:cp}(f:kk.has kv=ep)(es:List ga)(c:∀e∈es,kk.has e.key=ep)(w:ez) :
  (eK t kv es).run P w = .ok (pU kv es 0) w:=by
 obtain⟨d,b,a⟩:=SS h;rcases a with a|a|a|⟨fs,l,rfl,rfl,g,i⟩
 .simp[eK,eh b,T2 (.inl a) f es 0 c]
 .simp[eK,eh b,T2 (.inr (.inl a)) f es 0 c]
 .simp[eK,eh b,T2 (.inr (.inr a)) f es 0 c]
 .cases es with
  | nil=>simp[eK,eh b,fb,pU]
  | cons e es=>
   have j:fb (.struct fs) kv (e::es) 0=none:=by unfold fb;cases kv<;>cases e.key<;>simp[iN]
   simp only[eK,di,eh b,bf,j];exact aa5 b g i f w (e::es) 0 c
theorem aci:∀ {l:List ek} {vs:List cp},vx l vs=ep->∀v∈vs,v.oneCell'=ep
 | [],[],_,v,hv=>by cases hv
 | k::ks,.int k' n::vs,h,v,hv=>by
  simp only[vx,er]at h;rcases ak.1 hv with rfl|hv
  .rfl
  .exact aci h.2 v hv
theorem aeb{kk:KK}{v:cp}(h:kk.has v=ep):gX c w v (uC v):=by
 unfold uC;split
 .rename_i cs;cases kk<;>simp only[KK.has]at h<;>first|(cases h;done)|skip
  have:=gX.agg (c:=c) (w:=w) cs.toList (cs.toList.map .val) gP (aci h) (λi v d b a=>by
   simp only[aw,b,aK,ax]at a;subst a
   exact .val _)
  simpa using this
 .exact .val _
theorem Wr{arr:Array ga}{a:Nat}{es:List (cp×D)}(b:IQ c w arr a es){kk:KK}(d:∀x∈es,kk.has x.1=ep):∀e∈arr.toList,kk.has e.key=true:=by
 intro e f;obtain⟨i,hi⟩:=aG.1 f;have hl:i<es.l:=by rw[<-b.1];have:=(ae.1 hi).1;simpa using this
 obtain⟨h1,_⟩:=b.2.1 i e es[i] (by simpa using hi) (by simp[hl]);rw[h1];exact d _ (cD hl)
theorem JD(kv:cp):∀(l:List ga) (es:List (cp×D)) (i:Nat),l.l=es.l ->
  (∀(j:Nat) (e:ga) (x:cp×D),l[j]? = aE e->es[j]? = aE x->e.key=x.1/\gX c w e.val x.2) ->
  (pU kv l i=dx/\oN es kv=dx/\∀y,lF es kv y=es ++ [(kv,y)]) \/
  (∃j v d,pU kv l i=aE (i+j,v)/\oN es kv=aE d/\gX c w v d/\j<l.l/\(∀y,lF es kv y=es.set j (kv,y))/\∃e,l[j]? = aE e/\oz kv e.key=ep)
 | [],[],i,_,_=>.inl ⟨rfl,rfl,λ_=>rfl⟩
 | e::l,(k,d)::es,i,hl,h=>by
  obtain⟨f,n⟩:=h 0 e (k,d) rfl rfl;dsimp only at f n
  by_cases a:oz kv e.key=ep
  .refine .inr ⟨0,e.val,d,by simp[pU,a],by simp[oN,<-f,a],n,gP,λy=>by simp[lF,<-f,a],e,rfl,a⟩
  .have b:oz kv k=false:=by rw[<-f];simpa using a
   rcases JD kv l es (i+1) (by simpa using hl) (λj e x a o=>h (j+1) e x (by simpa using a) (by simpa using o))with⟨h1,m,g⟩|⟨j,v,d',h1,m,g,t,r,s,q,p⟩
   .exact .inl ⟨by simp[pU,a,h1],by simp[oN,b,m],λy=>by simp[lF,b,g]⟩
   .exact .inr ⟨j+1,v,d',by simp[pU,a,h1];omega,by simp[oN,b,m],g,iz,λy=>by simp[lF,b,r],s,by simpa using q,p⟩
theorem arA(h:iy G c H w){t k e:ej}{kk:KK}{z:D}(U:P.underlying t=aE (.map k e))(F:xm P k=aE kk)(s:Ih P e=aE z)(ok:Bool){m x:D}{u v:cp}(h1:gX c w u m)(X:gX c w v x)
  (g:La kk z ok m x H K):∃r,(kb t u v ok).run P w = .ok r w/\kj G c H w K r w:=by
 have o:∃n,(zeroValue e).run P w = .ok n w/\gX c w n z:=by
  unfold Ih at s
  cases hi:P.info? e with
  | none=>simp[hi]at s
  | some i=>
   simp only[hi,mV]at s
   cases C:i.zero with
   | none=>simp[C]at s
   | some n=>
    simp only[C,mV]at s;exact⟨n,by simp[zeroValue,run_typeInfo hi,C],W4 s⟩
 obtain⟨n,J,I⟩:=o;unfold La at g;split at g
 .rename_i O kv Y;split at g
  .rename_i rj es R;obtain⟨rfl,E,g⟩:=g;have f:=V2 X Y;subst f
   cases h1 with
   | im _ L S jk=>
    have A:=h.ob O _ (wG R);simp only[Ob.gen]at A;rw[S]at A;simp only[iY]at A;obtain⟨_,M,arr,q,V,B⟩:=A;have Z:=run_findKey F E arr.toList (Wr B M) w;have Q:=run_checkKey (w:=w) F arr.isEmpty E
    have y:(kb t (.map (aE L.b)) v ok).run P w=((match pU v arr.toList 0 with
      | some (_,v)=>n3 (v,ep) w
      | none=>n3 (n,eL) w:Result (cp×Bool)).andThen λp w=>.ok (if ok then .tuple #[p.1,.bool p.2]else p.1) w):=by
     have N:(jA L.b).run P w = .ok (.map arr q) w:=by simp[jA,jX,V]
     simp only[kb,di,eh U,bf,N,j',Q,Z]
     cases pU v arr.toList 0 with
     | none=>simp[J]
     | some p=>obtain⟨_,_⟩:=p;simp
    rcases JD (c:=c) (w:=w) v arr.toList es 0 (by simpa using B.1) (λj e x W T=>let ⟨a,b,_⟩:=B.2.1 j e x (by simpa using W) T;⟨a,b⟩)with⟨f1,f2,_⟩|⟨j,val,d,f1,f2,f3,_⟩
    .rw[f1]at y;rw[f2]at g;refine⟨_,y,.plain h g ?_⟩;cases ok
     .exact I
     .exact .tup [n,.bool eL] [z,.val (.bool eL)] rfl (λi v d f l=>by
       match i with
       | 0=>simp at f l;subst f;subst l;exact I
       | 1=>simp at f l;subst f;subst l;exact .val _
       | i+2=>simp at f)
    .rw[f1]at y;rw[f2]at g;refine⟨_,y,.plain h g ?_⟩;cases ok
     .exact f3
     .exact .tup [val,.bool ep] [d,.val (.bool ep)] rfl (λi v d' f l=>by
       match i with
       | 0=>simp at f l;subst f;subst l;exact f3
       | 1=>simp at f l;subst f;subst l;exact .val _
       | i+2=>simp at f)
  .exact g.elim
 .grind
theorem asY{kk:KK}(a:kk = .str\/kk = .bool\/∃k,kk = .int k){old new:cp}(h1:kk.has new=ep)(b:kk.has old=ep)(h:oz new old=ep):eB 10000 old new=true:=by
 rcases a with rfl|rfl|⟨k,rfl⟩<;>cases new<;>simp[KK.has]at h1<;>cases old<;>simp[KK.has]at b<;>simp[oz]at h<;>simp[eB]
 .rename_i x y;obtain⟨x⟩:=x;obtain⟨y⟩:=y;have c:(x == y)=true:=h;have e:=eq_of_beq c;subst e;exact h
 .exact h.symm
 .grind
theorem aeD{kk:KK}(b:(kk = .str\/kk = .bool\/∃k,kk = .int k)\/∃l,kk = .ints l){old new:cp}(h1:kk.has new=ep)(a:kk.has old=ep)(h:oz new old=ep):eB 10000 old new=true:=by
 rcases b with b|⟨l,rfl⟩
 .exact asY b h1 a h
 .cases new<;>simp[KK.has]at h1;cases old<;>simp[KK.has]at a;rename_i cs ds;obtain⟨vs⟩:=cs;obtain⟨us⟩:=ds;dsimp only at h1 a;have e:=afw ((acz h1 a).symm.trans h);subst e;have:=aeE 9999 h1;simp only[eB,beq_self_eq_true,eW];exact this
theorem CN{G:GT}{c:Ctx}{H:gQ}{w:ez}(h:iy G c H w){v:Nat}{ob ob':Ob}(f:H[v]? = aE ob)(g:ob.alive=ep)(i:ob'.alive=ep)(m:ob'.gen=ob.gen){L:Loc}(e:c.ι v ob.gen=aE L)(a:L.kQ=eL)(o':Obj)
  (j:∀w',w'.heap[L.b]? = aE o'->(∀u d,gX c w u d->gX c w' u d)->iY c w' (aE L) ob') :
  iy G c (H.set v ob') { w with heap:=w.heap.setIfInBounds L.b o' }/\Step H.l c H w c (H.set v ob') { w with heap:=w.heap.setIfInBounds L.b o' }:=by
 have k:=h.lt _ ⟨v,L,⟨ob,f,g,e⟩,a,rfl⟩;refine afr (w':={ w with heap:=w.heap.setIfInBounds L.b o' }) h f g i m e a ⟨rfl,ns _⟩ rfl rfl gP (λb l=>?_) (j _ (by simp[k]));rw[dh (cP l)]
theorem ade{es:List (cp×D)}{kv:cp}{y:D}:∀x∈lF es kv y,x∈es\/x=(kv,y):=by
 induction es with
 | nil=>intro x a;simp[lF]at a;exact .inr a
 | cons e es b=>
  intro x a;obtain⟨k,d⟩:=e;simp only[lF]at a;split at a
  .grind
  .grind
theorem adG(h:iy G c H w){t k e:ej}{kk:KK}(V:P.underlying t=aE (.map k e))(O:xm P k=aE kk){m x y:D}{u v z:cp}(h1:gX c w u m)(h2:gX c w v x)(W:gX c w z y)
  (s:Ld kk m x y H K):∃w',(fa t u v z).run P w = .ok () w'/\kj G c H w K undef w':=by
 have Vp:(kk = .str\/kk = .bool\/∃k,kk = .int k)\/∃l,kk = .ints l:=by
  obtain⟨d,_,hc⟩:=SS O;rcases hc with⟨k,_,rfl⟩|⟨_,rfl⟩|⟨_,rfl⟩|⟨_,l,_,rfl,_⟩
  .grind
  .grind
  .grind
  .grind
 unfold Ld at s;split at s
 .rename_i v0 kv Kf;split at s
  .rename_i C es Q;obtain⟨rfl,B,s⟩:=s;have hv:=V2 h2 Kf;subst hv
   cases h1 with
   | im _ L S E=>
    have F:=h.ob v0 _ (wG Q);simp only[Ob.gen]at F;rw[S]at F;simp only[iY]at F;obtain⟨_,wi,arr,f,I,n⟩:=F;have Y:=Wr n wi;have Z:=run_findKey O B arr.toList Y w;have U:=run_checkKey (w:=w) O eL B
    have X:∀T,∀x∈lF es v T,C.has x.1=true:=λT x g=>by
     rcases ade x g with h|rfl
     .grind
     .exact B
    rcases JD (c:=c) (w:=w) v arr.toList es 0 (by simpa using n.1) (λj e x o g=>let ⟨a,b,_⟩:=n.2.1 j e x (by simpa using o) g;⟨a,b⟩)with⟨f1,f2,f3⟩|⟨j,val,d,f1,f2,_,f4,f5,J,f6,f7⟩
    .have R:(fa t (.map (aE L.b)) v z).run P w = .ok () { w with heap:=w.heap.setIfInBounds L.b (.map (arr.push { key:=v,val:=z,born:=f }) (f+1)) }:=by
      have M:(jA L.b).run P w = .ok (.map arr f) w:=by simp[jA,jX,I]
      simp only[fa,di,eh V,bf,M,U,Z,f1];simp[setObj,jX,I]
     obtain⟨m1,m2⟩:=CN h (wG Q) rfl rfl rfl S E (.map (arr.push { key:=v,val:=z,born:=f }) (f+1)) (ob':=.map C (lF es v y)) (by
      intro w' N A;simp only[iY];refine⟨E,X y,_,_,N,?_⟩;rw[f3];refine⟨by simp[n.1],λi e x o g=>?_,by simp[n.2.2]⟩;rw[fq]at o;split at o
      .rename_i hi;cases o;rw[ao (by rw[hi,n.1];exact ns _),hi,n.1]at g;simp at g;subst g;exact⟨rfl,A _ _ W,by rw[hi,n.1,n.2.2]⟩
      .have hi:i<es.l:=by rw[<-n.1];exact(aX.1 o).1
       rw[ah hi]at g;obtain⟨p,q,r⟩:=n.2.1 i e x o g
       exact⟨p,A _ _ q,r⟩)
     exact⟨_,R,.any,_,c,s,m1,.any _,m2⟩
    .have oK:j<arr.size:=by simpa using f4
     have xT:arr[j]? = aE J:=by simpa using f6
     have U':C.has J.key=true:=Y J (List.mem_of_getElem? f6)
     have VA:(ku J.key v).run P w = .ok v w:=by simp[ku,aeD Vp B U' f7]
     have R:(fa t (.map (aE L.b)) v z).run P w = .ok () { w with heap:=w.heap.setIfInBounds L.b (.map (arr.modify j λe=>{ e with key:=v,val:=z }) f) }:=by
      have M:(jA L.b).run P w = .ok (.map arr f) w:=by simp[jA,jX,I]
      simp only[fa,di,eh V,bf,M,U,Z,f1,aR,xT,aK,bh,VA];simp[setObj,jX,I]
     obtain⟨m1,m2⟩:=CN h (wG Q) rfl rfl rfl S E (.map (arr.modify j λe=>{ e with key:=v,val:=z }) f) (ob':=.map C (lF es v y)) (by
      intro w' N A;simp only[iY];refine⟨E,X y,_,_,N,?_⟩;rw[f5];refine⟨by simp[n.1],λi e x o g=>?_,by simp[n.2.2]⟩
      .rw[bB]at o;rw[bI]at g;split at o
       .rename_i hi;subst hi;rw[if_pos rfl]at g;simp only[ar]at o;obtain⟨e0,h0,rfl⟩:=o;split at g
        .cases g;have hj:j<es.l:=by rw[<-n.1];exact oK
         exact⟨rfl,A _ _ W,(n.2.1 j e0 es[j] h0 (by simp[hj])).2.2⟩
        .cases g
       .rename_i hi;rw[if_neg hi]at g;obtain⟨p,q,r⟩:=n.2.1 i e x o g
        exact⟨p,A _ _ q,r⟩)
     exact⟨_,R,.any,_,c,s,m1,.any _,m2⟩
  .exact s.elim
 .exact s.elim
end
section
variable{P:lp}{G:GT}{c:Ctx}{H:gQ}{w:ez}{K:kH}{env:iM}{a:Act}
theorem acH{t:ej}{l:oe}(hl:AA P t=aE l)(d:Nat){x y:D}{u v:cp}(h1:gX c w u x)(b:gX c w v y){r:Bool}(h:wZ l x y=aE r):(hI (d+1) t u v).run P w = .ok r w:=by
 unfold wZ at h;split at h
 .rename_i k m f n;cases h1;cases b;split at h
  .rename_i e;subst e;cases h;unfold AA at hl;split at hl
   .rename_i k0 a;exact lu w d t k k0 m n a
   .cases hl
   .cases hl
   .cases hl
  .cases h
 .cases h1;cases b;cases h;unfold AA at hl;split at hl
  .cases hl
  .cases hl
  .rename_i a;exact kx w d t _ _ a
  .cases hl
 .cases h1;cases b;cases h;rename_i p q;unfold AA at hl;split at hl
  .cases hl
  .rename_i a;have:=run_equalIn_string (P:=P) w d t p q a;rw[ByteArray.toList_eq,ByteArray.toList_eq]at this;exact this
  .cases hl
  .cases hl
 .cases h
theorem acG{t:ej}{l:oe}(hl:AA P t=aE l):ry P t=aE false:=by unfold AA at hl;unfold ry;split at hl<;>first|(rename_i a;simp[a])|(rename_i k a;simp[a])|cases hl
theorem aas(d:Nat){vs us:List cp}{xs a:List D}(k:Cells c w vs xs)(j:Cells c w us a):∀(fs:List Field) (i:Nat) (ls:List oe) (r:Bool),Qc P i fs=aE ls->oi ls (xs.drop i) (a.drop i)=aE r ->
  (hU (d+1) vs.toArray us.toArray fs).run P w = .ok r w
 | [],i,ls,r,he,hc=>by
  cases he;unfold oi at hc;split at hc
  .cases hc;rfl
  .grind
  .cases hc
 | f::fs,i,ls,r,he,hc=>by
  simp only[Qc]at he;split at he
  .rename_i l g hl M;split at he
   .rename_i t;obtain⟨q8,G⟩:=t;cases he
    cases b:xs.drop i with
    | nil=>rw[b]at hc;simp[oi]at hc
    | cons x xr=>
     cases e:a.drop i with
     | nil=>rw[b,e]at hc;simp[oi]at hc
     | cons y n=>
      rw[b,e]at hc;simp only[oi]at hc;split at hc
      .rename_i p q E C;cases hc;have K:xs[i]? = aE x:=by have:=congrArg (·[0]?) b;simpa using this
       have H:a[i]? = aE y:=by have:=congrArg (·[0]?) e;simpa using this
       have L:xs.drop (i+1)=xr:=by rw[<-cJ,b];rfl
       have J:a.drop (i+1)=n:=by rw[<-cJ,e];rfl
       obtain⟨u,B,_,F⟩:=k.get K;obtain⟨v,A,_,I⟩:=j.get H;have z:=aas d k j fs (i+1) g q M (by rw[L,J];exact C);have h:=acH (w:=w) hl d F I E;have m:=EW (acG hl) w;have o:(part f.type vs.toArray f.offset).run P w = .ok u w:=by simp[part,m,q8,B]
       have s:(part f.type us.toArray f.offset).run P w = .ok v w:=by simp[part,m,q8,A]
       simp only[hU,if_pos G,di,o,s,bf,h,hY,z];cases p<;>simp
      .cases hc
   .cases he
  .cases he
theorem aat{e:ej}{l:oe}(hl:AA P e=aE l)(d:Nat){vs us:List cp}{xs a:List D}(j:Cells c w vs xs)(h:Cells c w us a):∀(n i:Nat) (r:Bool),oi (kD n l) (xs.drop i) (a.drop i)=aE r ->
  (nK (d+1) e 1 vs.toArray us.toArray (List.range' i n)).run P w = .ok r w
 | 0,i,r,hc=>by
  unfold oi at hc;split at hc
  .cases hc;rfl
  .grind
  .cases hc
 | n+1,i,r,hc=>by
  rw[bL]at hc
  cases b:xs.drop i with
  | nil=>rw[b]at hc;simp[oi]at hc
  | cons x xr=>
   cases f:a.drop i with
   | nil=>rw[b,f]at hc;simp[oi]at hc
   | cons y m=>
    rw[b,f]at hc;simp only[oi]at hc;split at hc
    .rename_i p q C B;cases hc;have I:xs[i]? = aE x:=by have:=congrArg (·[0]?) b;simpa using this
     have F:a[i]? = aE y:=by have:=congrArg (·[0]?) f;simpa using this
     have J:xs.drop (i+1)=xr:=by rw[<-cJ,b];rfl
     have H:a.drop (i+1)=m:=by rw[<-cJ,f];rfl
     obtain⟨u,A,_,E⟩:=j.get I;obtain⟨v,z,_,G⟩:=h.get F;have t:=aat hl d j h n (i+1) q (by rw[J,H];exact B);have g:=acH (w:=w) hl d E G C;have k:=EW (acG hl) w;have o:(part e vs.toArray (i*1)).run P w = .ok u w:=by simp[part,k,A]
     have s:(part e us.toArray (i*1)).run P w = .ok v w:=by simp[part,k,z]
     rw[cE];simp only[nK,di,o,s,bf,g,hY,t];cases p<;>simp
    .cases hc
theorem adF(h:iy G c H w){t:ej}{ls:List oe}(d:Qd P t=aE ls)(neg:Bool){x y:D}{u v:cp}(h1:gX c w u x)(E:gX c w v y)(a:yV ep ls neg x y H K)(xo f:lK) :
  ∃r,(do ml (if neg then .neq else .eql) t xo f u v;binOp (if neg then .neq else .eql) t u v).run P w = .ok r w/\kj G c H w K r w:=by
 unfold Qd at d;split at d
 .rename_i fs i;split at d
  .rename_i g;have J:P.underlying t=aE (.struct (P.fieldsOf t)):=by unfold fp;rw[i]
   have F:P.fieldsOf t=fs:=by unfold fp;rw[i]
   have o:∃cs ds,x = .agg cs/\y = .agg ds:=by
    unfold yV at a;split at a
    .grind
    .contradiction
    .exact a.elim
   obtain⟨cs,ds,rfl,rfl⟩:=o;simp only[yV]at a;split at a
   .rename_i r p
    cases h1 with
    | agg vs _ m C z=>
     cases E with
     | agg us _ j s q=>
      have B:Cells c w vs cs:=⟨m,C,z⟩;have A:Cells c w us ds:=⟨j,s,q⟩;have k:=aas (P:=P) 9998 B A fs.toList 0 ls r d (by simpa using p)
      have b:(hI 10000 t (.agg vs.toArray) (.agg us.toArray)).run P w = .ok r w:=by rw[kl w 9999 t vs.toArray us.toArray J g.1,F];exact k
      cases neg
      .simp only[bQ,if_false,di,fx w .eql t xo f vs.toArray us.toArray g.2,bf,mz,b];exact⟨_,rfl,.val h (by simpa using a)⟩
      .simp only[if_true,di,fx w .neq t xo f vs.toArray us.toArray g.2,bf,mP,b];exact⟨_,rfl,.val h (by simpa using a)⟩
   .exact a.elim
  .cases d
 .rename_i n e i;split at d
  .rename_i g;obtain⟨hg,L,hi⟩:=g;obtain⟨I,hi⟩:=dJ.1 hi;obtain⟨l,hl,rfl⟩:=ar.1 d
   have o:∃cs ds,x = .agg cs/\y = .agg ds:=by
    unfold yV at a;split at a
    .grind
    .contradiction
    .exact a.elim
   obtain⟨cs,ds,rfl,rfl⟩:=o;simp only[yV]at a;split at a
   .rename_i r p
    cases h1 with
    | agg vs _ m C z=>
     cases E with
     | agg us _ j s q=>
      have B:Cells c w vs cs:=⟨m,C,z⟩;have A:Cells c w us ds:=⟨j,s,q⟩;have k:=aat (P:=P) (w:=w) hl 9998 B A n 0 r (by simpa using p)
      have b:(hI 10000 t (.agg vs.toArray) (.agg us.toArray)).run P w = .ok r w:=by rw[run_equalIn_array (w:=w) 9999 vs.toArray us.toArray i hi,L,cy];exact k
      cases neg
      .simp only[bQ,if_false,di,fx w .eql t xo f vs.toArray us.toArray hg,bf,mz,b];exact⟨_,rfl,.val h (by simpa using a)⟩
      .simp only[if_true,di,fx w .neq t xo f vs.toArray us.toArray hg,bf,mP,b];exact⟨_,rfl,.val h (by simpa using a)⟩
   .exact a.elim
  .cases d
 .cases d
theorem adE(h:iy G c H w){t:ej}(k:P.underlying t=aE .bool)(neg:Bool){x y:D}{u v:cp}(h1:gX c w u x)(m:gX c w v y)(f:yV eL [.bool] neg x y H K)(xo j:lK) :
  ∃r,(do ml (if neg then .neq else .eql) t xo j u v;binOp (if neg then .neq else .eql) t u v).run P w = .ok r w/\kj G c H w K r w:=by
 simp only[yV]at f;split at f
 .rename_i r d;simp only[oi]at d;split at d
  .rename_i p q e l;cases l;cases d;unfold wZ at e;split at e
   .contradiction
   .cases h1;cases m;cases e;rename_i b g _;have a:=kx (P:=P) w 9999 t b g k;have i:n4 t (.bool b) (.bool g)=hI 10000 t (.bool b) (.bool g):=rfl;cases neg
    .exact⟨_,by simp[ml,binOp,i,a]<;>rfl,.val h (by simpa using f)⟩
    .exact⟨_,by simp[ml,binOp,i,a]<;>rfl,.val h (by simpa using f)⟩
   .contradiction
   .cases e
  .cases d
 .grind
theorem Sr{f:jI}(h:uW P f=ep)(args:Array cp)(w:ez):(callFunc f args).run P w = .ok (.enter f args) w:=by
 unfold uW at h;split at h
 .rename_i fn b;simp only[er,bne_iff_ne,ne_eq]at h;have a:fn.body.isNone=false:=by cases a:fn.body<;>simp[a]at h ⊢
  simp[callFunc,b,h.1];intro e;rw[e]at a;cases a
 .cases h
end
section
variable{P:lp}{G:GT}{c:Ctx}{H:gQ}{w:ez}{K:kH}{env:iM}{a:Act}
def FL(r:Result Next)(v:cp)(w':ez):Prop:=r = .ok (.value v) w'\/(r = .ok .skip w'/\v=undef)
theorem kL{s:Sem cp}{v:cp}{w':ez}(h:s.run P w = .ok v w'):FL ((do pure (.value (<-s)):Sem Next).run P w) v w':=.inl (by simp[h])
theorem Mt{s:Sem Unit}{w':ez}(h:s.run P w = .ok () w'):FL ((do s;pure .skip:Sem Next).run P w) undef w':=.inr ⟨by simp[h],rfl⟩
theorem ark(h:iy G c H w){s d:ej}{sd:nm}{k:ek}(hs:P.underlying s=aE sd)(e:P.underlying d=aE (.int k)){x:D}{u:cp}(h1:gX c w u x)
  (a:Jm k x H K):∃r,(convert s d u).run P w = .ok r w/\kj G c H w K r w:=by
 unfold Jm at a;split at a
 .rename_i f n;cases h1;have b:P.intKind d=k:=by simp[Program.intKind,e]
  have:=run_convert_int (P:=P) w s d f n (by rw[hs];rfl) (by rw[b];exact e);rw[b]at this;exact⟨_,this,.val h a⟩
 .exact a.elim
theorem arG(h:iy G c H w){o:Oper}{x:lK}(l:o.op = .nilCheck x){d:D}(h1:gX c w (a.eval x) d)
  (g:Ll d H K):∃v w',FL ((cc a.eval o).run P w) v w'/\kj G c H w K v w':=by
 have key:∀v,a.eval x=v->(match v with | .pointer (aE _)=>True | .func (.func _) _ _=>True | .func (.yield _) _ _=>True|_=>False)->FL ((cc a.eval o).run P w) v w:=by intro v i m;refine .inl ?_;simp only[cc,l,i];split at m<;>simp_all
 generalize i:a.eval x=v at h1;unfold Ll at g;split at g
 .cases h1 with
  | ptr _ _ _ L k j=>exact⟨_,w,key _ i trivial,.plain h g (.ptr _ _ _ L k j)⟩
 .obtain⟨b,p,e,t,s⟩:=Bn h1;subst e;exact⟨_,w,key _ i trivial,.plain h g h1⟩
 .cases h1 with
  | fn f fs cs u y r e2 q n=>exact⟨_,w,key _ i trivial,.plain h g (.fn _ fs cs _ _ r e2 q n)⟩
 .cases h1 with
  | jF _ L k j=>exact⟨_,w,key _ i trivial,.plain h g (.jF _ L k j)⟩
 .exact g.elim
theorem W5{l:Array lK}{xs:List D}(h:kF c w (l.toList.map a.eval) xs):∃vs:List cp,l.map a.eval=vs.toArray/\kF c w vs xs:=
 ⟨_,by cases l;simp,h⟩
theorem zz{o:Oper}{cl:Call}(c:o.op = .call cl){b:Builtin}(d:cl.callee = .builtin b):(cc a.eval o).run P w=(builtin b cl.argTypes o.type (cl.args.map λ| .const _=>ep|_=>eL) (cl.args.map a.eval)).run P w:=by simp only[cc,c,resolve,d,di,j',bf,invoke];rfl
theorem adZ(h:iy G c H w)(B:mg c w env a){al:Al}(jj:o7 H al){o:Oper}{io:jG}(g:pv P G o=aE io)(A:IV env H al K io) :
  ∃v w',FL ((cc a.eval o).run P w) v w'/\kj G c H w K v w':=by
 unfold pv at g
 cases p:o.op with
 | move x=>
  simp only[p,aB,ag,aL,ax]at g;obtain⟨X,hX,rfl⟩:=g;exact⟨_,w,.inl (by simp only[cc,p];rfl),.plain h A (jH h B hX)⟩
 | assign x=>
  simp only[p,aB,ag,aL,ax]at g;obtain⟨X,hX,rfl⟩:=g;exact⟨_,w,.inl (by simp only[cc,p];rfl),.plain h A (jH h B hX)⟩
 | pick x y z=>
  simp only[p,aB,ag,aL,ax]at g;obtain⟨X,hX,Y,F,Z,hZ,rfl⟩:=g;obtain⟨b,J,j⟩:=arH h (jH h B hX) (jH h B F) (jH h B hZ) A;exact⟨_,w,.inl (by simp[cc,p,J];rfl),j⟩
 | box e x=>
  simp only[p,aB,ag,aL,ax]at g;obtain⟨X,hX,rfl⟩:=g;obtain⟨r,w',U,j⟩:=ard (P:=P) h jj e (jH h B hX) A;exact⟨r,w',by simp only[cc,p];exact kL U,j⟩
 | alloc e=>
  simp only[p,aB,ag,aL,ax]at g;obtain⟨z,O,rfl⟩:=g;obtain⟨r,w',U,j⟩:=aq8 (P:=P) h jj O A;exact⟨r,w',by simp only[cc,p];exact kL U,j⟩
 | build t ps=>
  simp only[p,aB,ag]at g;obtain⟨z,O,l,hl,g⟩:=g;split at g
  .rename_i fs C;split at g
   .rename_i hf;simp only[ag,aL,ax]at g;obtain⟨qs,hq,rfl⟩:=g;obtain⟨r,U,j⟩:=are h B O hl C hf hq A;exact⟨r,w,by simp only[cc,p];exact kL U,j⟩
   .cases g
  .rename_i n e C;simp only[ag,aL,ax]at g;obtain⟨sz,hs,rfl⟩:=g;obtain⟨r,U,j⟩:=arf h B O hl C hs A;exact⟨r,w,by simp only[cc,p];exact kL U,j⟩
  .cases g
 | buildSlice t n ps=>
  simp only[p,aB,ag]at g;obtain⟨S,C,g⟩:=g;split at g
  .rename_i e;simp only[ag]at g;obtain⟨z,O,sz,hs,l,hl,g⟩:=g;split at g
   .rename_i T;cases g;obtain⟨r,w',U,j⟩:=arh (P:=P) h jj B C O hs hl T.1 T.2.1 T.2.2 A;exact⟨r,w',by simp only[cc,p];exact kL U,j⟩
   .cases g
  .cases g
 | load t x=>
  simp only[p,aB,ag]at g;obtain⟨X,hX,n,E,b,J,g⟩:=g;cases b
  .cases g;obtain⟨v,q,j⟩:=ary h J (jH h B hX) A;exact⟨v,w,by simp only[cc,p];exact kL q,j⟩
  .cases g;obtain⟨v,q,j⟩:=arz h J E (jH h B hX) A;exact⟨v,w,by simp only[cc,p];exact kL q,j⟩
 | store t x y=>
  simp only[p,aB,ag]at g;obtain⟨X,hX,Y,F,n,E,b,J,g⟩:=g;cases b
  .simp only[bQ,if_false]at g;split at g
   .rename_i e;subst e;cases g;obtain⟨w',q,j⟩:=arN h E (jH h B hX) (jH h B F) A;exact⟨_,w',by simp only[cc,p];exact Mt q,j⟩
   .cases g
  .cases g;obtain⟨w',q,j⟩:=arO h E (jH h B hX) (jH h B F) A;exact⟨_,w',by simp only[cc,p];exact Mt q,j⟩
 | nilCheck x=>
  simp only[p,aB,ag,aL,ax]at g;obtain⟨X,hX,rfl⟩:=g;exact arG h p (jH h B hX) A
 | binOp op t x y yt=>
  simp only[p,aB,ag]at g;obtain⟨X,hX,Y,F,g⟩:=g;have I:=jH h B hX;have Q:=jH h B F;split at g
  .split at g
   .rename_i J;cases g;obtain⟨v,q,j⟩:=adE (P:=P) h (by unfold PD at J;split at J<;>first|assumption|cases J) eL I Q A x y;exact⟨v,w,by simp only[cc,p];exact kL q,j⟩
   .split at g
    .cases g;obtain⟨v,q,j⟩:=WN (P:=P) h I Q A t x y;exact⟨v,w,by simp only[cc,p];exact kL q,j⟩
    .simp only[ag,aL,ax]at g;obtain⟨ls,Am,rfl⟩:=g;obtain⟨v,q,j⟩:=adF (P:=P) h Am eL I Q A x y;exact⟨v,w,by simp only[cc,p];exact kL q,j⟩
  .split at g
   .rename_i J;cases g;obtain⟨v,q,j⟩:=adE (P:=P) h (by unfold PD at J;split at J<;>first|assumption|cases J) ep I Q A x y;exact⟨v,w,by simp only[cc,p];exact kL q,j⟩
   .split at g
    .cases g;obtain⟨v,q,j⟩:=WN (P:=P) h I Q A t x y;exact⟨v,w,by simp only[cc,p];exact kL q,j⟩
    .simp only[ag,aL,ax]at g;obtain⟨ls,Am,rfl⟩:=g;obtain⟨v,q,j⟩:=adF (P:=P) h Am ep I Q A x y;exact⟨v,w,by simp only[cc,p];exact kL q,j⟩
  .cases g;obtain⟨v,q,j⟩:=WN (P:=P) h I Q A t x y;exact⟨v,w,by simp only[cc,p];exact kL q,j⟩
 | unOp op t x=>
  simp only[p,aB,ag,aL,ax]at g;obtain⟨X,hX,rfl⟩:=g;obtain⟨v,q,j⟩:=arP (P:=P) h (jH h B hX) A;exact⟨v,w,by simp only[cc,p];exact kL q,j⟩
 | convert s d x=>
  simp only[p,aB,ag]at g;obtain⟨X,hX,sd,hs,g⟩:=g;split at g
  .rename_i k hd;cases g;obtain⟨v,q,j⟩:=ark (P:=P) h hs hd (jH h B hX) A;exact⟨v,w,by simp only[cc,p];exact kL q,j⟩
  .rename_i hd;simp only[ag]at g;obtain⟨c',nA,g⟩:=g;split at g
   .rename_i e;simp only[ag]at g;obtain⟨ed,b',g⟩:=g;split at g
    .cases g;obtain⟨v,q,j⟩:=arc (P:=P) h nA b' hd (jH h B hX) A;exact⟨v,w,by simp only[cc,p];exact kL q,j⟩
    .cases g
   .cases g
  .cases g
 | makeFunc f first cap=>
  simp only[p,aB,ag,aL,ax]at g;obtain⟨X,hX,Y,F,rfl⟩:=g;exact⟨_,w,.inl (by simp[cc,p,Instr.makeFunc]),arC h B hX F A⟩
 | makeMap t r=>
  cases r with
  | some r=>simp[p]at g
  | none=>
   simp only[p,aB,ag]at g;obtain⟨S,C,g⟩:=g;split at g
   .simp only[ag,aL,ax]at g;obtain⟨kk,lC,rfl⟩:=g;obtain⟨v,w',q,j⟩:=arD (P:=P) h jj t kk A;exact⟨v,w',by simp only[cc,p];exact kL q,j⟩
   .cases g
 | lookup t x i ok=>
  simp only[p,aB,ag]at g;obtain⟨S,C,g⟩:=g;split at g
  .simp only[ag,aL,ax]at g;obtain⟨z,O,kk,lC,X,hX,Y,F,rfl⟩:=g;obtain⟨v,q,j⟩:=arA (P:=P) h C lC O ok (jH h B hX) (jH h B F) A;exact⟨v,w,by simp only[cc,p];exact kL q,j⟩
  .cases g
 | mapUpdate t m k x=>
  simp only[p,aB,ag]at g;obtain⟨S,C,g⟩:=g;split at g
  .simp only[ag,aL,ax]at g;obtain⟨kk,lC,X,hX,Y,F,Z,hZ,rfl⟩:=g;obtain⟨w',q,j⟩:=adG (P:=P) h C lC (jH h B hX) (jH h B F) (jH h B hZ) A;exact⟨_,w',by simp only[cc,p];exact Mt q,j⟩
  .cases g
 | insert t m k x=>
  simp only[p,aB,ag]at g;obtain⟨S,C,g⟩:=g;split at g
  .simp only[ag,aL,ax]at g;obtain⟨kk,lC,X,hX,Y,F,Z,hZ,rfl⟩:=g;obtain⟨w',q,j⟩:=adG (P:=P) h C lC (jH h B hX) (jH h B F) (jH h B hZ) A;exact⟨_,w',by simp only[cc,p];exact Mt q,j⟩
  .cases g
 | makeSlice t l m=>
  simp only[p,aB,ag]at g;obtain⟨S,C,g⟩:=g;split at g
  .simp only[ag]at g;obtain⟨z,O,i,hi,g⟩:=g;split at g
   .rename_i T;simp only[ag,aL,ax]at g;obtain⟨X,hX,Y,F,rfl⟩:=g;obtain⟨v,w',q,j⟩:=arE (P:=P) h jj C hi O T.1 T.2 (jH h B hX) (jH h B F) A;exact⟨_,w',by simp only[cc,p];exact kL q,j⟩
   .cases g
  .cases g
 | slice t x lo hi mx=>
  cases mx with
  | some r=>
   cases hi with
   | none=>simp[p]at g
   | some hi=>
    simp only[p,aB,ag]at g;obtain⟨X,hX,L,hL,M,hM,N,hN,S,C,g⟩:=g;split at g
    .simp only[ag,aL,ax]at g;obtain⟨n,E,rfl⟩:=g;obtain⟨v,q,j⟩:=arJ (P:=P) h B C E hL hM hN (jH h B hX) A;exact⟨v,w,by simp only[cc,p];exact kL q,j⟩
    .cases g
  | none=>
   simp only[p,aB,ag]at g;obtain⟨X,hX,L,hL,M,hM,g⟩:=g;have I:=jH h B hX;split at g
   .rename_i e C;simp only[ag,aL,ax]at g;obtain⟨n,E,rfl⟩:=g;obtain⟨v,q,j⟩:=arL (P:=P) h B C E hL hM I A;exact⟨v,w,by simp only[cc,p];exact kL q,j⟩
   .rename_i C;cases g
    have hs:∃s,ev env X = .val (.string s):=by
     simp only[IV]at A;unfold HR at A;split at A
     .rename_i s e;exact⟨s,e⟩
     .exact A.elim
    obtain⟨s,hs⟩:=hs;simp only[IV]at A;rw[hs]at A I
    have a9:a.eval x = .string s:=by generalize a.eval x=u at I;cases I;rfl
    obtain⟨v,q,j⟩:=arM (P:=P) h B C hL hM A;exact⟨v,w,by simp only[cc,p,a9];exact kL q,j⟩
   .rename_i m e C;simp only[ag,aL,ax]at g;obtain⟨n,E,rfl⟩:=g;obtain⟨v,q,j⟩:=arK (P:=P) h B C E hL hM I A;exact⟨v,w,by simp only[cc,p];exact kL q,j⟩
   .cases g
 | fieldAddr t x f=>
  simp only[p,aB,ag]at g;obtain⟨X,hX,S,C,g⟩:=g;split at g
  .simp only[ag]at g;obtain⟨fd,hf,n,E,g⟩:=g;split at g
   .rename_i lD;cases g;obtain⟨v,q,j⟩:=art (P:=P) h C hf E lD (jH h B hX) A;exact⟨v,w,by simp only[cc,p];exact kL q,j⟩
   .cases g
  .cases g
 | field t x f=>
  simp only[p,aB,ag]at g;obtain⟨X,hX,S,C,g⟩:=g;split at g
  .simp only[ag,aL,ax]at g;obtain⟨fd,hf,n,E,b,J,rfl⟩:=g;obtain⟨v,q,j⟩:=arq (P:=P) h C hf J E (jH h B hX) A;exact⟨v,w,by simp only[cc,p];exact kL q,j⟩
  .cases g
 | indexAddr t x i=>
  simp only[p,aB,ag]at g;obtain⟨X,hX,Y,F,g⟩:=g;split at g
  .rename_i e C;simp only[ag]at g;obtain⟨n,E,g⟩:=g;split at g
   .rename_i lD;cases g;obtain⟨v,q,j⟩:=arv (P:=P) h C E lD (jH h B hX) (jH h B F) A;exact⟨v,w,by simp only[cc,p];exact kL q,j⟩
   .cases g
  .rename_i m e C;simp only[ag,aL,ax]at g;obtain⟨n,E,rfl⟩:=g;obtain⟨v,q,j⟩:=arw (P:=P) h C E (jH h B hX) (jH h B F) A;exact⟨v,w,by simp only[cc,p];exact kL q,j⟩
  .cases g
 | index t x i=>
  simp only[p,aB,ag]at g;obtain⟨X,hX,Y,F,g⟩:=g;split at g
  .rename_i m e C;simp only[ag,aL,ax]at g;obtain⟨n,E,b,J,rfl⟩:=g;obtain⟨v,q,j⟩:=aru (P:=P) h C E J (jH h B hX) (jH h B F) A;exact⟨v,w,by simp only[cc,p];exact kL q,j⟩
  .rename_i C;cases g;obtain⟨v,q,j⟩:=arx (P:=P) h C (jH h B hX) (jH h B F) A;exact⟨v,w,by simp only[cc,p];exact kL q,j⟩
  .cases g
 | extract x i=>
  simp only[p,aB,ag,aL,ax]at g;obtain⟨X,hX,rfl⟩:=g;obtain⟨v,q,j⟩:=arp (P:=P) h (jH h B hX) A;exact⟨v,w,by simp only[cc,p];exact kL q,j⟩
 | call cl=>
  simp only[p,aB,ag]at g;obtain⟨args,vV,g⟩:=g;have D:=C9 h B cl.args.toList vV;split at g
  .split at g
   .cases g;split at A<;>exact(show False from A).elim
   .cases g
  .simp only[ag,aL,ax]at g;obtain⟨X,hX,rfl⟩:=g;exact(show False from A).elim
  .rename_i R;split at g
   .rename_i t u x y mE;have V:cl.argTypes = #[t,u]:=by rw[<-cz (xs:=cl.argTypes),mE]
    obtain⟨vs,W,D⟩:=W5 D;simp only[lb,mR]at D
    cases D with|cons I D=>cases D with|cons Q D=>cases D with|nil=>
    simp only[ag]at g;obtain⟨S,C,g⟩:=g;split at g
    .simp only[ag]at g;obtain⟨i,hi,z,O,ud,Rq,g⟩:=g;split at g
     .split at g
      .rename_i T;cases g;obtain⟨v,w',q,j⟩:=aq9 (P:=P) (ty:=o.type) h jj C ⟨_,Rq⟩ hi O T.1 T.2 I Q A;exact⟨v,w',by rw[zz p R,W,V];exact kL q,j⟩
      .cases g
     .cases g
    .cases g
   .cases g
  .rename_i R;split at g
   .rename_i t u x y mE;have V:cl.argTypes = #[t,u]:=by rw[<-cz (xs:=cl.argTypes),mE]
    obtain⟨vs,W,D⟩:=W5 D;simp only[lb,mR]at D
    cases D with|cons I D=>cases D with|cons Q D=>cases D with|nil=>
    simp only[ag]at g;obtain⟨S,C,g⟩:=g;split at g
    .simp only[ag]at g;obtain⟨ud,Rq,g⟩:=g;split at g
     .simp only[ag]at g;obtain⟨n,E,g⟩:=g;split at g
      .rename_i lD;cases g;obtain⟨v,w',q,j⟩:=arl (P:=P) (u:=u) (ty:=o.type) h C E lD I Q A;exact⟨v,w',by rw[zz p R,W,V];exact kL q,j⟩
      .cases g
     .cases g
    .cases g
   .cases g
  .rename_i R;split at g
   .rename_i t x mE;have V:cl.argTypes = #[t]:=by rw[<-cz (xs:=cl.argTypes),mE]
    obtain⟨vs,W,D⟩:=W5 D;simp only[lb,mR]at D
    cases D with|cons I D=>cases D with|nil=>
    split at g
    .rename_i e C;cases g;obtain⟨v,q,j⟩:=WO (P:=P) (ty:=o.type) (k:=.slice) h C ⟨e,rfl⟩ I A;exact⟨v,w,by rw[zz p R,W,V];exact kL q,j⟩
    .rename_i C;cases g;obtain⟨v,q,j⟩:=WO (P:=P) (ty:=o.type) (k:=.string) h C rfl I A;exact⟨v,w,by rw[zz p R,W,V];exact kL q,j⟩
    .rename_i k e C;cases g;obtain⟨v,q,j⟩:=WO (P:=P) (ty:=o.type) (k:=.map) h C ⟨k,e,rfl⟩ I A;exact⟨v,w,by rw[zz p R,W,V];exact kL q,j⟩
    .cases g
   .cases g
  .rename_i R;cases g;obtain⟨v,q,j⟩:=adH (P:=P) h B vV ep cl.argTypes o.type A;exact⟨v,w,by rw[zz p R];exact kL (by simpa using q),j⟩
  .rename_i R;cases g;obtain⟨v,q,j⟩:=adH (P:=P) h B vV eL cl.argTypes o.type A;exact⟨v,w,by rw[zz p R];exact kL (by simpa using q),j⟩
  .cases g
 | _=>simp[p]at g
end
def Rv:Int->Bool
 | .ofNat m=>mT m 9223372036854775807
 | .negSucc m=>mT m 9223372036854775807
def akU(n:Int):Rv n=ep↔p6 n:=by
 unfold p6
 cases n with
 | ofNat m=>
  have e:Rv (.ofNat m)=mT m 9223372036854775807:=rfl;rw[e,nB];have:(Int.ofNat m)=(m:Int):=rfl;omega
 | negSucc m=>
  have e:Rv (.negSucc m)=mT m 9223372036854775807:=rfl;rw[e,nB];have:Int.negSucc m = -((m:Int)+1):=Int.negSucc_eq m;omega
instance(n:Int):Decidable (p6 n):=decidable_of_iff (Rv n=ep) (akU n)
def RB(k:Nat):Int->Bool
 | .ofNat m=>mT m k
 | .negSucc _=>ep
def tb(n:Int)(k:Nat):Prop:=n<=(k:Int)
def alx(n:Int)(k:Nat):RB k n=ep↔tb n k:=by
 unfold tb
 cases n with
 | ofNat m=>
  have e:RB k (.ofNat m)=mT m k:=rfl;rw[e,nB];have:(Int.ofNat m)=(m:Int):=rfl;omega
 | negSucc m=>
  have e:RB k (.negSucc m)=true:=rfl;rw[e];have:Int.negSucc m = -((m:Int)+1):=Int.negSucc_eq m;simp only[true_iff];omega
instance(n:Int)(k:Nat):Decidable (tb n k):=decidable_of_iff (RB k n=ep) (alx n k)
inductive Dl where
 | no
 | cells (v o:Nat) (xs:List D)
 | obj (v:Nat) (ob:Ob)
 | new (ob:Ob)
 deriving Inhabited
def Dl.app(H:gQ)(al:Al):Dl->gQ
 | .no=>H
 | .cells v o xs=>match H[v]? with
  | some (.row t g cs)=>H.set v (.row t g (cs.take o++xs++cs.drop (o+xs.l)))
  | _=>H
 | .obj v ob=>H.set v ob
 | .new ob=>al.2 ob
abbrev R:=Option (D×Dl)
def ret(d:D):R:=aE (d,.no)
def kW(op:iK)(k:ek)(a b:Int):Option D:=
 match op with
 | .add=>if k = .i64 then(if p6 (a+b)then aE (.val (.int .i64 (a+b)))else dx)else aE (.val (.int k (k.wrap (a+b))))
 | .sub=>if k = .i64 then(if p6 (a-b)then aE (.val (.int .i64 (a-b)))else dx)else aE (.val (.int k (k.wrap (a-b))))
 | .mul=>if k = .i64 then(if p6 (a*b)then aE (.val (.int .i64 (a*b)))else dx)else aE (.val (.int k (k.wrap (a*b))))
 | .quo=>if b=0 then dx else aE (.val (.int k (k.wrap (a.tdiv b))))
 | .rem=>if b=0 then dx else aE (.val (.int k (a.tmod b)))
 | .and | .or | .xor | .andNot=>aE (.val (.int k (bits op k a b)))
 | .eql=>aE (.val (.bool (a == b)))
 | .neq=>aE (.val (.bool (a != b)))
 | .lss=>aE (.val (.bool (decide (a<b))))
 | .leq=>aE (.val (.bool (decide (a<=b))))
 | .gtr=>aE (.val (.bool (decide (a>b))))
 | .geq=>aE (.val (.bool (decide (a>=b))))
 | _=>dx
def Xn(op:iK)(k:ek)(a b:Int):Option D:=
 match op with
 | .shl=>if 0<=b then aE (.val (.int k (k.wrap (a*2 ^ (min b.n k.bits)))))else dx
 | .shr=>if 0<=b then aE (.val (.int k (a.fdiv (2 ^ (min b.n k.bits)))))else dx
 | _=>dx
def H6(op:iK)(a b:ByteArray):Option D:=
 match op with
 | .eql=>aE (.val (.bool (a.data.toList == b.data.toList)))
 | .neq=>aE (.val (.bool (!(a.data.toList == b.data.toList))))
 | .add=>if tb ((a.size+b.size:Nat):Int) 9223372036854775807 then aE (.val (.string (a++b)))else dx
 | _=>dx
def mh(op:iK)(x y:D):Option D:=
 match x,y with
 | .val (.int k a),.val (.int k' b)=>if sn op then Xn op k a b else if k=k' then kW op k a b else dx
 | .val (.string a),.val (.string b)=>H6 op a b
 | _,_=>dx
def Ia(op:UnOp)(x:D):Option D:=
 match op,x with
 | .not,.val (.bool b)=>aE (.val (.bool (!b)))
 | .neg,.val (.int .i64 n)=>if p6 (-n)then aE (.val (.int .i64 (-n)))else dx
 | .xor,.val (.int k n)=>aE (.val (.int k (bits .xor k (if k.signed then -1 else k.max) n)))
 | _,_=>dx
def Dk(c:Bool)(ls:List oe)(neg:Bool)(x y:D):Option D:=
 match c,x,y with
 | true,.agg a,.agg b=>match oi ls a b with
  | some r=>aE (.val (.bool (if neg then !r else r)))
  | none=>dx
 | false,x,y=>match oi ls [x] [y]with
  | some r=>aE (.val (.bool (if neg then !r else r)))
  | none=>dx
 | _,_,_=>dx
def EL(c a b:D):Option D:=
 match c with
 | .val (.bool x)=>aE (if x then a else b)
 | _=>dx
def zm(x:D)(H:gQ):Option D:=
 match x with
 | .ptr v g o=>match rowAt H v g with
  | some (_,cs)=>cs[o]?
  | none=>dx
 | .ie cs=>cs[0]?
 | _=>dx
def yg(n:Nat)(x:D)(H:gQ):Option D:=
 match x with
 | .ptr v g o=>match rowAt H v g with
  | some (_,cs)=>if o+n<=cs.l then aE (.agg ((cs.drop o).take n))else dx
  | none=>dx
 | .ie cs=>if n<=cs.l then aE (.agg (cs.take n))else dx
 | _=>dx
def E8(a x:D)(H:gQ):R:=
 match a with
 | .ptr v g o=>match rowAt H v g with
  | some (_,cs)=>if o<cs.l/\one x=ep then aE (.any,.cells v o [x])else dx
  | none=>dx
 | _=>dx
def Fa(n:Nat)(a x:D)(H:gQ):R:=
 match a,cellsOf x with
 | .ptr v g o,aE xs=>match rowAt H v g with
  | some (_,cs)=>if xs.l=n/\o+n<=cs.l then aE (.any,.cells v o xs)else dx
  | none=>dx
 | _,_=>dx
def sU(t:ej)(x:D)(n:Nat):R:=
 match cellsOf x with
 | some cs=>aE (.ptr n 0 0,.new (.row t 0 cs))
 | none=>dx
def FR(env:iM)(z:List D)(ps:List (Nat×Nat×X)):Option D:=
 match partsOf env ps with
 | some l=>match lay l z with
  | some cs=>aE (.agg cs)
  | none=>dx
 | none=>dx
def Bl(env:iM)(t sz:Nat)(z:List D)(m:Nat)(ps:List (Nat×X))(n:Nat):R:=
 match partsOf env (ps.map λp=>(p.1*sz,sz,p.2))with
 | some l=>match lay l (kD m z).flatten with
  | some cs=>aE (.gR n 0 sz 0 m,.new (.row t 0 cs))
  | none=>dx
 | none=>dx
def JB(off:Nat)(x:D):Option D:=
 match x with
 | .ptr v g o=>aE (.ptr v g (o+off))
 | .ie cs=>aE (.ie (cs.drop off))
 | _=>dx
def Dt(off n:Nat)(a:Bool)(x:D):Option D:=
 match x with
 | .agg cs=>if a then(if off+n<=cs.l then aE (.agg ((cs.drop off).take n))else dx)else cs[off]?
 | _=>dx
def ot(sz:Nat)(x i:D):Option D:=
 match x,i with
 | .sl iR es,.val (.int _ n)=>if iR=sz/\0<=n/\n<es.l then aE (.ie (es.getD n.n []))else dx
 | .nj vs,.val (.int _ n)=>if 1=sz/\0<=n/\n<vs.l then aE (.ie [.val (vs.getD n.n undef)])else dx
 | .gR v g iR off len,.val (.int _ n)=>if iR=sz/\0<=n/\n<len then aE (.ptr v g ((off+n.n)*sz))else dx
 | _,_=>dx
def KW(sz n:Nat)(x i:D):Option D:=
 match x,i with
 | .ptr v g o,.val (.int _ k)=>if 0<=k/\k<n then aE (.ptr v g (o+k.n*sz))else dx
 | .ie cs,.val (.int _ k)=>if 0<=k/\k<n then aE (.ie (cs.drop (k.n*sz)))else dx
 | _,_=>dx
def Rw(sz n:Nat)(a:Bool)(x i:D):Option D:=
 match x,i with
 | .agg cs,.val (.int _ k)=>if 0<=k/\k<n then Dt (k.n*sz) sz a (.agg cs)else dx
 | _,_=>dx
def VU(x i:D):Option D:=
 match x,i with
 | .val (.string s),.val (.int _ k)=>if 0<=k/\k<s.size then aE (.val (.int .u8 ((s.data.toList.getD k.n 0).n)))else dx
 | _,_=>dx
def Es(a:KK)(z:D)(ok:Bool)(m k:D)(H:gQ):Option D:=
 match m,keyOf k with
 | .im v,aE kv=>match mU H v with
  | some (kk,es)=>if kk=a/\kk.has kv=ep then(match oN es kv with
    | some d=>aE (if ok then .tup [d,.val (.bool ep)]else d)
    | none=>aE (if ok then .tup [z,.val (.bool eL)]else z))else dx
  | none=>dx
 | _,_=>dx
def Co(a:KK)(m k x:D)(H:gQ):R:=
 match m,keyOf k with
 | .im v,aE kv=>match mU H v with
  | some (kk,es)=>if kk=a/\kk.has kv=ep then aE (.any,.obj v (.map kk (lF es kv x)))else dx
  | none=>dx
 | _,_=>dx
def Qg(x:D)(i:Nat):Option D:=
 match x with
 | .tup ds=>ds[i]?
 | _=>dx
def Hl(t sz bytes:Nat)(z:List D)(l c:D)(v:Nat):R:=
 match l,c with
 | .val (.int _ n),.val (.int _ m)=>if 0<=n/\n<=m/\tb m 9223372036854775807/\tb ((bytes:Int)*m) 281474976710656 then aE (.gR v 0 sz 0 n.n,.new (.row t 0 (kD m.n z).flatten))else dx
 | _,_=>dx
def vH(env:iM)(sz:Nat)(x:D)(lo hi:Option X):Option D:=
 match x with
 | .sl a es=>match jd env lo 0,jd env hi es.l with
  | some l,aE h=>if a=sz/\0<=l/\l<=h/\h<=es.l then aE (.sl sz ((es.drop l.n).take (h.n-l.n)))else dx
  | _,_=>dx
 | .gR v g a off len=>match jd env lo 0,jd env hi len with
  | some l,aE h=>if a=sz/\0<=l/\l<=h/\h<=len then aE (.gR v g sz (off+l.n) (h.n-l.n))else dx
  | _,_=>dx
 | .gV=>match jd env lo 0,jd env hi 0 with
  | some l,aE h=>if l=0/\h=0 then aE .gV else dx
  | _,_=>dx
 | _=>dx
def AW(env:iM)(sz:Nat)(x:D)(lo:Option X)(hi mx:X):Option D:=
 match jd env lo 0,jd env (aE hi) 0,jd env (aE mx) 0 with
 | some l,aE h,aE m=>match x with
  | .sl a es=>if a=sz/\0<=l/\l<=h/\h=m/\m<=es.l then aE (clip sz ((es.drop l.n).take (h.n-l.n)))else dx
  | .gR v g a off len=>if a=sz/\0<=l/\l<=h/\h<=m/\m<=len then aE (.gR v g sz (off+l.n) (h.n-l.n))else dx
  | .gV=>if l=0/\h=0/\m=0 then aE .gV else dx
  | _=>dx
 | _,_,_=>dx
def CH(env:iM)(sz n:Nat)(x:D)(lo hi:Option X)(H:gQ):Option D:=
 match x,jd env lo 0,jd env hi n with
 | .ie cs,aE l,aE h=>if sz=1/\n<=cs.l/\n<=16777216/\0<=l/\l<=h/\h<=n then aE (.sl 1 (((cs.drop l.n).take (h.n-l.n)).map λd=>[d]))else dx
 | .ptr v g o,aE l,aE h=>match rowAt H v g with
  | some (_,cs)=>if o % sz=0/\o+n*sz<=cs.l/\n<=16777216/\0<=l/\l<=h/\h<=n then aE (.gR v g sz (o / sz+l.n) (h.n-l.n))else dx
  | none=>dx
 | _,_,_=>dx
def SA(env:iM)(x:D)(lo hi:Option X):Option D:=
 match x with
 | .val (.string s)=>match jd env lo 0,jd env hi s.size with
  | some l,aE h=>if 0<=l/\l<=h/\h<=s.size then aE (.val (.string (s.extract l.n h.n)))else dx
  | _,_=>dx
 | _=>dx
def tC(t sz bytes:Nat)(x y:D)(H:gQ)(a:Nat):R:=
 match lX sz H y with
 | some (ys,n)=>match x with
  | .gR v g b off len=>match rowAt H v g with
   | some (t',cs)=>if b=sz/\t'=t/\(off+len)*sz<=cs.l/\(len+n)*bytes<=140737488355328/\len+n<=9223372036854775807 then
     aE (.gR v (g+1) sz 0 (len+n),.obj v (.row t (g+1) ((cs.drop (off*sz)).take (len*sz)++ys)))else dx
   | none=>dx
  | .nj vs=>if n≠0/\sz=1/\(vs.l+n)*bytes<=140737488355328/\vs.l+n<=9223372036854775807 then aE (.gR a 0 sz 0 (vs.l+n),.new (.row t 0 (vs.map .val++ys)))else dx
  | .gV=>if n=0 then aE (.gV,.no)else if n*bytes<=140737488355328/\n<=9223372036854775807 then aE (.gR a 0 sz 0 n,.new (.row t 0 ys))else dx
  | _=>dx
 | none=>dx
def Bs(sz:Nat)(x y:D)(H:gQ):R:=
 match x,lX sz H y with
 | .gR v g iR off len,aE (ys,n)=>match rowAt H v g with
  | some (t,cs)=>if iR=sz/\(off+len)*sz<=cs.l then
    aE (.val (.int .i64 (min n len:Nat)),.obj v (.row t g (cs.take (off*sz)++ys.take (min n len*sz)++cs.drop (off*sz+min n len*sz))))else dx
  | none=>dx
 | .gV,aE _=>aE (.val (.int .i64 0),.no)
 | _,_=>dx
def od(k:CZ)(x:D)(H:gQ):Option D:=
 match k,x with
 | .slice,.sl _ es=>aE (.val (.int .i64 es.l))
 | .slice,.gV=>aE (.val (.int .i64 0))
 | .slice,.nj vs=>aE (.val (.int .i64 vs.l))
 | .slice,.gR _ _ _ _ len=>aE (.val (.int .i64 len))
 | .string,.val (.string s)=>aE (.val (.int .i64 s.size))
 | .map,.im v=>match mU H v with
  | some (_,es)=>aE (.val (.int .i64 es.l))
  | none=>dx
 | _,_=>dx
def Hj(env:iM)(d:Bool)(xs:List X):Option D:=
 match tQ env xs with
 | some [a,b]=>aE (.val (.int .i64 (if d then max a b else min a b)))
 | some [a,b,c]=>aE (.val (.int .i64 (if d then max (max a b) c else min (min a b) c)))
 | _=>dx
def EF(x:D):Option D:=
 match x with
 | .ptr v g o=>aE (.ptr v g o)
 | .ie cs=>aE (.ie cs)
 | .fn (.func f) a b=>aE (.fn (.func f) a b)
 | .jF v=>aE (.jF v)
 | _=>dx
def PX(k:ek)(x:D):Option D:=
 match x with
 | .val (.int _ n)=>aE (.val (.int k (k.wrap n)))
 | _=>dx
def FO(x:D)(H:gQ):Option D:=
 match lX 1 H x with
 | some (ys,_)=>match bytesOf ys with
  | some a=>aE (.val (.string (a.foldl (λr n=>r.push (UInt8.ofNat n.n)) ByteArray.empty)))
  | none=>dx
 | none=>dx
def lift:Option D->R
 | some d=>aE (d,.no)
 | none=>dx
def iL(env:iM)(H:gQ)(n:Nat):jG->R
 | .mv x=>lift (aE (ev env x))
 | .pick c a b=>lift (EL (ev env c) (ev env a) (ev env b))
 | .box t x=>sU t (ev env x) n
 | .alloc t z=>aE (.ptr n 0 0,.new (.row t 0 z))
 | .build z ps=>lift (FR env z ps)
 | .buildSl t sz z m ps=>Bl env t sz z m ps n
 | .ld1 x=>lift (zm (ev env x) H)
 | .ldN m x=>lift (yg m (ev env x) H)
 | .st1 a x=>E8 (ev env a) (ev env x) H
 | .stN m a x=>Fa m (ev env a) (ev env x) H
 | .nilck x=>lift (EF (ev env x))
 | .arith op x y=>lift (mh op (ev env x) (ev env y))
 | .eqS e ls neg x y=>lift (Dk e ls neg (ev env x) (ev env y))
 | .un op x=>lift (Ia op (ev env x))
 | .conv k x=>lift (PX k (ev env x))
 | .b2s x=>lift (FO (ev env x) H)
 | .mkfn f first cap=>lift (aE (.fn f (first.map (ev env)) (cap.map (ev env))))
 | .mkmap kk=>aE (.im n,.new (.map kk []))
 | .mksl t sz bytes z l c=>Hl t sz bytes z (ev env l) (ev env c) n
 | .slc sz x lo hi=>lift (vH env sz (ev env x) lo hi)
 | .slcS x lo hi=>lift (SA env (ev env x) lo hi)
 | .slc3 sz x lo hi mx=>lift (AW env sz (ev env x) lo hi mx)
 | .slcArr sz n x lo hi=>lift (CH env sz n (ev env x) lo hi H)
 | .fieldA off x=>lift (JB off (ev env x))
 | .field off m e x=>lift (Dt off m e (ev env x))
 | .idxA sz x i=>lift (ot sz (ev env x) (ev env i))
 | .idxArr sz m x i=>lift (KW sz m (ev env x) (ev env i))
 | .idx sz m e x i=>lift (Rw sz m e (ev env x) (ev env i))
 | .idxStr x i=>lift (VU (ev env x) (ev env i))
 | .lookup kk z ok m k=>lift (Es kk z ok (ev env m) (ev env k) H)
 | .mapUpd kk m k x=>Co kk (ev env m) (ev env k) (ev env x) H
 | .ext x i=>lift (Qg (ev env x) i)
 | .call _ _ | .callN _ _ | .callv _ _=>dx
 | .app t sz bytes x y=>tC t sz bytes (ev env x) (ev env y) H n
 | .copy sz x y=>Bs sz (ev env x) (ev env y) H
 | .len k x=>lift (od k (ev env x) H)
 | .minmax d xs=>lift (Hj env d xs)
 | .nilS .. | .capE .. | .appZ .. | .clr .. | .rangeS .. | .nextS .. | .rangeM .. | .nextM .. | .entry .. | .mapEnt .. | .entSt .. => dx
section
variable{env:iM}{H:gQ}{al:Al}{d:D}{δ:Dl}{K:kH}
theorem arZ{a b c:D}(h:EL a b c=aE d)(e:K d H):Ls a b c H K:=by unfold EL at h;unfold Ls;(repeat' split at h)<;>simp_all
theorem als{x:D}(h:zm x H=aE d)(a:K d H):K5 x H K:=by unfold zm at h;unfold K5;(repeat' split at h)<;>simp_all
theorem alu{n:Nat}{x:D}(h:yg n x H=aE d)(a:K d H):K6 n x H K:=by unfold yg at h;unfold K6;(repeat' split at h)<;>simp_all
theorem agj{z:List D}{ps:List (Nat×Nat×X)}(h:FR env z ps=aE d)(a:K d H):C6 env z ps H K:=by unfold FR at h;unfold C6;(repeat' split at h)<;>simp_all
theorem amq{x:D}(h:EF x=aE d)(a:K d H):Ll x H K:=by unfold EF at h;unfold Ll;(repeat' split at h)<;>simp_all
theorem atZ{op:UnOp}{x:D}(h:Ia op x=aE d)(a:K d H):Mk op x H K:=by unfold Ia at h;unfold Mk;(repeat' split at h)<;>simp_all
theorem ahE{b:Bool}{ls:List oe}{neg:Bool}{x y:D}(h:Dk b ls neg x y=aE d)(a:K d H):yV b ls neg x y H K:=by unfold Dk at h;unfold yV;(repeat' split at h)<;>simp_all
theorem ag5{k:ek}{x:D}(h:PX k x=aE d)(a:K d H):Jm k x H K:=by unfold PX at h;unfold Jm;(repeat' split at h)<;>simp_all
theorem af4{x:D}(h:FO x H=aE d)(a:K d H):I1 x H K:=by unfold FO at h;unfold I1;(repeat' split at h)<;>simp_all
theorem atl{sz:Nat}{x:D}{lo hi:Option X}(h:vH env sz x lo hi=aE d)(a:K d H):L6 env sz x lo hi H K:=by unfold vH at h;unfold L6;(repeat' split at h)<;>simp_all
theorem ath{sz:Nat}{x:D}{lo:Option X}{hi mx:X}(h:AW env sz x lo hi mx=aE d)(a:K d H):L4 env sz x lo hi mx H K:=by unfold AW at h;unfold L4;(repeat' split at h)<;>simp_all<;>omega
theorem atj{sz n:Nat}{x:D}{lo hi:Option X}(h:CH env sz n x lo hi H=aE d)(a:K d H):L5 env sz n x lo hi H K:=by unfold CH at h;unfold L5;(repeat' split at h)<;>simp_all
theorem atk{x:D}{lo hi:Option X}(h:SA env x lo hi=aE d)(a:K d H):HR env x lo hi H K:=by unfold SA at h;unfold HR;(repeat' split at h)<;>simp_all
theorem ajh{off:Nat}{x:D}(h:JB off x=aE d)(a:K d H):JA off x H K:=by unfold JB at h;unfold JA;(repeat' split at h)<;>simp_all
theorem aaY{off n:Nat}{b:Bool}{x:D}(h:Dt off n b x=aE d)(a:K d H):Ds off n b x H K:=by unfold Dt at h;unfold Ds;(repeat' split at h)<;>simp_all
theorem akV{sz:Nat}{x i:D}(h:ot sz x i=aE d)(a:K d H):KU sz x i H K:=by unfold ot at h;unfold KU;(repeat' split at h)<;>simp_all
theorem akX{sz n:Nat}{x i:D}(h:KW sz n x i=aE d)(a:K d H):KV sz n x i H K:=by unfold KW at h;unfold KV;(repeat' split at h)<;>simp_all
theorem akY{x i:D}(h:VU x i=aE d)(a:K d H):KY x i H K:=by unfold VU at h;unfold KY;(repeat' split at h)<;>simp_all
theorem alQ{kk:KK}{z:D}{ok:Bool}{m k:D}(h:Es kk z ok m k H=aE d)(b:K d H):La kk z ok m k H K:=by
 unfold Es at h;unfold La;split at h
 .split at h
  .split at h
   .rename_i c;obtain⟨rfl,c⟩:=c;simp only[*,true_and];split at h
    .rename_i a;cases h;simp only[a];exact b
    .rename_i a;cases h;simp only[a];exact b
   .cases h
  .cases h
 .cases h
theorem ahP{x:D}{i:Nat}(h:Qg x i=aE d)(a:K d H):Jw x i H K:=by unfold Qg at h;unfold Jw;(repeat' split at h)<;>simp_all
theorem alC{k:CZ}{x:D}(h:od k x H=aE d)(a:K d H):K8 k x H K:=by unfold od at h;unfold K8;(repeat' split at h)<;>simp_all
theorem ame{b:Bool}{xs:List X}(h:Hj env b xs=aE d)(a:K d H):Lh env b xs H K:=by unfold Hj at h;unfold Lh;(repeat' split at h)<;>simp_all
theorem afX{op:iK}{k:ek}{a b:Int}(h:kW op k a b=aE d)(c:K d H):IX op k a b H K:=by unfold kW at h;unfold IX;(repeat' split at h)<;>simp_all
theorem atd{op:iK}{k:ek}{a b:Int}(h:Xn op k a b=aE d)(c:K d H):L3 op k a b H K:=by unfold Xn at h;unfold L3;(repeat' split at h)<;>simp_all
theorem atN{op:iK}{a b:ByteArray}(h:H6 op a b=aE d)(c:K d H):SG op a b H K:=by unfold H6 at h;unfold SG;(repeat' split at h)<;>simp_all [tb]
theorem age{t:ej}{x:D}(h:sU t x al.1=aE (d,δ))(a:K d (δ.app H al)):I6 t x al K:=by unfold sU at h;unfold I6;(repeat' split at h)<;>cases h<;>simp_all [Dl.app]
theorem agi{t sz:Nat}{z:List D}{m:Nat}{ps:List (Nat×X)}(h:Bl env t sz z m ps al.1=aE (d,δ))(a:K d (δ.app H al)):I7 env t sz z m ps al K:=by unfold Bl at h;unfold I7;(repeat' split at h)<;>cases h<;>simp_all [Dl.app]
theorem LR{v g:Nat}{x:ej×List D}(h:rowAt H v g=aE x):H[v]? = aE (.row x.1 g x.2):=by
 unfold rowAt at h;split at h
 .split at h
  .rename_i e;subst e;cases h;assumption
  .cases h
 .cases h
theorem atE{a x:D}(h:E8 a x H=aE (d,δ))(f:K d (δ.app H al)):Ma a x H K:=by
 unfold E8 at h;unfold Ma;split at h
 .split at h
  .rename_i v g o _ t cs c;split at h
   .rename_i b;cases h;simp only[c];refine⟨b.1,b.2,?_⟩;simp only[Dl.app,LR c]at f
    have e:cs.set o x=cs.take o ++ [x]++cs.drop (o + [x].l):=by rw[bX,if_pos b.1];simp
    rw[e];exact f
   .cases h
  .cases h
 .cases h
theorem atG{n:Nat}{a x:D}(h:Fa n a x H=aE (d,δ))(b:K d (δ.app H al)):Mb n a x H K:=by
 unfold Fa at h;unfold Mb;split at h
 .split at h
  .rename_i v g o xs _ _ t cs c;split at h
   .rename_i e;cases h;simp only[*];refine⟨trivial,trivial,?_⟩;simp only[Dl.app,LR c]at b;rw[e.1]at b;exact b
   .cases h
  .cases h
 .cases h
theorem amh{t sz bytes:Nat}{z:List D}{l c:D}(h:Hl t sz bytes z l c al.1=aE (d,δ))(a:K d (δ.app H al)):Li t sz bytes z l c al K:=by unfold Hl at h;unfold Li;(repeat' split at h)<;>cases h<;>simp_all [Dl.app,tb]
theorem ama{kk:KK}{m k x:D}(h:Co kk m k x H=aE (d,δ))(b:K d (δ.app H al)):Ld kk m k x H K:=by
 unfold Co at h;unfold Ld;split at h
 .split at h
  .split at h
   .rename_i a;obtain⟨rfl,a⟩:=a;cases h;simp only[*,true_and];exact b
   .cases h
  .cases h
 .cases h
theorem afU{t sz bytes:Nat}{x y:D}(h:tC t sz bytes x y H al.1=aE (d,δ))(a:K d (δ.app H al)):IW t sz bytes x y H al K:=by unfold tC at h;unfold IW;(repeat' split at h)<;>cases h<;>simp_all [Dl.app]
theorem ag7{sz:Nat}{x y:D}(h:Bs sz x y H=aE (d,δ))(a:K d (δ.app H al)):Jp sz x y H K:=by unfold Bs at h;unfold Jp;(repeat' split at h)<;>cases h<;>simp_all [Dl.app]
theorem af8{op:iK}{x y:D}(h:mh op x y=aE d)(a:K d H):I3 op x y H K:=by
 unfold mh at h;unfold I3;split at h
 .split at h
  .rename_i hs;simp only[hs,if_true];exact atd h a
  .rename_i hs;simp only[hs];split at h
   .rename_i e;exact⟨e,afX h a⟩
   .cases h
 .exact atN h a
 .cases h
theorem akZ{sz n:Nat}{b:Bool}{x i:D}(h:Rw sz n b x i=aE d)(a:K d H):KX sz n b x i H K:=by
 unfold Rw at h;unfold KX;split at h
 .split at h
  .rename_i c;exact⟨c,aaY h a⟩
  .cases h
 .cases h
theorem nT{o:Option D}(h:lift o=aE (d,δ)):o=aE d/\δ = .no:=by cases o<;>simp[lift]at h;exact⟨by rw[h.1],h.2.symm⟩
theorem Ze{c:jG}(h:iL env H al.1 c=aE (d,δ))(b:K d (δ.app H al)):IV env H al K c:=by
 cases c<;>simp only[iL]at h<;>simp only[IV]
 case mv=>obtain⟨a,rfl⟩:=nT h;cases a;exact b
 case mkfn=>obtain⟨a,rfl⟩:=nT h;cases a;exact b
 case alloc=>cases h;exact b
 case mkmap=>cases h;exact b
 case call=>cases h
 case callN=>cases h
 case callv=>cases h
 case nilS=>cases h
 case capE=>cases h
 case appZ=>cases h
 case clr=>cases h
 case rangeS=>cases h
 case nextS=>cases h
 case rangeM=>cases h
 case nextM=>cases h
 case entry=>cases h
 case mapEnt=>cases h
 case entSt=>cases h
 case box=>exact age h b
 case buildSl=>exact agi h b
 case st1=>exact atE h b
 case stN=>exact atG h b
 case mksl=>exact amh h b
 case mapUpd=>exact ama h b
 case app=>exact afU h b
 case copy=>exact ag7 h b
 case pick=>obtain⟨a,rfl⟩:=nT h;exact arZ a b
 case build=>obtain⟨a,rfl⟩:=nT h;exact agj a b
 case ld1=>obtain⟨a,rfl⟩:=nT h;exact als a b
 case ldN=>obtain⟨a,rfl⟩:=nT h;exact alu a b
 case nilck=>obtain⟨a,rfl⟩:=nT h;exact amq a b
 case arith=>obtain⟨a,rfl⟩:=nT h;exact af8 a b
 case eqS=>obtain⟨a,rfl⟩:=nT h;exact ahE a b
 case un=>obtain⟨a,rfl⟩:=nT h;exact atZ a b
 case conv=>obtain⟨a,rfl⟩:=nT h;exact ag5 a b
 case b2s=>obtain⟨a,rfl⟩:=nT h;exact af4 a b
 case slc=>obtain⟨a,rfl⟩:=nT h;exact atl a b
 case slc3=>obtain⟨a,rfl⟩:=nT h;exact ath a b
 case slcArr=>obtain⟨a,rfl⟩:=nT h;exact atj a b
 case slcS=>obtain⟨a,rfl⟩:=nT h;exact atk a b
 case fieldA=>obtain⟨a,rfl⟩:=nT h;exact ajh a b
 case field=>obtain⟨a,rfl⟩:=nT h;exact aaY a b
 case idxA=>obtain⟨a,rfl⟩:=nT h;exact akV a b
 case idxArr=>obtain⟨a,rfl⟩:=nT h;exact akX a b
 case idx=>obtain⟨a,rfl⟩:=nT h;exact akZ a b
 case idxStr=>obtain⟨a,rfl⟩:=nT h;exact akY a b
 case lookup=>obtain⟨a,rfl⟩:=nT h;exact alQ a b
 case ext=>obtain⟨a,rfl⟩:=nT h;exact ahP a b
 case len=>obtain⟨a,rfl⟩:=nT h;exact alC a b
 case minmax=>obtain⟨a,rfl⟩:=nT h;exact ame a b
end
mutual
def flat:D->Bool
 | .any | .val _ | .gV=>ep
 | .agg cs | .tup cs=>w7 cs
 | .sl _ es=>es.isEmpty
 | _=>eL
def w7:List D->Bool
 | []=>ep
 | d::ds=>flat d&&w7 ds
end
def chunks(sz:Nat):Nat->List D->List (List D)
 | 0,_=>[]
 | n+1,cs=>cs.take sz::chunks sz n (cs.drop sz)
def ib(ρ:Nat->Option Nat)(H:gQ):Nat->D->D
 | 0,d=>if closed d then d else .any
 | k+1,d=>if closed d then d else match d with
  | .agg cs=>.agg (cs.map (ib ρ H k))
  | .tup cs=>.tup (cs.map (ib ρ H k))
  | .sl sz es=>.sl sz (es.map (·.map (ib ρ H k)))
  | .ie cs=>.ie (cs.map (ib ρ H k))
  | .fn f a b=>.fn f (a.map (ib ρ H k)) (b.map (ib ρ H k))
  | .gR v g sz off len=>match ρ v with
   | some v'=>.gR v' g sz off len
   | none=>match rowAt H v g with
    | some (_,cs)=>if (off+len)*sz<=cs.l then .sl sz (chunks sz len ((cs.drop (off*sz)).map (ib ρ H k)))else .any
    | none=>.any
  | .ptr v g off=>match ρ v with
   | some v'=>.ptr v' g off
   | none=>match rowAt H v g with
    | some (_,cs)=>.ie ((cs.drop off).map (ib ρ H k))
    | none=>.any
  | .im v=>match ρ v with
   | some v'=>.im v'
   | none=>.any
  | .jF v=>match ρ v with
   | some v'=>.jF v'
   | none=>.any
  | d=>d
def lG(ρ:Nat->Option Nat)(H:gQ):Ob->Ob
 | .row t g cs=>.row t g (cs.map (ib ρ H 40))
 | .map kk es=>.map kk (es.map λx=>(x.1,ib ρ H 40 x.2))
 | .iV rf env st=>.iV rf (env.map λx=>(x.1,ib ρ H 40 x.2)) st
 | .uI s p=>.uI s p
 | .jO m since seen=>.jO (ib ρ H 40 m) since seen
 | .jJ=>.jJ
 | .dead=>.dead
 | .na=>.dead
abbrev nX:=List (Nat×Bool)
def iP(ks:nX)(v:Nat):Option Nat:=ks.findIdx? (λp=>p.2&&p.1 == v)
def pJ(ks:nX)(H:gQ):gQ:=ks.map λp=>if p.2 then(match H[p.1]? with|some o=>lG (iP ks) H o|none=>.dead)else .dead
def jQ(n:Nat):D->List Nat
 | .gR v _ _ _ _=>if n<=v then [v]else []
 | .ptr v _ _=>if n<=v then [v]else []
 | .im v=>if n<=v then [v]else []
 | .jF v=>if n<=v then [v]else []
 | _=>[]
def pg(n:Nat):Ob->List Nat
 | .row _ _ cs=>(cs.map (jQ n)).flatten
 | .map _ es=>(es.map λx=>jQ n x.2).flatten
 | _=>[]
def dedup:List Nat->List Nat
 | []=>[]
 | x::r=>if x∈r then dedup r else x::dedup r
def jx(n:Nat)(K:List Nat):nX:=((oc n).map λv=>(v,ep))++K.map λv=>(v,ep)
def forget(live:List Nat)(env:Env):Env:=live.map λk=>(k,env.get k)
structure St where
 env:Env
 H:gQ
 marks:List Nat:=[]
 iI:Bool:=eL
 deriving Inhabited
def vD(live:List Nat):Bool:=match live with
 | k::_=>Nat.beq k 9999
 | []=>eL
def cut(n:Nat)(live:List Nat)(s:St):St:=
 let env:=forget live s.env
 if s.H.l<=n\/vD live=ep then{ s with env:=env }else
 let K:=dedup (((env.map λp=>jQ n p.2).flatten++((s.H.take n).map (pg n)).flatten++s.marks.filter (n<=·)).filter (· < s.H.l))
 let ks:=jx n K
 { s with env:=env.map λp=>(p.1,ib (iP ks) s.H 40 p.2),H:=pJ ks s.H,marks:=s.marks.map λv=>(iP ks v).getD v }
def Hx(n:Nat):D->List Nat
 | .gR v _ _ 0 _=>if n<=v then [v]else []
 | .tup ds=>(ds.map λd=>match d with | .gR v _ _ 0 _=>if n<=v then [v]else []|_=>[]).flatten
 | _=>[]
inductive IR where
 | skip
 | ops (l:List jb)
 | np (kJ:List (Nat×Nat)) (l:List jb)
 | oH (kJ:List (Nat×Nat)) (l es:List jb)
 | seq (a b:IR)
 | cond (c:X) (a b:IR)
 | block (id:Nat) (live:List Nat) (a:IR)
 | loop (live:List Nat) (a:IR)
 | qb (rf:Nat) (live:List Nat) (x:X)
 | exit (id:Nat)
 | ret
 | bad
 | fz (S:List Nat) (a:IR)
 | xL (S:List Nat) (a b:List jb)
 deriving Inhabited
inductive xB where
 | tmp (t:Nat)
 | vO (t:Nat)
 | Tl (n t:Nat)
 deriving Inhabited
structure kn where
 ntmps:Nat
 body:IR
 results:List xB
 full:Bool:=eL
 own:Nat:=0
 fz:Bool:=eL
 deriving Inhabited
def HH(s:St):xB->Option D
 | .tmp t=>aE (s.env.get t)
 | .vO t=>zm (s.env.get t) s.H
 | .Tl n t=>yg n (s.env.get t) s.H
def xu(s:St):List xB->Option (List D)
 | []=>aE []
 | x::r=>match HH s x,xu s r with
  | some d,aE l=>aE (d::l)
  | _,_=>dx
def results(fn:kn)(s:St):Option D:=match xu s fn.results with
 | some [d]=>aE d
 | some ds=>aE (.tup ds)
 | none=>dx
def wH(args:List D):Env:=args.zipIdx.map λp=>(p.2,p.1)
def wP:List Nat->List D->Env->Env
 | k::ks,d::ds,env=>wP ks ds ((k,d)::env)
 | _,_,env=>env
def lZ(env:iM):jG->Option (jI×List D)
 | .call f args=>aE (f,args.map (ev env))
 | .callN f args=>aE (f,args.map (ev env))
 | .callv f args=>match ev env f with
  | .fn (.func k) first cap=>aE (k,first++args.map (ev env)++cap)
  | _=>dx
 | _=>dx
def KZ:jG->Bool
 | .call _ _ | .callN _ _ | .callv _ _=>ep
 | _=>eL
def guardOf(env:iM):Option (Nat×Bool)->Option Bool
 | none=>aE ep
 | some (s,want)=>match env s with
  | .val (.bool b)=>aE (b == want)
  | .val (.tuple _)=>aE eL
  | _=>dx
def AD(n:Nat):D->D
 | .gR v g sz off len=>.gR (v+n) g sz off len
 | d=>d
def lL(n:Nat):D->D
 | .gR v g sz off len=>.gR (v+n) g sz off len
 | .im v=>.im (v+n)
 | .tup ds=>.tup (ds.map (AD n))
 | .agg ds=>.agg (ds.map (AD n))
 | d=>d
def pP:Ob->Bool
 | .row _ _ cs=>iB cs
 | .map _ es=>es.all λx=>closed x.2
 | _=>eL
def r8:Ob->Bool
 | .row _ _ cs=>w7 cs
 | _=>eL
def AK(p:D->Bool):D->Bool
 | .gR .. => ep
 | d=>p d
def zu(p:D->Bool):D->Bool
 | .gR .. => ep
 | .im _=>ep
 | .tup ds=>ds.all (AK p)
 | .agg ds=>ds.all (AK p)
 | d=>p d
def oC:D->Bool:=zu closed
def rl:D->Bool:=zu flat
def rowsOf(H:gQ)(v:Nat):Option (ej×Nat×List D):=match H[v]? with
 | some (.row t g cs)=>aE (t,g,cs)
 | _=>dx
def jq(H:gQ):Nat->D->List Nat
 | 0,_=>[]
 | k+1,d=>if closed d then []else match d with
  | .agg cs | .tup cs | .ie cs=>(cs.map (jq H k)).flatten
  | .sl _ es=>(es.map λe=>(e.map (jq H k)).flatten).flatten
  | .fn _ a b=>(a.map (jq H k)).flatten++(b.map (jq H k)).flatten
  | .gR v _ _ _ _ | .ptr v _ _=>v::(match rowsOf H v with
   | some (_,_,cs)=>(cs.map (jq H k)).flatten
   | none=>[])
  | .im v | .jF v=>[v]
  | _=>[]
def leave(own:Nat)(n:Nat)(H:gQ)(d:D):D×gQ:=
 if H.l<=n\/own=4 then(d,H)else
 let K:=dedup (((match own with|0=>[]|1=>Hx n d|3=>((jq H 40 d).filter (n<=·)).take 1|_=>(jq H 40 d).filter (n<=·))++((H.take n).map (pg n)).flatten).filter (· < H.l))
 let ks:=jx n K
 (ib (iP ks) H 40 d,pJ ks H)
def nv(H:gQ)(S:List Nat):nX:=(oc H.l).map λv=>(v,!(S.contains v))
structure sR where
 params:List Nat
 a:IR
 b:IR
 deriving Inhabited
structure jt where
 fn:jI->Option kn
 round:Nat->Option sR:=λ_=>dx
 sort:jI->Option Nat:=λ_=>dx
 vI:jI->Bool:=λ_=>eL
 uV:jI->Bool:=λ_=>eL
def after(s:St)(dst:Option Nat)(args:List D)(r:D)(Hn:gQ):Option St:=
 if (if iB args then oC r&&Hn.all pP else rl r&&Hn.all r8)then
  aE { s with env:=put s.env dst (lL s.H.l r),H:=s.H++Hn }else dx
def mC(S:List Nat)(s:St):St:=
 let ks:=nv s.H S
 { s with env:=s.env.map λp=>(p.1,ib (iP ks) s.H 40 p.2),H:=pJ ks s.H }
def zW{ds:List D}(h:iB ds=ep){i:Nat}{d:D}(a:ds[i]? = aE d):closed d=true:=by
 induction ds generalizing i with
 | nil=>simp at a
 | cons x xs b=>
  simp only[iB,er]at h
  cases i with
  | zero=>simp at a;subst a;exact h.1
  | succ i=>exact b h.2 (by simpa using a)
def agK{es:List (List D)}(h:FY es=ep){i:Nat}{e:List D}(a:es[i]? = aE e):iB e=true:=by
 induction es generalizing i with
 | nil=>simp at a
 | cons x xs b=>
  simp only[FY,er]at h
  cases i with
  | zero=>simp at a;subst a;exact h.1
  | succ i=>exact b h.2 (by simpa using a)
theorem gX.closed{c c':Ctx}{w:ez}(A:∀b,c.F b->c'.F b){u:cp}{d:D}(h:gX c w u d)(l:closed d=ep):gX c' w u d:=by
 induction h with
 | any v=>exact .any _
 | val v=>exact .val _
 | agg vs ds hl h1 h n=>exact .agg vs _ hl h1 λi v d m k=>n i v d m k (zW l k)
 | tup vs ds hl h n=>exact .tup vs _ hl λi v d m k=>n i v d m k (zW l k)
 | sl a len cap sz es g r E y G x p I n=>
  refine .sl a len cap sz _ g r E y G x ?_ λi e j d s k=>n i e j d s k (zW (agK l s) k);intro i e j d s k;obtain⟨b,o,z,q,t,h1⟩:=p i e j d s k;exact⟨b,o,z,A b q,t,h1⟩
 | gV=>exact .gV
 | nj a vs y x p=>
  refine .nj a vs y x ?_;intro i v m;obtain⟨b,o,z,q,t,h1⟩:=p i v m;exact⟨b,o,z,A b q,t,h1⟩
 | gR=>cases l
 | nU=>cases l
 | ptr=>cases l
 | ie b o cs g q p I n=>exact .ie b o _ g (A b q) p λj d k=>n j d k (zW l k)
 | im=>cases l
 | fn f fs cs K L H F h1 J C B=>
  simp only[AL.closed,er]at l;exact .fn f fs cs _ _ H F (λi v d m k=>C i v d m k (zW l.1 k)) (λi v d m k=>B i v d m k (zW l.2 k))
 | jF=>cases l
def F7{ds:List D}(h:w7 ds=ep){i:Nat}{d:D}(a:ds[i]? = aE d):flat d=true:=by
 induction ds generalizing i with
 | nil=>simp at a
 | cons x xs b=>
  simp only[w7,er]at h
  cases i with
  | zero=>simp at a;subst a;exact h.1
  | succ i=>exact b h.2 (by simpa using a)
theorem gX.flat{c c':Ctx}{w:ez}{u:cp}{d:D}(h:gX c w u d)(b:flat d=ep):gX c' w u d:=by
 induction h with
 | any v=>exact .any _
 | val v=>exact .val _
 | agg vs ds hl h1 h j=>exact .agg vs _ hl h1 λi v d k f=>j i v d k f (F7 b f)
 | tup vs ds hl h j=>exact .tup vs _ hl λi v d k f=>j i v d k f (F7 b f)
 | sl a len cap sz es g e m n p l o q j=>
  simp only[AL.flat,eX]at b;subst b;exact .sl a len cap sz _ g e m n gP l gP gP
 | gV=>exact .gV
 | nj=>cases b
 | gR=>cases b
 | nU=>cases b
 | ptr=>cases b
 | ie=>cases b
 | im=>cases b
 | fn=>cases b
 | jF=>cases b
theorem Zx(sz:Nat):∀(n:Nat) (cs:List D),(chunks sz n cs).l=n
 | 0,_=>rfl
 | n+1,cs=>by simp[chunks,Zx sz n]
theorem Tp(sz:Nat):∀(n:Nat) (cs:List D) (i:Nat) (e:List D),(chunks sz n cs)[i]? = aE e->i<n/\e=(cs.drop (i*sz)).take sz
 | 0,_,i,e,h=>by simp[chunks]at h
 | n+1,cs,0,e,h=>by simp[chunks]at h;subst h;simp
 | n+1,cs,i+1,e,h=>by simp only[chunks,cH]at h;obtain⟨h1,a⟩:=Tp sz n _ i e h;refine⟨U,?_⟩;rw[a,cJ];congr 2;rw[bJ];omega
def atg{c:Ctx}{w:ez}{b o sz len cap:Nat}{vs:List cp}{ds:List D}(n:c.F b)(k:Cells c w vs ds)(hl:ds.l=len*sz)(l:len<=cap)(m:cap<=maxLen)
  (r:∀(j:Nat) (v:cp),vs[j]? = aE v->w.cell? ⟨b,o+j,dx⟩=aE v):gX c w (.slice (aE ⟨b,o,dx⟩) len cap) (.sl sz (chunks sz len ds)):=by
 have h:∀(i:Nat) (e:List D) (j:Nat) (d:D),(chunks sz len ds)[i]? = aE e->e[j]? = aE d->ds[i*sz+j]? = aE d/\j<sz:=by
  intro i e j d a f;obtain⟨_,rfl⟩:=Tp sz len ds i e a;rw[aJ]at f;split at f
  .grind
  .cases f
 refine .sl _ len cap sz _ (λi j=>vs.getD (i*sz+j) undef) (Zx _ _ _) l m ?_ gP ?_ ?_
 .intro e a;obtain⟨i,hi⟩:=aG.1 a;obtain⟨h1,rfl⟩:=Tp sz len ds i e hi;simp only[aM,aU,hl];have:(i+1)*sz<=len*sz:=bP _ h1;rw[bJ]at this;omega
 .intro i e j d a f;obtain⟨h1,_⟩:=h i e j d a f;obtain⟨v,g,q,_⟩:=k.get h1;refine⟨b,o,rfl,n,?_,?_⟩
  .grind
  .grind
 .intro i e j d a f;obtain⟨h1,_⟩:=h i e j d a f;obtain⟨v,g,_,p⟩:=k.get h1;simp only[List.getD,g,bh];exact p
theorem Cells.map{c c':Ctx}{w:ez}{f:D->D}(g:∀v d,gX c w v d->gX c' w v (f d)){vs:List cp}{cs:List D}(h:Cells c w vs cs):Cells c' w vs (cs.map f):=
 ⟨by simpa using h.len,h.one,λi v d e a=>by
  simp only[aw,ar]at a;obtain⟨d0,b,rfl⟩:=a
  exact g _ _ (h.rep i v d0 e b)⟩
def Ctx.ib(c:Ctx)(ks:nX)(H:gQ):Ctx where
 ι:=λi g=>match ks[i]? with
  | some p=>c.ι p.1 g
  | none=>dx
 F:=λb=>c.F b\/∃v L,nh c H v L/\iP ks v=dx/\L.kQ=eL/\L.b=b
 RT:=c.RT
def aef{ks:nX}{v i:Nat}(h:iP ks v=aE i):ks[i]? = aE (v,ep):=by unfold iP at h;rw[cG]at h;obtain⟨hi,a,_⟩:=h;simp only[er,beq_iff_eq]at a;rw[List.getElem?_eq_getElem hi];congr 1;exact cZ a.2 a.1
def aee{ks:nX}{v:Nat}(h:iP ks v=dx)(i:Nat):ks[i]?≠aE (v,ep):=by intro hi;unfold iP at h;rw[cM]at h;have:=h _ (List.mem_of_getElem? hi);simp at this
section
variable{G:GT}{c:Ctx}{H:gQ}{w:ez}{ks:nX}
theorem Ij{v i g:Nat}(h:iP ks v=aE i):(c.ib ks H).ι i g=c.ι v g:=by simp[Ctx.ib,aef h]
theorem FD{b:Nat}(h:c.F b):(c.ib ks H).F b:=Or.inl h
theorem YS{v:Nat}{L:Loc}(h1:nh c H v L)(b:iP ks v=dx)(a:L.kQ=eL):(c.ib ks H).F L.b:=Or.inr ⟨v,L,h1,b,a,rfl⟩
theorem Cx(h:iy G c H w):∀(k:Nat) {u:cp} {d:D},gX c w u d->gX (c.ib ks H) w u (ib (iP ks) H k d)
 | 0,u,d,q=>by
  unfold AL.ib;split
  .rename_i M;exact q.closed (λb N=>FD N) M
  .exact .any _
 | k+1,u,d,q=>by
  have A:=λ{u:cp} {d:D} (q:gX c w u d)=>Cx h k q;unfold AL.ib;split
  .rename_i M;exact q.closed (λb N=>FD N) M
  .cases q with
   | any v=>exact .any _
   | val v=>exact .val _
   | agg vs ds hl h1 z=>
     refine .agg vs _ (by simpa using hl) h1 λi v d l y=>?_;simp only[aw,ar]at y;obtain⟨d0,B,rfl⟩:=y;exact A (z i v d0 l B)
   | tup vs ds hl z=>
     refine .tup vs _ (by simpa using hl) λi v d l y=>?_;simp only[aw,ar]at y;obtain⟨d0,B,rfl⟩:=y;exact A (z i v d0 l B)
   | sl a len cap sz es g s E F js W Q q=>
    refine .sl a len cap sz _ g (by simpa using s) E F ?_ W ?_ ?_
    .grind
    .intro i e j d R y;simp only[aw,ar]at R;obtain⟨e0,K,rfl⟩:=R;simp only[aw,ar]at y;obtain⟨d0,B,rfl⟩:=y;obtain⟨b,o,ha,I,U,h1⟩:=Q i e0 j d0 K B;exact⟨b,o,ha,FD I,U,h1⟩
    .grind
   | gV=>exact .gV
   | nj a vs h1 z S=>rename_i hn;exact absurd rfl hn
   | gR v g sz off len cap L p l E F V=>
    dsimp only;split
    .rename_i v' r;exact .gR v' g sz off len cap L (by rw[Ij r];exact p) l E F V
    .rename_i P;split
     .rename_i t cs J;split
      .rename_i oZ;have C:=wO J;obtain⟨arr,h1,z,S,O⟩:=AS h C p l;have Y:=(((O.drop (off*sz)).map (λ_ _ q=>A q)).take (len*sz));have s:((cs.drop (off*sz)).map (AL.ib (iP ks) H k)).l=(cs.l-off*sz):=gP
       have T:chunks sz len ((cs.drop (off*sz)).map (AL.ib (iP ks) H k))=chunks sz len (((cs.drop (off*sz)).map (AL.ib (iP ks) H k)).take (len*sz)):=by
        have key:∀(n:Nat) (xs:List D),chunks sz n xs=chunks sz n (xs.take (n*sz)):=by
         intro n
         induction n with
         | zero=>intro xs;rfl
         | succ n A=>
          intro xs;simp only[chunks];rw[dH,Nat.min_eq_left (by rw[bJ];omega),A (xs.drop sz),List.drop_take,show(n+1)*sz-sz=n*sz by rw[bJ];omega]
        exact key _ _
       rw[T];refine atg (YS ⟨_,C,rfl,p⟩ P l) Y ?_ E F λj x m=>?_
       .grind
       .rw[aJ]at m;split at m
        .rw[aD,aJ]at m;split at m
         .rw[aD]at m;simp[World.cell?,h1];rw[bk];simpa using m
         .cases m
        .cases m
      .exact .any _
     .exact .any _
   | nU v g sz off L p a=>
    dsimp only;split
    .rename_i v' r;exact .nU v' g sz off L (by rw[Ij r];exact p) a
    .split
     .split
      .exact .sl a 0 0 sz _ (λ_ _=>undef) rfl (ns _) (by unfold maxLen;omega) (by simp[chunks]) (λ_=>rfl) (by simp[chunks]) (by simp[chunks])
      .exact .any _
     .exact .any _
   | ptr v g off L p l=>
    dsimp only;split
    .rename_i v' r;exact .ptr v' g off L (by rw[Ij r];exact p) l
    .rename_i P;split
     .rename_i t cs J;have C:=wO J;obtain⟨arr,h1,z,S,O⟩:=AS h C p l;refine T9 (YS ⟨_,C,rfl,p⟩ P l) ⟨_,(O.drop off).map (λ_ _ q=>A q),λj x m=>?_⟩;rw[aD,aJ]at m;split at m
      .rw[aD]at m;simp[World.cell?,h1];rw[bk];simpa using m
      .cases m
     .exact .any _
   | ie b o cs g I Q q=>
    refine .ie b o _ g (FD I) ?_ ?_
    .grind
    .grind
   | im v L p l=>
    dsimp only;split
    .rename_i v' r;exact .im v' L (by rw[Ij r];exact p) l
    .exact .any _
   | fn f fs cs df dc Z X h1 z=>
    refine .fn f fs cs _ _ (by simpa using Z) (by simpa using X) ?_ ?_
    .grind
    .grind
   | jF v L p l=>
    dsimp only;split
    .rename_i v' r;exact .jF v' L (by rw[Ij r];exact p) l
    .exact .any _
