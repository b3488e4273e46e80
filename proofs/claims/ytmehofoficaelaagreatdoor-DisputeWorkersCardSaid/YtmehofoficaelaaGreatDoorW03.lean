/- Part 3 of DisputeWorkers. -/
import Derived.Test.YtmehofoficaelaaGreatDoorW02
import Derived.ChangeKeysEq
set_option linter.all false
namespace Go.AL
open Go
section
variable{P:Program}{G:GT}{c:Ctx}{H:U}{w:World}{K:jE}{env:gP}{a:Act}
theorem Sq{x:D}{kv u:Value}(b:gh c w u x)(h:keyOf x=some kv):u=kv:=by
 unfold keyOf at h;split at h
 .cases h;cases b;rfl
 .cases h;cases b;rfl
 .cases h;cases b;rfl
 .rename_i cs;simp only[aj]at h;obtain⟨l,hl,rfl⟩:=h
  cases b with
  | agg vs _ a _ h1=>
   have key:∀(cs:List D) (vs l:List Value),HY cs=some l->vs.length=cs.length->(∀(i:Nat) (v:Value) (d:D),vs[i]? = some v->cs[i]? = some d->gh c w v d)->vs=l:=by
    intro cs
    induction cs with
    | nil=>intro vs l hl a _;simp[HY]at hl;subst hl;exact aU (by simpa using a)
    | cons d cs j=>
     intro vs l hl a h1
     cases vs with
     | nil=>simp at a
     | cons v vs=>
      unfold HY at hl;split at hl
      .grind
      .rename_i k n r e;cases e;simp only[aj]at hl;obtain⟨g,f,rfl⟩:=hl;have h0:=h1 0 v _ rfl rfl;cases h0;rw[j vs g f (by simpa using a) (λi v d m o=>h1 (i+1) v d (by simpa using m) (by simpa using o))]
      .cases hl
   rw[key cs vs l hl a h1]
 .cases h
def yZ:List Value->List Value->Bool
 | .int k a::x,.int k' b::y=>k == k'&&a == b&&yZ x y
 | [],[]=>true
 | _,_=>false
theorem abJ{t:TypeId}{k:IntKind}(h:P.underlying t=some (.int k)):pb P t=some false:=by simp[pb,h]
theorem Eu{k:IntKind}{ks:List IntKind}{vs:List Value}(h:th (k::ks) vs=true):∃n a,vs = .int k n::a/\th ks a=true:=by
 cases vs with
 | nil=>cases h
 | cons v a=>
  cases v<;>simp[th]at h;obtain⟨rfl,h⟩:=h;exact⟨_,_,rfl,h⟩
theorem Ta{t:TypeId}{k a:IntKind}(h:P.underlying t=some (.int k)){vs:List Value}{i:Nat}{n:Int}(b:vs[i]? = some (.int a n)):(part t vs.toArray i).run P w = .ok (.int a n) w:=by simp[part,CA (abJ h) w,b]
theorem VX(d:Nat){vs us:List Value}:∀(fs:List Field) (i:Nat) (ks:List IntKind),B' P i fs=some ks->th ks (vs.drop i)=true->th ks (us.drop i)=true ->
  (Op.eqFields (d+1) vs.toArray us.toArray fs).run P w = .ok (yZ (vs.drop i) (us.drop i)) w
 | [],i,ks,h,hv,hu=>by
  cases h
  cases b:vs.drop i with
  | nil=>cases a:us.drop i with
   | nil=>rfl
   | cons y B=>rw[a]at hu;cases hu
  | cons x xr=>rw[b]at hv;cases hv
 | f::fs,i,ks,h,hv,hu=>by
  simp only[B']at h;split at h
  .rename_i k s c p;split at h
   .rename_i r;obtain⟨z,u⟩:=r;cases h;obtain⟨n,l,b,q⟩:=Eu hv;obtain⟨m,o,a,t⟩:=Eu hu;have A:vs[i]? = some (.int k n):=by have:=congrArg (·[0]?) b;simpa using this
    have v:us[i]? = some (.int k m):=by have:=congrArg (·[0]?) a;simpa using this
    have j:vs.drop (i+1)=l:=by rw[<-b6,b];rfl
    have g:us.drop (i+1)=o:=by rw[<-b6,a];rfl
    have e:=VX d fs (i+1) s p (by rw[j];exact q) (by rw[g];exact t);rw[j,g]at e;rw[b,a];simp only[Op.eqFields,if_pos u,Sem.run_bind,z,Ta c A,Ta c v,Result.andThen_ok,run_equalIn_int w d f.type k k n m c,Sem.run_ite,e,yZ];cases n == m<;>simp
   .cases h
  .cases h
theorem YW{l:List IntKind}:∀ {a b:List Value},th l a=true->th l b=true->nX (.agg a.toArray) (.agg b.toArray)=yZ a b:=by
 induction l with
 | nil=>intro a b h1 c;cases a<;>cases b<;>simp[th]at h1 c;simp[nX,yZ]
 | cons k ks d=>
  intro a b h1 c;obtain⟨n,i,rfl,f⟩:=Eu h1;obtain⟨m,g,rfl,e⟩:=Eu c;have h:=d f e;simp[nX,yZ]at h ⊢;rw[<-h];cases n == m<;>cases i.length == g.length<;>simp
theorem abA:∀ {a b:List Value},yZ a b=true->a=b
 | [],[],_=>rfl
 | .int k n::a,.int k' m::b,h=>by simp[yZ]at h;obtain⟨⟨rfl,rfl⟩,h⟩:=h;rw[abA h]
 | [],_::_,h=>by simp[yZ]at h
theorem aaO(n:Nat):∀ {l:List IntKind} {a:List Value},th l a=true->(a.zip a).all (λ(x,y)=>Instr.sameBits n x y)=true
 | [],[],_=>rfl
 | k::l,v::a,h=>by obtain⟨m,r,e,h⟩:=Eu h;cases e;simp only[List.zip_cons_cons,List.all_cons,aaO n h];cases n<;>simp[Instr.sameBits]
def KC(P:Program)(t:TypeId)(d:TypeDesc)(kk:KK):Prop:=(∃k,d = .int k/\kk = .int k)\/(d = .string/\kk = .str)\/(d = .bool/\kk = .bool)\/∃fs l,d = .struct fs/\kk = .ints l/\B' P 0 fs.toList=some l/\P.stoodInHeld t=false
theorem Pq{t:TypeId}{kk:KK}(h:uY P t=some kk):∃d,P.underlying t=some d/\KC P t d kk:=by
 unfold uY at h;split at h
 .rename_i fs a;split at h
  .rename_i hs;obtain⟨l,hl,rfl⟩:=aj.1 h;exact⟨_,a,.inr (.inr (.inr ⟨fs,l,rfl,rfl,hl,hs⟩))⟩
  .cases h
 .rename_i k a;cases h;exact⟨_,a,.inl ⟨k,rfl,rfl⟩⟩
 .rename_i a;cases h;exact⟨_,a,.inr (.inl ⟨rfl,rfl⟩)⟩
 .rename_i a;cases h;exact⟨_,a,.inr (.inr (.inl ⟨rfl,rfl⟩))⟩
 .cases h
theorem acm{t:TypeId}{k:IntKind}(h:P.underlying t=some (.int k))(b:Bool)(n:Nat)(m:Int):(Instr.checkKey b (n+1) t (.int k m)).run P w = .ok () w:=by unfold Instr.checkKey;simp only[Sem.run_bind,run_underlying h,Result.andThen_ok];rfl
theorem run_checkKey{t:TypeId}{kk:KK}(h:uY P t=some kk)(b:Bool){kv:Value}(c:kk.has kv=true)(w:World):(Instr.checkKey b 10000 t kv).run P w = .ok () w:=by
 obtain⟨d,e,g⟩:=Pq h;unfold Instr.checkKey;rcases g with⟨k,rfl,rfl⟩|⟨rfl,rfl⟩|⟨rfl,rfl⟩|⟨fs,l,rfl,rfl,a,_⟩
 .simp only[Sem.run_bind,run_underlying e,Result.andThen_ok];rfl
 .simp only[Sem.run_bind,run_underlying e,Result.andThen_ok];rfl
 .simp only[Sem.run_bind,run_underlying e,Result.andThen_ok];rfl
 .cases kv<;>simp[KK.has]at c;rename_i cs;obtain⟨vs⟩:=cs;simp only[Sem.run_bind,run_underlying e,Result.andThen_ok];rw[<-Array.forIn_toList];have h0:th l (vs.drop 0)=true:=by simpa using c
  clear c h;obtain⟨i,hi⟩:∃i,i=0:=⟨_,rfl⟩;rw[<-hi]at a h0;clear hi e;generalize fs.toList=fl at a ⊢
  induction fl generalizing i l with
  | nil=>simp
  | cons f fl q=>
   simp only[B']at a;split at a
   .rename_i k r c o;split at a
    .rename_i g;obtain⟨v,u⟩:=g;cases a;obtain⟨n,m,j,p⟩:=Eu h0;have x:vs[i]? = some (.int k n):=by have:=congrArg (·[0]?) j;simpa using this
     have y:vs.drop (i+1)=m:=by rw[<-b6,j];rfl
     have s:=q r (i+1) (by rw[y];exact p) o;rw[List.forIn_cons];simp only[if_pos u,Sem.run_bind,v,Ta c x,Result.andThen_ok,acm c,Sem.run_pure];exact s
    .cases a
   .cases a
def od(kv:Value):List MapEntry->Nat->Option (Nat×Value)
 | [],_=>none
 | e::es,i=>if nX kv e.key then some (i,e.val)else od kv es (i+1)
theorem Qq{d:TypeDesc}{kk:KK}(f:(∃k,d = .int k/\kk = .int k)\/(d = .string/\kk = .str)\/(d = .bool/\kk = .bool)){kv:Value}(b:kk.has kv=true) :
  ∀(es:List MapEntry) (i:Nat),(∀e∈es,kk.has e.key=true)->Instr.findNow d kv es i=some (od kv es i):=by
 intro es
 induction es with
 | nil=>intro i _;rfl
 | cons e es c=>
  intro i h;have a:=h e (by simp);have g:=c (i+1) (λe a=>h e (by simp[a]));unfold Instr.findNow od
  have hs:Instr.sameNow d kv e.key=some (nX kv e.key):=by obtain⟨key,val,born⟩:=e;rcases f with⟨k,rfl,rfl⟩|⟨rfl,rfl⟩|⟨rfl,rfl⟩<;>cases kv<;>simp[KK.has]at b<;>cases key<;>simp[KK.has]at a<;>simp[Instr.sameNow,nX];subst b;subst a;simp
  rw[hs];cases nX kv e.key
  .grind
  .rfl
theorem Wz{t:TypeId}{fs:Array Field}{l:List IntKind}(d:P.underlying t=some (.struct fs))(f:B' P 0 fs.toList=some l)(g:P.stoodInHeld t=false){kv:Value}(b:(KK.ints l).has kv=true)(w:World) :
  ∀(es:List MapEntry) (i:Nat),(∀e∈es,(KK.ints l).has e.key=true)->(Instr.findAsking t kv es i).run P w = .ok (od kv es i) w
 | [],i,_=>rfl
 | e::es,i,h=>by
  have a:=h e (by simp);have k:=Wz d f g b w es (i+1) λe a=>h e (by simp[a]);have m:P.underlying t=some (.struct (P.fieldsOf t)):=by unfold Program.fieldsOf;rw[d]
  have j:P.fieldsOf t=fs:=by unfold Program.fieldsOf;rw[d]
  obtain⟨key,val,born⟩:=e;cases kv<;>simp[KK.has]at b;cases key<;>simp[KK.has]at a;rename_i cs ds;obtain⟨vs⟩:=cs;obtain⟨us⟩:=ds;dsimp only at b a
  have c:(Op.equal t (.agg ⟨vs⟩) (.agg ⟨us⟩)).run P w = .ok (nX (.agg ⟨vs⟩) (.agg ⟨us⟩)) w:=by show(Op.equalIn 10000 t (.agg ⟨vs⟩) (.agg ⟨us⟩)).run P w=_;rw[run_equalIn_struct w 9999 t ⟨vs⟩ ⟨us⟩ m g,j,YW b a];exact VX 9998 (vs:=vs) (us:=us) fs.toList 0 l f (by simpa using b) (by simpa using a)
  unfold Instr.findAsking od;simp only[Sem.run_bind,c,Result.andThen_ok,Sem.run_ite,k];cases nX (.agg ⟨vs⟩) (.agg ⟨us⟩)<;>simp
theorem run_findKey{t:TypeId}{kk:KK}(h:uY P t=some kk){kv:Value}(f:kk.has kv=true)(es:List MapEntry)(c:∀e∈es,kk.has e.key=true)(w:World) :
  (Instr.findKey t kv es).run P w = .ok (od kv es 0) w:=by
 obtain⟨d,b,a⟩:=Pq h;rcases a with a|a|a|⟨fs,l,rfl,rfl,g,j⟩
 .simp[Instr.findKey,run_underlying b,Qq (.inl a) f es 0 c]
 .simp[Instr.findKey,run_underlying b,Qq (.inr (.inl a)) f es 0 c]
 .simp[Instr.findKey,run_underlying b,Qq (.inr (.inr a)) f es 0 c]
 .cases es with
  | nil=>simp[Instr.findKey,run_underlying b,Instr.findNow,od]
  | cons e es=>
   have i:Instr.findNow (.struct fs) kv (e::es) 0=none:=by unfold Instr.findNow;cases kv<;>cases e.key<;>simp[Instr.sameNow]
   simp only[Instr.findKey,Sem.run_bind,run_underlying b,Result.andThen_ok,i];exact Wz b g j f w (e::es) 0 c
theorem YF:∀ {l:List IntKind} {vs:List Value},th l vs=true->∀v∈vs,v.oneCell'=true
 | [],[],_,v,hv=>by cases hv
 | k::ks,.int k' n::vs,h,v,hv=>by
  simp only[th,Bool.and_eq_true]at h;rcases av.1 hv with rfl|hv
  .rfl
  .exact YF h.2 v hv
theorem aar{kk:KK}{v:Value}(h:kk.has v=true):gh c w v (sJ v):=by
 unfold sJ;split
 .rename_i cs;cases kk<;>simp only[KK.has]at h<;>first|(cases h;done)|skip
  have:=gh.agg (c:=c) (w:=w) cs.toList (cs.toList.map .val) (by simp) (YF h) (λi v d b a=>by
   simp only[au,b,aH,aq]at a;subst a
   exact .val _)
  simpa using this
 .exact .val _
theorem SL{arr:Array MapEntry}{a:Nat}{es:List (Value×D)}(b:FH c w arr a es){kk:KK}(d:∀x∈es,kk.has x.1=true):∀e∈arr.toList,kk.has e.key=true:=by
 intro e f;obtain⟨i,hi⟩:=aC.1 f;have hl:i<es.length:=by rw[<-b.1];have:=(ae.1 hi).1;simpa using this
 obtain⟨h1,_⟩:=b.2.1 i e es[i] (by simpa using hi) (by simp[hl]);rw[h1];exact d _ (bT hl)
theorem Gw(kv:Value):∀(l:List MapEntry) (es:List (Value×D)) (i:Nat),l.length=es.length ->
  (∀(j:Nat) (e:MapEntry) (x:Value×D),l[j]? = some e->es[j]? = some x->e.key=x.1/\gh c w e.val x.2) ->
  (od kv l i=none/\rr es kv=none/\∀y,mu es kv y=es ++ [(kv,y)]) \/
  (∃j v d,od kv l i=some (i+j,v)/\rr es kv=some d/\gh c w v d/\j<l.length/\(∀y,mu es kv y=es.set j (kv,y))/\∃e,l[j]? = some e/\nX kv e.key=true)
 | [],[],i,_,_=>.inl ⟨rfl,rfl,λ_=>rfl⟩
 | e::l,(k,d)::es,i,hl,h=>by
  obtain⟨f,n⟩:=h 0 e (k,d) rfl rfl;dsimp only at f n
  by_cases a:nX kv e.key=true
  .refine .inr ⟨0,e.val,d,by simp[od,a],by simp[rr,<-f,a],n,by simp,λy=>by simp[mu,<-f,a],e,rfl,a⟩
  .have b:nX kv k=false:=by rw[<-f];simpa using a
   rcases Gw kv l es (i+1) (by simpa using hl) (λj e x a o=>h (j+1) e x (by simpa using a) (by simpa using o))with⟨h1,m,g⟩|⟨j,v,d',h1,m,g,t,r,s,q,p⟩
   .exact .inl ⟨by simp[od,a,h1],by simp[rr,b,m],λy=>by simp[mu,b,g]⟩
   .exact .inr ⟨j+1,v,d',by simp[od,a,h1];omega,by simp[rr,b,m],g,by simp;omega,λy=>by simp[mu,b,r],s,by simpa using q,p⟩
theorem ams(h:gE G c H w){t k e:TypeId}{kk:KK}{z:D}(S:P.underlying t=some (.map k e))(F:uY P k=some kk)(s:Fe P e=some z)(ok:Bool){m x:D}{u v:Value}(h1:gh c w u m)(V:gh c w v x)
  (g:Ia kk z ok m x H K):∃r,(Instr.lookup t u v ok).run P w = .ok r w/\jm G c H w K r w:=by
 have o:∃n,(zeroValue e).run P w = .ok n w/\gh c w n z:=by
  unfold Fe at s
  cases hi:P.info? e with
  | none=>simp[hi]at s
  | some i=>
   simp only[hi,Option.bind_some]at s
   cases C:i.zero with
   | none=>simp[C]at s
   | some n=>
    simp only[C,Option.bind_some]at s;exact⟨n,by simp[zeroValue,run_typeInfo hi,C],To s⟩
 obtain⟨n,J,I⟩:=o;unfold Ia at g;split at g
 .rename_i v0 kv X;split at g
  .rename_i Z es Q;obtain⟨rfl,E,g⟩:=g;have f:=Sq V X;subst f
   cases h1 with
   | gD _ L W iu=>
    have A:=h.ob v0 _ (ue Q);simp only[Ob.gen]at A;rw[W]at A;simp only[ia]at A;obtain⟨_,M,arr,q,T,B⟩:=A;have Y:=run_findKey F E arr.toList (SL B M) w;have N:=run_checkKey (w:=w) F arr.isEmpty E
    have y:(Instr.lookup t (.map (some L.b)) v ok).run P w=((match od v arr.toList 0 with
      | some (_,v)=>Result.ok (v,true) w
      | none=>Result.ok (n,false) w:Result (Value×Bool)).andThen λp w=>.ok (if ok then .tuple #[p.1,.bool p.2]else p.1) w):=by
     have O:(getObj L.b).run P w = .ok (.map arr q) w:=by simp[getObj,Sem.run,T]
     simp only[Instr.lookup,Sem.run_bind,run_underlying S,Result.andThen_ok,O,Sem.run_pure,N,Y]
     cases od v arr.toList 0 with
     | none=>simp[J]
     | some p=>obtain⟨_,_⟩:=p;simp
    rcases Gw (c:=c) (w:=w) v arr.toList es 0 (by simpa using B.1) (λj e x U R=>let ⟨a,b,_⟩:=B.2.1 j e x (by simpa using U) R;⟨a,b⟩)with⟨f1,f2,_⟩|⟨j,val,d,f1,f2,f3,_⟩
    .rw[f1]at y;rw[f2]at g;refine⟨_,y,.plain h g ?_⟩;cases ok
     .exact I
     .exact .tup [n,.bool false] [z,.val (.bool false)] rfl (λi v d f l=>by
       match i with
       | 0=>simp at f l;subst f;subst l;exact I
       | 1=>simp at f l;subst f;subst l;exact .val _
       | i+2=>simp at f)
    .rw[f1]at y;rw[f2]at g;refine⟨_,y,.plain h g ?_⟩;cases ok
     .exact f3
     .exact .tup [val,.bool true] [d,.val (.bool true)] rfl (λi v d' f l=>by
       match i with
       | 0=>simp at f l;subst f;subst l;exact f3
       | 1=>simp at f l;subst f;subst l;exact .val _
       | i+2=>simp at f)
  .exact g.elim
 .grind
theorem anN{kk:KK}(a:kk = .str\/kk = .bool\/∃k,kk = .int k){old new:Value}(h1:kk.has new=true)(b:kk.has old=true)(h:nX new old=true):Instr.sameBits 10000 old new=true:=by
 rcases a with rfl|rfl|⟨k,rfl⟩<;>cases new<;>simp[KK.has]at h1<;>cases old<;>simp[KK.has]at b<;>simp[nX]at h<;>simp[Instr.sameBits]
 .rename_i x y;obtain⟨x⟩:=x;obtain⟨y⟩:=y;have c:(x == y)=true:=h;have e:=eq_of_beq c;subst e;exact h
 .exact h.symm
 .grind
theorem aaN{kk:KK}(b:(kk = .str\/kk = .bool\/∃k,kk = .int k)\/∃l,kk = .ints l){old new:Value}(h1:kk.has new=true)(a:kk.has old=true)(h:nX new old=true):Instr.sameBits 10000 old new=true:=by
 rcases b with b|⟨l,rfl⟩
 .exact anN b h1 a h
 .cases new<;>simp[KK.has]at h1;cases old<;>simp[KK.has]at a;rename_i cs ds;obtain⟨vs⟩:=cs;obtain⟨us⟩:=ds;dsimp only at h1 a;have e:=abA ((YW h1 a).symm.trans h);subst e;have:=aaO 9999 h1;simp only[Instr.sameBits,beq_self_eq_true,ei];exact this
theorem AQ{G:GT}{c:Ctx}{H:U}{w:World}(h:gE G c H w){v:Nat}{ob ob':Ob}(e:H[v]? = some ob)(f:ob.alive=true)(i:ob'.alive=true)(m:ob'.gen=ob.gen){L:Loc}(g:c.ι v ob.gen=some L)(a:L.jO=false)(o':Obj)
  (j:∀w',w'.heap[L.b]? = some o'->(∀u d,gh c w u d->gh c w' u d)->ia c w' (some L) ob') :
  gE G c (H.set v ob') { w with heap:=w.heap.setIfInBounds L.b o' }/\Step H.length c H w c (H.set v ob') { w with heap:=w.heap.setIfInBounds L.b o' }:=by
 have l:=h.lt _ ⟨v,L,⟨ob,e,f,g⟩,a,rfl⟩;refine abw (w':={ w with heap:=w.heap.setIfInBounds L.b o' }) h e f i m g a ⟨rfl,Nat.le_refl _⟩ rfl rfl (by simp) (λb k=>?_) (j _ (by simp[l]));rw[cJ (cu k)]
theorem Zu{es:List (Value×D)}{kv:Value}{y:D}:∀x∈mu es kv y,x∈es\/x=(kv,y):=by
 induction es with
 | nil=>intro x a;simp[mu]at a;exact .inr a
 | cons e es b=>
  intro x a;obtain⟨k,d⟩:=e;simp only[mu]at a;split at a
  .grind
  .grind
theorem ZV(h:gE G c H w){t k e:TypeId}{kk:KK}(V:P.underlying t=some (.map k e))(O:uY P k=some kk){m x y:D}{u v z:Value}(h1:gh c w u m)(h2:gh c w v x)(W:gh c w z y)
  (s:Ie kk m x y H K):∃w',(Instr.mapUpdate t u v z).run P w = .ok () w'/\jm G c H w K undef w':=by
 have RN:(kk = .str\/kk = .bool\/∃k,kk = .int k)\/∃l,kk = .ints l:=by
  obtain⟨d,_,hc⟩:=Pq O;rcases hc with⟨k,_,rfl⟩|⟨_,rfl⟩|⟨_,rfl⟩|⟨_,l,_,rfl,_⟩
  .grind
  .grind
  .grind
  .grind
 unfold Ie at s;split at s
 .rename_i v0 kv G7;split at s
  .rename_i C es Q;obtain⟨rfl,B,s⟩:=s;have hv:=Sq h2 G7;subst hv
   cases h1 with
   | gD _ L S E=>
    have F:=h.ob v0 _ (ue Q);simp only[Ob.gen]at F;rw[S]at F;simp only[ia]at F;obtain⟨_,tP,arr,f,I,n⟩:=F;have X:=SL n tP;have Z:=run_findKey O B arr.toList X w;have U:=run_checkKey (w:=w) O false B
    have Y:∀T,∀x∈mu es v T,C.has x.1=true:=λT x g=>by
     rcases Zu x g with h|rfl
     .grind
     .exact B
    rcases Gw (c:=c) (w:=w) v arr.toList es 0 (by simpa using n.1) (λj e x o g=>let ⟨a,b,_⟩:=n.2.1 j e x (by simpa using o) g;⟨a,b⟩)with⟨f1,f2,f3⟩|⟨j,val,d,f1,f2,_,f4,f5,J,f6,f7⟩
    .have R:(Instr.mapUpdate t (.map (some L.b)) v z).run P w = .ok () { w with heap:=w.heap.setIfInBounds L.b (.map (arr.push { key:=v,val:=z,born:=f }) (f+1)) }:=by
      have N:(getObj L.b).run P w = .ok (.map arr f) w:=by simp[getObj,Sem.run,I]
      simp only[Instr.mapUpdate,Sem.run_bind,run_underlying V,Result.andThen_ok,N,U,Z,f1];simp[setObj,Sem.run,I]
     obtain⟨m1,m2⟩:=AQ h (ue Q) rfl rfl rfl S E (.map (arr.push { key:=v,val:=z,born:=f }) (f+1)) (ob':=.map C (mu es v y)) (by
      intro w' M A;simp only[ia];refine⟨E,Y y,_,_,M,?_⟩;rw[f3];refine⟨by simp[n.1],λi e x o g=>?_,by simp[n.2.2]⟩;rw[eJ]at o;split at o
      .rename_i hi;cases o;rw[ai (by rw[hi,n.1];exact Nat.le_refl _),hi,n.1]at g;simp at g;subst g;exact⟨rfl,A _ _ W,by rw[hi,n.1,n.2.2]⟩
      .have hi:i<es.length:=by rw[<-n.1];exact(aP.1 o).1
       rw[ah hi]at g;obtain⟨p,q,r⟩:=n.2.1 i e x o g
       exact⟨p,A _ _ q,r⟩)
     exact⟨_,R,.any,_,c,s,m1,.any _,m2⟩
    .have nD:j<arr.size:=by simpa using f4
     have vJ:arr[j]? = some J:=by simpa using f6
     have Rz:C.has J.key=true:=X J (List.mem_of_getElem? f6)
     have RY:(Instr.keyThatStays J.key v).run P w = .ok v w:=by simp[Instr.keyThatStays,aaN RN B Rz f7]
     have R:(Instr.mapUpdate t (.map (some L.b)) v z).run P w = .ok () { w with heap:=w.heap.setIfInBounds L.b (.map (arr.modify j λe=>{ e with key:=v,val:=z }) f) }:=by
      have N:(getObj L.b).run P w = .ok (.map arr f) w:=by simp[getObj,Sem.run,I]
      simp only[Instr.mapUpdate,Sem.run_bind,run_underlying V,Result.andThen_ok,N,U,Z,f1,aQ,vJ,aH,aZ,RY];simp[setObj,Sem.run,I]
     obtain⟨m1,m2⟩:=AQ h (ue Q) rfl rfl rfl S E (.map (arr.modify j λe=>{ e with key:=v,val:=z }) f) (ob':=.map C (mu es v y)) (by
      intro w' M A;simp only[ia];refine⟨E,Y y,_,_,M,?_⟩;rw[f5];refine⟨by simp[n.1],λi e x o g=>?_,by simp[n.2.2]⟩
      .rw[bg]at o;rw[bW]at g;split at o
       .rename_i hi;subst hi;rw[if_pos rfl]at g;simp only[aj]at o;obtain⟨e0,h0,rfl⟩:=o;split at g
        .cases g;have hj:j<es.length:=by rw[<-n.1];exact nD
         exact⟨rfl,A _ _ W,(n.2.1 j e0 es[j] h0 (by simp[hj])).2.2⟩
        .cases g
       .rename_i hi;rw[if_neg hi]at g;obtain⟨p,q,r⟩:=n.2.1 i e x o g
        exact⟨p,A _ _ q,r⟩)
     exact⟨_,R,.any,_,c,s,m1,.any _,m2⟩
  .exact s.elim
 .exact s.elim
end
end Go.AL
namespace Go.AL
open Go
section
variable{P:Program}{G:GT}{c:Ctx}{H:U}{w:World}{K:jE}{env:gP}{a:Act}
theorem Y8{t:TypeId}{l:mB}(hl:yD P t=some l)(d:Nat){x y:D}{u v:Value}(h1:gh c w u x)(b:gh c w v y){r:Bool}(h:uI l x y=some r):(Op.equalIn (d+1) t u v).run P w = .ok r w:=by
 unfold uI at h;split at h
 .rename_i k m f n;cases h1;cases b;split at h
  .rename_i e;subst e;cases h;unfold yD at hl;split at hl
   .rename_i k0 a;exact run_equalIn_int w d t k k0 m n a
   .cases hl
   .cases hl
   .cases hl
  .cases h
 .cases h1;cases b;cases h;unfold yD at hl;split at hl
  .cases hl
  .cases hl
  .rename_i a;exact run_equalIn_bool' w d t _ _ a
  .cases hl
 .cases h1;cases b;cases h;rename_i p q;unfold yD at hl;split at hl
  .cases hl
  .rename_i a;have:=run_equalIn_string (P:=P) w d t p q a;rw[ByteArray.toList_eq,ByteArray.toList_eq]at this;exact this
  .cases hl
  .cases hl
 .cases h
theorem Y7{t:TypeId}{l:mB}(hl:yD P t=some l):pb P t=some false:=by unfold yD at hl;unfold pb;split at hl<;>first|(rename_i a;simp[a])|(rename_i k a;simp[a])|cases hl
theorem VY(d:Nat){vs us:List Value}{xs a:List D}(k:Cells c w vs xs)(j:Cells c w us a):∀(fs:List Field) (i:Nat) (ls:List mB) (r:Bool),M5 P i fs=some ls->mL ls (xs.drop i) (a.drop i)=some r ->
  (Op.eqFields (d+1) vs.toArray us.toArray fs).run P w = .ok r w
 | [],i,ls,r,he,hc=>by
  cases he;unfold mL at hc;split at hc
  .cases hc;rfl
  .grind
  .cases hc
 | f::fs,i,ls,r,he,hc=>by
  simp only[M5]at he;split at he
  .rename_i l g hl s;split at he
   .rename_i A;obtain⟨n,I⟩:=A;cases he
    cases b:xs.drop i with
    | nil=>rw[b]at hc;simp[mL]at hc
    | cons x xr=>
     cases e:a.drop i with
     | nil=>rw[b,e]at hc;simp[mL]at hc
     | cons y o=>
      rw[b,e]at hc;simp only[mL]at hc;split at hc
      .rename_i p q G F;cases hc;have L:xs[i]? = some x:=by have:=congrArg (·[0]?) b;simpa using this
       have J:a[i]? = some y:=by have:=congrArg (·[0]?) e;simpa using this
       have M:xs.drop (i+1)=xr:=by rw[<-b6,b];rfl
       have K:a.drop (i+1)=o:=by rw[<-b6,e];rfl
       obtain⟨u,E,_,H⟩:=k.get L;obtain⟨v,C,_,HK⟩:=j.get J;have B:=VY d k j fs (i+1) g q s (by rw[M,K];exact F);have h:=Y8 (w:=w) hl d H HK G;have m:=CA (Y7 hl) w;have t:(part f.type vs.toArray f.offset).run P w = .ok u w:=by simp[part,m,n,E]
       have z:(part f.type us.toArray f.offset).run P w = .ok v w:=by simp[part,m,n,C]
       simp only[Op.eqFields,if_pos I,Sem.run_bind,t,z,Result.andThen_ok,h,Sem.run_ite,B];cases p<;>simp
      .cases hc
   .cases he
  .cases he
theorem VZ{e:TypeId}{l:mB}(hl:yD P e=some l)(d:Nat){vs us:List Value}{xs a:List D}(j:Cells c w vs xs)(h:Cells c w us a):∀(n i:Nat) (r:Bool),mL (List.replicate n l) (xs.drop i) (a.drop i)=some r ->
  (Op.eqItems (d+1) e 1 vs.toArray us.toArray (List.range' i n)).run P w = .ok r w
 | 0,i,r,hc=>by
  unfold mL at hc;split at hc
  .cases hc;rfl
  .grind
  .cases hc
 | n+1,i,r,hc=>by
  rw[bp]at hc
  cases b:xs.drop i with
  | nil=>rw[b]at hc;simp[mL]at hc
  | cons x xr=>
   cases f:a.drop i with
   | nil=>rw[b,f]at hc;simp[mL]at hc
   | cons y m=>
    rw[b,f]at hc;simp only[mL]at hc;split at hc
    .rename_i p q C B;cases hc;have H:xs[i]? = some x:=by have:=congrArg (·[0]?) b;simpa using this
     have F:a[i]? = some y:=by have:=congrArg (·[0]?) f;simpa using this
     have I:xs.drop (i+1)=xr:=by rw[<-b6,b];rfl
     have G:a.drop (i+1)=m:=by rw[<-b6,f];rfl
     obtain⟨u,A,_,E⟩:=j.get H;obtain⟨v,z,_,HK⟩:=h.get F;have t:=VZ hl d j h n (i+1) q (by rw[I,G];exact B);have g:=Y8 (w:=w) hl d E HK C;have k:=CA (Y7 hl) w;have o:(part e vs.toArray (i*1)).run P w = .ok u w:=by simp[part,k,A]
     have s:(part e us.toArray (i*1)).run P w = .ok v w:=by simp[part,k,z]
     rw[cG];simp only[Op.eqItems,Sem.run_bind,o,s,Result.andThen_ok,g,Sem.run_ite,t];cases p<;>simp
    .cases hc
theorem ZU(h:gE G c H w){t:TypeId}{ls:List mB}(d:M6 P t=some ls)(neg:Bool){x y:D}{u v:Value}(h1:gh c w u x)(E:gh c w v y)(a:wT true ls neg x y H K)(xo f:Operand) :
  ∃r,(do eqGuard (if neg then .neq else .eql) t xo f u v;binOp (if neg then .neq else .eql) t u v).run P w = .ok r w/\jm G c H w K r w:=by
 unfold M6 at d;split at d
 .rename_i fs i;split at d
  .rename_i g;have J:P.underlying t=some (.struct (P.fieldsOf t)):=by unfold Program.fieldsOf;rw[i]
   have F:P.fieldsOf t=fs:=by unfold Program.fieldsOf;rw[i]
   have o:∃cs ds,x = .agg cs/\y = .agg ds:=by
    unfold wT at a;split at a
    .grind
    .contradiction
    .exact a.elim
   obtain⟨cs,ds,rfl,rfl⟩:=o;simp only[wT]at a;split at a
   .rename_i r p
    cases h1 with
    | agg vs _ k C B=>
     cases E with
     | agg us _ j A z=>
      have s:Cells c w vs cs:=⟨k,C,B⟩;have q:Cells c w us ds:=⟨j,A,z⟩;have m:=VY (P:=P) 9998 s q fs.toList 0 ls r d (by simpa using p)
      have b:(Op.equalIn 10000 t (.agg vs.toArray) (.agg us.toArray)).run P w = .ok r w:=by rw[run_equalIn_struct w 9999 t vs.toArray us.toArray J g.1,F];exact m
      cases neg
      .simp only[bC,if_false,Sem.run_bind,run_eqGuard_agg w .eql t xo f vs.toArray us.toArray g.2,Result.andThen_ok,run_eql_struct,b];exact⟨_,rfl,.val h (by simpa using a)⟩
      .simp only[if_true,Sem.run_bind,run_eqGuard_agg w .neq t xo f vs.toArray us.toArray g.2,Result.andThen_ok,run_neq_struct,b];exact⟨_,rfl,.val h (by simpa using a)⟩
   .exact a.elim
  .cases d
 .rename_i n e i;split at d
  .rename_i g;obtain⟨hg,L,hi⟩:=g;obtain⟨I,hi⟩:=da.1 hi;obtain⟨l,hl,rfl⟩:=aj.1 d
   have o:∃cs ds,x = .agg cs/\y = .agg ds:=by
    unfold wT at a;split at a
    .grind
    .contradiction
    .exact a.elim
   obtain⟨cs,ds,rfl,rfl⟩:=o;simp only[wT]at a;split at a
   .rename_i r p
    cases h1 with
    | agg vs _ k C B=>
     cases E with
     | agg us _ j A z=>
      have s:Cells c w vs cs:=⟨k,C,B⟩;have q:Cells c w us ds:=⟨j,A,z⟩;have m:=VZ (P:=P) (w:=w) hl 9998 s q n 0 r (by simpa using p)
      have b:(Op.equalIn 10000 t (.agg vs.toArray) (.agg us.toArray)).run P w = .ok r w:=by rw[run_equalIn_array (w:=w) 9999 vs.toArray us.toArray i hi,L,cK];exact m
      cases neg
      .simp only[bC,if_false,Sem.run_bind,run_eqGuard_agg w .eql t xo f vs.toArray us.toArray hg,Result.andThen_ok,run_eql_struct,b];exact⟨_,rfl,.val h (by simpa using a)⟩
      .simp only[if_true,Sem.run_bind,run_eqGuard_agg w .neq t xo f vs.toArray us.toArray hg,Result.andThen_ok,run_neq_struct,b];exact⟨_,rfl,.val h (by simpa using a)⟩
   .exact a.elim
  .cases d
 .cases d
theorem ZT(h:gE G c H w){t:TypeId}(k:P.underlying t=some .bool)(neg:Bool){x y:D}{u v:Value}(h1:gh c w u x)(m:gh c w v y)(f:wT false [.bool] neg x y H K)(xo j:Operand) :
  ∃r,(do eqGuard (if neg then .neq else .eql) t xo j u v;binOp (if neg then .neq else .eql) t u v).run P w = .ok r w/\jm G c H w K r w:=by
 simp only[wT]at f;split at f
 .rename_i r d;simp only[mL]at d;split at d
  .rename_i p q e l;cases l;cases d;unfold uI at e;split at e
   .contradiction
   .cases h1;cases m;cases e;rename_i b g _;have a:=run_equalIn_bool' (P:=P) w 9999 t b g k;have i:Op.equal t (.bool b) (.bool g)=Op.equalIn 10000 t (.bool b) (.bool g):=rfl;cases neg
    .exact⟨_,by simp[eqGuard,binOp,i,a]<;>rfl,.val h (by simpa using f)⟩
    .exact⟨_,by simp[eqGuard,binOp,i,a]<;>rfl,.val h (by simpa using f)⟩
   .contradiction
   .cases e
  .cases d
 .grind
theorem O1{f:FuncId}(h:s5 P f=true)(args:Array Value)(w:World):(callFunc f args).run P w = .ok (.enter f args) w:=by
 unfold s5 at h;split at h
 .rename_i fn b;simp only[Bool.and_eq_true,bne_iff_ne,ne_eq]at h;have a:fn.body.isNone=false:=by cases a:fn.body<;>simp[a]at h ⊢
  simp[callFunc,b,h.1];intro e;rw[e]at a;cases a
 .cases h
end
end Go.AL
namespace Go.AL
open Go
section
variable{P:Program}{G:GT}{c:Ctx}{H:U}{w:World}{K:jE}{env:gP}{a:Act}
def Dj(r:Result Next)(v:Value)(w':World):Prop:=r = .ok (.value v) w'\/(r = .ok .skip w'/\v=undef)
theorem jI{s:Sem Value}{v:Value}{w':World}(h:s.run P w = .ok v w'):Dj ((do pure (.value (<-s)):Sem Next).run P w) v w':=.inl (by simp[h])
theorem Jg{s:Sem Unit}{w':World}(h:s.run P w = .ok () w'):Dj ((do s;pure .skip:Sem Next).run P w) undef w':=.inr ⟨by simp[h],rfl⟩
theorem amf(h:gE G c H w){s d:TypeId}{sd:TypeDesc}{k:IntKind}(hs:P.underlying s=some sd)(b:P.underlying d=some (.int k)){x:D}{u:Value}(h1:gh c w u x)
  (a:Ge k x H K):∃r,(convert s d u).run P w = .ok r w/\jm G c H w K r w:=by
 unfold Ge at a;split at a
 .rename_i f n;cases h1;have e:P.intKind d=k:=by simp[Program.intKind,b]
  have:=run_convert_int (P:=P) w s d f n (by rw[hs];rfl) (by rw[e];exact b);rw[e]at this;exact⟨_,this,.val h a⟩
 .exact a.elim
theorem amy(h:gE G c H w){o:Oper}{x:Operand}(l:o.op = .nilCheck x){d:D}(h1:gh c w (a.eval x) d)
  (g:Im d H K):∃v w',Dj ((execOp a.eval o).run P w) v w'/\jm G c H w K v w':=by
 have key:∀v,a.eval x=v->(match v with | .pointer (some _)=>True | .func (.func _) _ _=>True | .func (.yield _) _ _=>True|_=>False)->Dj ((execOp a.eval o).run P w) v w:=by intro v i m;refine .inl ?_;simp only[execOp,l,i];split at m<;>simp_all
 generalize i:a.eval x=v at h1;unfold Im at g;split at g
 .cases h1 with
  | ptr _ _ _ L k j=>exact⟨_,w,key _ i trivial,.plain h g (.ptr _ _ _ L k j)⟩
 .obtain⟨b,p,e,u,t⟩:=zp h1;subst e;exact⟨_,w,key _ i trivial,.plain h g h1⟩
 .cases h1 with
  | fn f fs cs y z s r q n=>exact⟨_,w,key _ i trivial,.plain h g (.fn _ fs cs _ _ s r q n)⟩
 .cases h1 with
  | iT _ L k j=>exact⟨_,w,key _ i trivial,.plain h g (.iT _ L k j)⟩
 .exact g.elim
theorem Tp{l:Array Operand}{xs:List D}(h:jC c w (l.toList.map a.eval) xs):∃vs:List Value,l.map a.eval=vs.toArray/\jC c w vs xs:=
 ⟨_,by cases l;simp,h⟩
theorem xx{o:Oper}{cl:Call}(c:o.op = .call cl){b:Builtin}(d:cl.callee = .builtin b):(execOp a.eval o).run P w=(builtin b cl.argTypes o.type (cl.args.map λ| .const _=>true|_=>false) (cl.args.map a.eval)).run P w:=by simp only[execOp,c,resolve,d,Sem.run_bind,Sem.run_pure,Result.andThen_ok,invoke];rfl
theorem aaf(h:gE G c H w)(B:kT c w env a){al:Al}(iq:nk H al){o:Oper}{io:iL}(g:nN P G o=some io)(A:FO env H al K io) :
  ∃v w',Dj ((execOp a.eval o).run P w) v w'/\jm G c H w K v w':=by
 unfold nN at g
 cases p:o.op with
 | move x=>
  simp only[p,aA,ag,aD,aq]at g;obtain⟨X,hX,rfl⟩:=g;exact⟨_,w,.inl (by simp only[execOp,p];rfl),.plain h A (iM h B hX)⟩
 | assign x=>
  simp only[p,aA,ag,aD,aq]at g;obtain⟨X,hX,rfl⟩:=g;exact⟨_,w,.inl (by simp only[execOp,p];rfl),.plain h A (iM h B hX)⟩
 | pick x y z=>
  simp only[p,aA,ag,aD,aq]at g;obtain⟨X,hX,Y,F,Z,hZ,rfl⟩:=g;obtain⟨b,J,j⟩:=amz h (iM h B hX) (iM h B F) (iM h B hZ) A;exact⟨_,w,.inl (by simp[execOp,p,J];rfl),j⟩
 | box e x=>
  simp only[p,aA,ag,aD,aq]at g;obtain⟨X,hX,rfl⟩:=g;obtain⟨r,w',U,j⟩:=al9 (P:=P) h iq e (iM h B hX) A;exact⟨r,w',by simp only[execOp,p];exact jI U,j⟩
 | alloc e=>
  simp only[p,aA,ag,aD,aq]at g;obtain⟨z,O,rfl⟩:=g;obtain⟨r,w',U,j⟩:=al4 (P:=P) h iq O A;exact⟨r,w',by simp only[execOp,p];exact jI U,j⟩
 | build t ps=>
  simp only[p,aA,ag]at g;obtain⟨z,O,l,hl,g⟩:=g;split at g
  .rename_i fs C;split at g
   .rename_i hf;simp only[ag,aD,aq]at g;obtain⟨qs,hq,rfl⟩:=g;obtain⟨r,U,j⟩:=ama h B O hl C hf hq A;exact⟨r,w,by simp only[execOp,p];exact jI U,j⟩
   .cases g
  .rename_i n e C;simp only[ag,aD,aq]at g;obtain⟨sz,hs,rfl⟩:=g;obtain⟨r,U,j⟩:=amb h B O hl C hs A;exact⟨r,w,by simp only[execOp,p];exact jI U,j⟩
  .cases g
 | buildSlice t n ps=>
  simp only[p,aA,ag]at g;obtain⟨S,C,g⟩:=g;split at g
  .rename_i e;simp only[ag]at g;obtain⟨z,O,sz,hs,l,hl,g⟩:=g;split at g
   .rename_i T;cases g;obtain⟨r,w',U,j⟩:=amc (P:=P) h iq B C O hs hl T.1 T.2.1 T.2.2 A;exact⟨r,w',by simp only[execOp,p];exact jI U,j⟩
   .cases g
  .cases g
 | load t x=>
  simp only[p,aA,ag]at g;obtain⟨X,hX,n,E,b,J,g⟩:=g;cases b
  .cases g;obtain⟨v,q,j⟩:=amq h J (iM h B hX) A;exact⟨v,w,by simp only[execOp,p];exact jI q,j⟩
  .cases g;obtain⟨v,q,j⟩:=amr h J E (iM h B hX) A;exact⟨v,w,by simp only[execOp,p];exact jI q,j⟩
 | store t x y=>
  simp only[p,aA,ag]at g;obtain⟨X,hX,Y,F,n,E,b,J,g⟩:=g;cases b
  .simp only[bC,if_false]at g;split at g
   .rename_i e;subst e;cases g;obtain⟨w',q,j⟩:=amF h E (iM h B hX) (iM h B F) A;exact⟨_,w',by simp only[execOp,p];exact Jg q,j⟩
   .cases g
  .cases g;obtain⟨w',q,j⟩:=amG h E (iM h B hX) (iM h B F) A;exact⟨_,w',by simp only[execOp,p];exact Jg q,j⟩
 | nilCheck x=>
  simp only[p,aA,ag,aD,aq]at g;obtain⟨X,hX,rfl⟩:=g;exact amy h p (iM h B hX) A
 | binOp op t x y yt=>
  simp only[p,aA,ag]at g;obtain⟨X,hX,Y,F,g⟩:=g;have I:=iM h B hX;have Q:=iM h B F;split at g
  .split at g
   .rename_i J;cases g;obtain⟨v,q,j⟩:=ZT (P:=P) h (by unfold Mw at J;split at J<;>first|assumption|cases J) false I Q A x y;exact⟨v,w,by simp only[execOp,p];exact jI q,j⟩
   .split at g
    .cases g;obtain⟨v,q,j⟩:=S6 (P:=P) h I Q A t x y;exact⟨v,w,by simp only[execOp,p];exact jI q,j⟩
    .simp only[ag,aD,aq]at g;obtain⟨ls,yn,rfl⟩:=g;obtain⟨v,q,j⟩:=ZU (P:=P) h yn false I Q A x y;exact⟨v,w,by simp only[execOp,p];exact jI q,j⟩
  .split at g
   .rename_i J;cases g;obtain⟨v,q,j⟩:=ZT (P:=P) h (by unfold Mw at J;split at J<;>first|assumption|cases J) true I Q A x y;exact⟨v,w,by simp only[execOp,p];exact jI q,j⟩
   .split at g
    .cases g;obtain⟨v,q,j⟩:=S6 (P:=P) h I Q A t x y;exact⟨v,w,by simp only[execOp,p];exact jI q,j⟩
    .simp only[ag,aD,aq]at g;obtain⟨ls,yn,rfl⟩:=g;obtain⟨v,q,j⟩:=ZU (P:=P) h yn true I Q A x y;exact⟨v,w,by simp only[execOp,p];exact jI q,j⟩
  .cases g;obtain⟨v,q,j⟩:=S6 (P:=P) h I Q A t x y;exact⟨v,w,by simp only[execOp,p];exact jI q,j⟩
 | unOp op t x=>
  simp only[p,aA,ag,aD,aq]at g;obtain⟨X,hX,rfl⟩:=g;obtain⟨v,q,j⟩:=amH (P:=P) h (iM h B hX) A;exact⟨v,w,by simp only[execOp,p];exact jI q,j⟩
 | convert s d x=>
  simp only[p,aA,ag]at g;obtain⟨X,hX,sd,hs,g⟩:=g;split at g
  .rename_i k hd;cases g;obtain⟨v,q,j⟩:=amf (P:=P) h hs hd (iM h B hX) A;exact⟨v,w,by simp only[execOp,p];exact jI q,j⟩
  .rename_i hd;simp only[ag]at g;obtain⟨b5,lU,g⟩:=g;split at g
   .rename_i e;simp only[ag]at g;obtain⟨ed,b',g⟩:=g;split at g
    .cases g;obtain⟨v,q,j⟩:=al8 (P:=P) h lU b' hd (iM h B hX) A;exact⟨v,w,by simp only[execOp,p];exact jI q,j⟩
    .cases g
   .cases g
  .cases g
 | makeFunc f first cap=>
  simp only[p,aA,ag,aD,aq]at g;obtain⟨X,hX,Y,F,rfl⟩:=g;exact⟨_,w,.inl (by simp[execOp,p,Instr.makeFunc]),amu h B hX F A⟩
 | makeMap t r=>
  cases r with
  | some r=>simp[p]at g
  | none=>
   simp only[p,aA,ag]at g;obtain⟨S,C,g⟩:=g;split at g
   .simp only[ag,aD,aq]at g;obtain⟨kk,ly,rfl⟩:=g;obtain⟨v,w',q,j⟩:=amv (P:=P) h iq t kk A;exact⟨v,w',by simp only[execOp,p];exact jI q,j⟩
   .cases g
 | lookup t x i ok=>
  simp only[p,aA,ag]at g;obtain⟨S,C,g⟩:=g;split at g
  .simp only[ag,aD,aq]at g;obtain⟨z,O,kk,ly,X,hX,Y,F,rfl⟩:=g;obtain⟨v,q,j⟩:=ams (P:=P) h C ly O ok (iM h B hX) (iM h B F) A;exact⟨v,w,by simp only[execOp,p];exact jI q,j⟩
  .cases g
 | mapUpdate t m k x=>
  simp only[p,aA,ag]at g;obtain⟨S,C,g⟩:=g;split at g
  .simp only[ag,aD,aq]at g;obtain⟨kk,ly,X,hX,Y,F,Z,hZ,rfl⟩:=g;obtain⟨w',q,j⟩:=ZV (P:=P) h C ly (iM h B hX) (iM h B F) (iM h B hZ) A;exact⟨_,w',by simp only[execOp,p];exact Jg q,j⟩
  .cases g
 | insert t m k x=>
  simp only[p,aA,ag]at g;obtain⟨S,C,g⟩:=g;split at g
  .simp only[ag,aD,aq]at g;obtain⟨kk,ly,X,hX,Y,F,Z,hZ,rfl⟩:=g;obtain⟨w',q,j⟩:=ZV (P:=P) h C ly (iM h B hX) (iM h B F) (iM h B hZ) A;exact⟨_,w',by simp only[execOp,p];exact Jg q,j⟩
  .cases g
 | makeSlice t l m=>
  simp only[p,aA,ag]at g;obtain⟨S,C,g⟩:=g;split at g
  .simp only[ag]at g;obtain⟨z,O,i,hi,g⟩:=g;split at g
   .rename_i T;simp only[ag,aD,aq]at g;obtain⟨X,hX,Y,F,rfl⟩:=g;obtain⟨v,w',q,j⟩:=amw (P:=P) h iq C hi O T.1 T.2 (iM h B hX) (iM h B F) A;exact⟨_,w',by simp only[execOp,p];exact jI q,j⟩
   .cases g
  .cases g
 | slice t x lo hi mx=>
  cases mx with
  | some r=>
   cases hi with
   | none=>simp[p]at g
   | some hi=>
    simp only[p,aA,ag]at g;obtain⟨X,hX,L,hL,M,hM,N,hN,S,C,g⟩:=g;split at g
    .simp only[ag,aD,aq]at g;obtain⟨n,E,rfl⟩:=g;obtain⟨v,q,j⟩:=amB (P:=P) h B C E hL hM hN (iM h B hX) A;exact⟨v,w,by simp only[execOp,p];exact jI q,j⟩
    .cases g
  | none=>
   simp only[p,aA,ag]at g;obtain⟨X,hX,L,hL,M,hM,g⟩:=g;have I:=iM h B hX;split at g
   .rename_i e C;simp only[ag,aD,aq]at g;obtain⟨n,E,rfl⟩:=g;obtain⟨v,q,j⟩:=amD (P:=P) h B C E hL hM I A;exact⟨v,w,by simp only[execOp,p];exact jI q,j⟩
   .rename_i C;cases g
    have hs:∃s,ev env X = .val (.string s):=by
     simp only[FO]at A;unfold EX at A;split at A
     .rename_i s e;exact⟨s,e⟩
     .exact A.elim
    obtain⟨s,hs⟩:=hs;simp only[FO]at A;rw[hs]at A I
    have Yu:a.eval x = .string s:=by generalize a.eval x=u at I;cases I;rfl
    obtain⟨v,q,j⟩:=amE (P:=P) h B C hL hM A;exact⟨v,w,by simp only[execOp,p,Yu];exact jI q,j⟩
   .rename_i m e C;simp only[ag,aD,aq]at g;obtain⟨n,E,rfl⟩:=g;obtain⟨v,q,j⟩:=amC (P:=P) h B C E hL hM I A;exact⟨v,w,by simp only[execOp,p];exact jI q,j⟩
   .cases g
 | fieldAddr t x f=>
  simp only[p,aA,ag]at g;obtain⟨X,hX,S,C,g⟩:=g;split at g
  .simp only[ag]at g;obtain⟨fd,hf,n,E,g⟩:=g;split at g
   .rename_i ke;cases g;obtain⟨v,q,j⟩:=aml (P:=P) h C hf E ke (iM h B hX) A;exact⟨v,w,by simp only[execOp,p];exact jI q,j⟩
   .cases g
  .cases g
 | field t x f=>
  simp only[p,aA,ag]at g;obtain⟨X,hX,S,C,g⟩:=g;split at g
  .simp only[ag,aD,aq]at g;obtain⟨fd,hf,n,E,b,J,rfl⟩:=g;obtain⟨v,q,j⟩:=amk (P:=P) h C hf J E (iM h B hX) A;exact⟨v,w,by simp only[execOp,p];exact jI q,j⟩
  .cases g
 | indexAddr t x i=>
  simp only[p,aA,ag]at g;obtain⟨X,hX,Y,F,g⟩:=g;split at g
  .rename_i e C;simp only[ag]at g;obtain⟨n,E,g⟩:=g;split at g
   .rename_i ke;cases g;obtain⟨v,q,j⟩:=amn (P:=P) h C E ke (iM h B hX) (iM h B F) A;exact⟨v,w,by simp only[execOp,p];exact jI q,j⟩
   .cases g
  .rename_i m e C;simp only[ag,aD,aq]at g;obtain⟨n,E,rfl⟩:=g;obtain⟨v,q,j⟩:=amo (P:=P) h C E (iM h B hX) (iM h B F) A;exact⟨v,w,by simp only[execOp,p];exact jI q,j⟩
  .cases g
 | index t x i=>
  simp only[p,aA,ag]at g;obtain⟨X,hX,Y,F,g⟩:=g;split at g
  .rename_i m e C;simp only[ag,aD,aq]at g;obtain⟨n,E,b,J,rfl⟩:=g;obtain⟨v,q,j⟩:=amm (P:=P) h C E J (iM h B hX) (iM h B F) A;exact⟨v,w,by simp only[execOp,p];exact jI q,j⟩
  .rename_i C;cases g;obtain⟨v,q,j⟩:=amp (P:=P) h C (iM h B hX) (iM h B F) A;exact⟨v,w,by simp only[execOp,p];exact jI q,j⟩
  .cases g
 | extract x i=>
  simp only[p,aA,ag,aD,aq]at g;obtain⟨X,hX,rfl⟩:=g;obtain⟨v,q,j⟩:=amj (P:=P) h (iM h B hX) A;exact⟨v,w,by simp only[execOp,p];exact jI q,j⟩
 | call cl=>
  simp only[p,aA,ag]at g;obtain⟨args,tH,g⟩:=g;have D:=A1 h B cl.args.toList tH;split at g
  .split at g
   .cases g;split at A<;>exact(show False from A).elim
   .cases g
  .simp only[ag,aD,aq]at g;obtain⟨X,hX,rfl⟩:=g;exact(show False from A).elim
  .rename_i R;split at g
   .rename_i t u x y kY;have V:cl.argTypes = #[t,u]:=by rw[<-bP (xs:=cl.argTypes),kY]
    obtain⟨vs,W,D⟩:=Tp D;simp only[List.map_cons,List.map_nil]at D
    cases D with|cons I D=>cases D with|cons Q D=>cases D with|nil=>
    simp only[ag]at g;obtain⟨S,C,g⟩:=g;split at g
    .simp only[ag]at g;obtain⟨i,hi,z,O,ud,N3,g⟩:=g;split at g
     .split at g
      .rename_i T;cases g;obtain⟨v,w',q,j⟩:=al5 (P:=P) (ty:=o.type) h iq C ⟨_,N3⟩ hi O T.1 T.2 I Q A;exact⟨v,w',by rw[xx p R,W,V];exact jI q,j⟩
      .cases g
     .cases g
    .cases g
   .cases g
  .rename_i R;split at g
   .rename_i t u x y kY;have V:cl.argTypes = #[t,u]:=by rw[<-bP (xs:=cl.argTypes),kY]
    obtain⟨vs,W,D⟩:=Tp D;simp only[List.map_cons,List.map_nil]at D
    cases D with|cons I D=>cases D with|cons Q D=>cases D with|nil=>
    simp only[ag]at g;obtain⟨S,C,g⟩:=g;split at g
    .simp only[ag]at g;obtain⟨ud,N3,g⟩:=g;split at g
     .simp only[ag]at g;obtain⟨n,E,g⟩:=g;split at g
      .rename_i ke;cases g;obtain⟨v,w',q,j⟩:=amg (P:=P) (u:=u) (ty:=o.type) h C E ke I Q A;exact⟨v,w',by rw[xx p R,W,V];exact jI q,j⟩
      .cases g
     .cases g
    .cases g
   .cases g
  .rename_i R;split at g
   .rename_i t x kY;have V:cl.argTypes = #[t]:=by rw[<-bP (xs:=cl.argTypes),kY]
    obtain⟨vs,W,D⟩:=Tp D;simp only[List.map_cons,List.map_nil]at D
    cases D with|cons I D=>cases D with|nil=>
    split at g
    .rename_i e C;cases g;obtain⟨v,q,j⟩:=S7 (P:=P) (ty:=o.type) (k:=.slice) h C ⟨e,rfl⟩ I A;exact⟨v,w,by rw[xx p R,W,V];exact jI q,j⟩
    .rename_i C;cases g;obtain⟨v,q,j⟩:=S7 (P:=P) (ty:=o.type) (k:=.string) h C rfl I A;exact⟨v,w,by rw[xx p R,W,V];exact jI q,j⟩
    .rename_i k e C;cases g;obtain⟨v,q,j⟩:=S7 (P:=P) (ty:=o.type) (k:=.map) h C ⟨k,e,rfl⟩ I A;exact⟨v,w,by rw[xx p R,W,V];exact jI q,j⟩
    .cases g
   .cases g
  .rename_i R;cases g;obtain⟨v,q,j⟩:=ZX (P:=P) h B tH true cl.argTypes o.type A;exact⟨v,w,by rw[xx p R];exact jI (by simpa using q),j⟩
  .rename_i R;cases g;obtain⟨v,q,j⟩:=ZX (P:=P) h B tH false cl.argTypes o.type A;exact⟨v,w,by rw[xx p R];exact jI (by simpa using q),j⟩
  .cases g
 | _=>simp[p]at g
end
end Go.AL
namespace Go.AL
open Go
def N8:Int->Bool
 | .ofNat m=>Nat.ble m 9223372036854775807
 | .negSucc m=>Nat.ble m 9223372036854775807
theorem agx(n:Int):N8 n=true↔oq n:=by
 unfold oq
 cases n with
 | ofNat m=>
  have e:N8 (.ofNat m)=Nat.ble m 9223372036854775807:=rfl;rw[e,Nat.ble_eq];have:(Int.ofNat m)=(m:Int):=rfl;omega
 | negSucc m=>
  have e:N8 (.negSucc m)=Nat.ble m 9223372036854775807:=rfl;rw[e,Nat.ble_eq];have:Int.negSucc m = -((m:Int)+1):=Int.negSucc_eq m;omega
instance(n:Int):Decidable (oq n):=decidable_of_iff (N8 n=true) (agx n)
def Oe(k:Nat):Int->Bool
 | .ofNat m=>Nat.ble m k
 | .negSucc _=>true
def rm(n:Int)(k:Nat):Prop:=n<=(k:Int)
theorem ag3(n:Int)(k:Nat):Oe k n=true↔rm n k:=by
 unfold rm
 cases n with
 | ofNat m=>
  have e:Oe k (.ofNat m)=Nat.ble m k:=rfl;rw[e,Nat.ble_eq];have:(Int.ofNat m)=(m:Int):=rfl;omega
 | negSucc m=>
  have e:Oe k (.negSucc m)=true:=rfl;rw[e];have:Int.negSucc m = -((m:Int)+1):=Int.negSucc_eq m;simp only[true_iff];omega
instance(n:Int)(k:Nat):Decidable (rm n k):=decidable_of_iff (Oe k n=true) (ag3 n k)
inductive Dl where
 | no
 | cells (v o:Nat) (xs:List D)
 | obj (v:Nat) (ob:Ob)
 | new (ob:Ob)
 deriving Inhabited
def Dl.app(H:U)(al:Al):Dl->U
 | .no=>H
 | .cells v o xs=>match H[v]? with
  | some (.row t g cs)=>H.set v (.row t g (cs.take o++xs++cs.drop (o+xs.length)))
  | _=>H
 | .obj v ob=>H.set v ob
 | .new ob=>al.2 ob
abbrev R:=Option (D×Dl)
def ret(d:D):R:=some (d,.no)
def jU(op:BinOp)(k:IntKind)(a b:Int):Option D:=
 match op with
 | .add=>if k = .i64 then(if oq (a+b)then some (.val (.int .i64 (a+b)))else none)else some (.val (.int k (k.wrap (a+b))))
 | .sub=>if k = .i64 then(if oq (a-b)then some (.val (.int .i64 (a-b)))else none)else some (.val (.int k (k.wrap (a-b))))
 | .mul=>if k = .i64 then(if oq (a*b)then some (.val (.int .i64 (a*b)))else none)else some (.val (.int k (k.wrap (a*b))))
 | .quo=>if b=0 then none else some (.val (.int k (k.wrap (a.tdiv b))))
 | .rem=>if b=0 then none else some (.val (.int k (a.tmod b)))
 | .and | .or | .xor | .andNot=>some (.val (.int k (bits op k a b)))
 | .eql=>some (.val (.bool (a == b)))
 | .neq=>some (.val (.bool (a != b)))
 | .lss=>some (.val (.bool (decide (a<b))))
 | .leq=>some (.val (.bool (decide (a<=b))))
 | .gtr=>some (.val (.bool (decide (a>b))))
 | .geq=>some (.val (.bool (decide (a>=b))))
 | _=>none
def TH(op:BinOp)(k:IntKind)(a b:Int):Option D:=
 match op with
 | .shl=>if 0<=b then some (.val (.int k (k.wrap (a*2 ^ (min b.toNat k.bits)))))else none
 | .shr=>if 0<=b then some (.val (.int k (a.fdiv (2 ^ (min b.toNat k.bits)))))else none
 | _=>none
def E5(op:BinOp)(a b:ByteArray):Option D:=
 match op with
 | .eql=>some (.val (.bool (a.data.toList == b.data.toList)))
 | .neq=>some (.val (.bool (!(a.data.toList == b.data.toList))))
 | .add=>if rm ((a.size+b.size:Nat):Int) 9223372036854775807 then some (.val (.string (a++b)))else none
 | _=>none
def kW(op:BinOp)(x y:D):Option D:=
 match x,y with
 | .val (.int k a),.val (.int k' b)=>if p7 op then TH op k a b else if k=k' then jU op k a b else none
 | .val (.string a),.val (.string b)=>E5 op a b
 | _,_=>none
def E9(op:UnOp)(x:D):Option D:=
 match op,x with
 | .not,.val (.bool b)=>some (.val (.bool (!b)))
 | .neg,.val (.int .i64 n)=>if oq (-n)then some (.val (.int .i64 (-n)))else none
 | .xor,.val (.int k n)=>some (.val (.int k (bits .xor k (if k.signed then -1 else k.max) n)))
 | _,_=>none
def Bd(c:Bool)(ls:List mB)(neg:Bool)(x y:D):Option D:=
 match c,x,y with
 | true,.agg a,.agg b=>match mL ls a b with
  | some r=>some (.val (.bool (if neg then !r else r)))
  | none=>none
 | false,x,y=>match mL ls [x] [y]with
  | some r=>some (.val (.bool (if neg then !r else r)))
  | none=>none
 | _,_,_=>none
def Cp(c a b:D):Option D:=
 match c with
 | .val (.bool x)=>some (if x then a else b)
 | _=>none
def xm(x:D)(H:U):Option D:=
 match x with
 | .ptr v g o=>match rowAt H v g with
  | some (_,cs)=>cs[o]?
  | none=>none
 | .gu cs=>cs[0]?
 | _=>none
def wg(n:Nat)(x:D)(H:U):Option D:=
 match x with
 | .ptr v g o=>match rowAt H v g with
  | some (_,cs)=>if o+n<=cs.length then some (.agg ((cs.drop o).take n))else none
  | none=>none
 | .gu cs=>if n<=cs.length then some (.agg (cs.take n))else none
 | _=>none
def CM(a x:D)(H:U):R:=
 match a with
 | .ptr v g o=>match rowAt H v g with
  | some (_,cs)=>if o<cs.length/\one x=true then some (.any,.cells v o [x])else none
  | none=>none
 | _=>none
def CP(n:Nat)(a x:D)(H:U):R:=
 match a,cellsOf x with
 | .ptr v g o,some xs=>match rowAt H v g with
  | some (_,cs)=>if xs.length=n/\o+n<=cs.length then some (.any,.cells v o xs)else none
  | none=>none
 | _,_=>none
def rK(t:TypeId)(x:D)(n:Nat):R:=
 match cellsOf x with
 | some cs=>some (.ptr n 0 0,.new (.row t 0 cs))
 | none=>none
def Dq(env:gP)(z:List D)(ps:List (Nat×Nat×X)):Option D:=
 match partsOf env ps with
 | some l=>match lay l z with
  | some cs=>some (.agg cs)
  | none=>none
 | none=>none
def zn(env:gP)(t sz:Nat)(z:List D)(m:Nat)(ps:List (Nat×X))(n:Nat):R:=
 match partsOf env (ps.map λp=>(p.1*sz,sz,p.2))with
 | some l=>match lay l (List.replicate m z).flatten with
  | some cs=>some (.fY n 0 sz 0 m,.new (.row t 0 cs))
  | none=>none
 | none=>none
def Gv(off:Nat)(x:D):Option D:=
 match x with
 | .ptr v g o=>some (.ptr v g (o+off))
 | .gu cs=>some (.gu (cs.drop off))
 | _=>none
def Bk(off n:Nat)(a:Bool)(x:D):Option D:=
 match x with
 | .agg cs=>if a then(if off+n<=cs.length then some (.agg ((cs.drop off).take n))else none)else cs[off]?
 | _=>none
def mH(sz:Nat)(x i:D):Option D:=
 match x,i with
 | .sl gU es,.val (.int _ n)=>if gU=sz/\0<=n/\n<es.length then some (.gu (es.getD n.toNat []))else none
 | .l4 vs,.val (.int _ n)=>if 1=sz/\0<=n/\n<vs.length then some (.gu [.val (vs.getD n.toNat undef)])else none
 | .fY v g gU off len,.val (.int _ n)=>if gU=sz/\0<=n/\n<len then some (.ptr v g ((off+n.toNat)*sz))else none
 | _,_=>none
def HT(sz n:Nat)(x i:D):Option D:=
 match x,i with
 | .ptr v g o,.val (.int _ k)=>if 0<=k/\k<n then some (.ptr v g (o+k.toNat*sz))else none
 | .gu cs,.val (.int _ k)=>if 0<=k/\k<n then some (.gu (cs.drop (k.toNat*sz)))else none
 | _,_=>none
def N9(sz n:Nat)(a:Bool)(x i:D):Option D:=
 match x,i with
 | .agg cs,.val (.int _ k)=>if 0<=k/\k<n then Bk (k.toNat*sz) sz a (.agg cs)else none
 | _,_=>none
def Sj(x i:D):Option D:=
 match x,i with
 | .val (.string s),.val (.int _ k)=>if 0<=k/\k<s.size then some (.val (.int .u8 ((s.data.toList.getD k.toNat 0).toNat)))else none
 | _,_=>none
def Cb(a:KK)(z:D)(ok:Bool)(m k:D)(H:U):Option D:=
 match m,keyOf k with
 | .gD v,some kv=>match lM H v with
  | some (kk,es)=>if kk=a/\kk.has kv=true then(match rr es kv with
    | some d=>some (if ok then .tup [d,.val (.bool true)]else d)
    | none=>some (if ok then .tup [z,.val (.bool false)]else z))else none
  | none=>none
 | _,_=>none
def Ar(a:KK)(m k x:D)(H:U):R:=
 match m,keyOf k with
 | .gD v,some kv=>match lM H v with
  | some (kk,es)=>if kk=a/\kk.has kv=true then some (.any,.obj v (.map kk (mu es kv x)))else none
  | none=>none
 | _,_=>none
def Na(x:D)(i:Nat):Option D:=
 match x with
 | .tup ds=>ds[i]?
 | _=>none
def EC(t sz bytes:Nat)(z:List D)(l c:D)(v:Nat):R:=
 match l,c with
 | .val (.int _ n),.val (.int _ m)=>if 0<=n/\n<=m/\rm m 9223372036854775807/\rm ((bytes:Int)*m) 281474976710656 then some (.fY v 0 sz 0 n.toNat,.new (.row t 0 (List.replicate m.toNat z).flatten))else none
 | _,_=>none
def tq(env:gP)(sz:Nat)(x:D)(lo hi:Option X):Option D:=
 match x with
 | .sl a es=>match ig env lo 0,ig env hi es.length with
  | some l,some h=>if a=sz/\0<=l/\l<=h/\h<=es.length then some (.sl sz ((es.drop l.toNat).take (h.toNat-l.toNat)))else none
  | _,_=>none
 | .fY v g a off len=>match ig env lo 0,ig env hi len with
  | some l,some h=>if a=sz/\0<=l/\l<=h/\h<=len then some (.fY v g sz (off+l.toNat) (h.toNat-l.toNat))else none
  | _,_=>none
 | .gg=>match ig env lo 0,ig env hi 0 with
  | some l,some h=>if l=0/\h=0 then some .gg else none
  | _,_=>none
 | _=>none
def yT(env:gP)(sz:Nat)(x:D)(lo:Option X)(hi mx:X):Option D:=
 match ig env lo 0,ig env (some hi) 0,ig env (some mx) 0 with
 | some l,some h,some m=>match x with
  | .sl a es=>if a=sz/\0<=l/\l<=h/\h=m/\m<=es.length then some (clip sz ((es.drop l.toNat).take (h.toNat-l.toNat)))else none
  | .fY v g a off len=>if a=sz/\0<=l/\l<=h/\h<=m/\m<=len then some (.fY v g sz (off+l.toNat) (h.toNat-l.toNat))else none
  | .gg=>if l=0/\h=0/\m=0 then some .gg else none
  | _=>none
 | _,_,_=>none
def AM(env:gP)(sz n:Nat)(x:D)(lo hi:Option X)(H:U):Option D:=
 match x,ig env lo 0,ig env hi n with
 | .gu cs,some l,some h=>if sz=1/\n<=cs.length/\n<=16777216/\0<=l/\l<=h/\h<=n then some (.sl 1 (((cs.drop l.toNat).take (h.toNat-l.toNat)).map λd=>[d]))else none
 | .ptr v g o,some l,some h=>match rowAt H v g with
  | some (_,cs)=>if o % sz=0/\o+n*sz<=cs.length/\n<=16777216/\0<=l/\l<=h/\h<=n then some (.fY v g sz (o / sz+l.toNat) (h.toNat-l.toNat))else none
  | none=>none
 | _,_,_=>none
def O7(env:gP)(x:D)(lo hi:Option X):Option D:=
 match x with
 | .val (.string s)=>match ig env lo 0,ig env hi s.size with
  | some l,some h=>if 0<=l/\l<=h/\h<=s.size then some (.val (.string (s.extract l.toNat h.toNat)))else none
  | _,_=>none
 | _=>none
def sW(t sz bytes:Nat)(x y:D)(H:U)(a:Nat):R:=
 match kS sz H y with
 | some (ys,n)=>match x with
  | .fY v g b off len=>match rowAt H v g with
   | some (t',cs)=>if b=sz/\t'=t/\(off+len)*sz<=cs.length/\(len+n)*bytes<=140737488355328/\len+n<=9223372036854775807 then
     some (.fY v (g+1) sz 0 (len+n),.obj v (.row t (g+1) ((cs.drop (off*sz)).take (len*sz)++ys)))else none
   | none=>none
  | .l4 vs=>if n≠0/\sz=1/\(vs.length+n)*bytes<=140737488355328/\vs.length+n<=9223372036854775807 then some (.fY a 0 sz 0 (vs.length+n),.new (.row t 0 (vs.map .val++ys)))else none
  | .gg=>if n=0 then some (.gg,.no)else if n*bytes<=140737488355328/\n<=9223372036854775807 then some (.fY a 0 sz 0 n,.new (.row t 0 ys))else none
  | _=>none
 | none=>none
def zy(sz:Nat)(x y:D)(H:U):R:=
 match x,kS sz H y with
 | .fY v g gU off len,some (ys,n)=>match rowAt H v g with
  | some (t,cs)=>if gU=sz/\(off+len)*sz<=cs.length then
    some (.val (.int .i64 (min n len:Nat)),.obj v (.row t g (cs.take (off*sz)++ys.take (min n len*sz)++cs.drop (off*sz+min n len*sz))))else none
  | none=>none
 | .gg,some _=>some (.val (.int .i64 0),.no)
 | _,_=>none
def mX(k:AV)(x:D)(H:U):Option D:=
 match k,x with
 | .slice,.sl _ es=>some (.val (.int .i64 es.length))
 | .slice,.gg=>some (.val (.int .i64 0))
 | .slice,.l4 vs=>some (.val (.int .i64 vs.length))
 | .slice,.fY _ _ _ _ len=>some (.val (.int .i64 len))
 | .string,.val (.string s)=>some (.val (.int .i64 s.size))
 | .map,.gD v=>match lM H v with
  | some (_,es)=>some (.val (.int .i64 es.length))
  | none=>none
 | _,_=>none
def EB(env:gP)(d:Bool)(xs:List X):Option D:=
 match r9 env xs with
 | some [a,b]=>some (.val (.int .i64 (if d then max a b else min a b)))
 | some [a,b,c]=>some (.val (.int .i64 (if d then max (max a b) c else min (min a b) c)))
 | _=>none
def Ci(x:D):Option D:=
 match x with
 | .ptr v g o=>some (.ptr v g o)
 | .gu cs=>some (.gu cs)
 | .fn (.func f) a b=>some (.fn (.func f) a b)
 | .iT v=>some (.iT v)
 | _=>none
def MQ(k:IntKind)(x:D):Option D:=
 match x with
 | .val (.int _ n)=>some (.val (.int k (k.wrap n)))
 | _=>none
def Dn(x:D)(H:U):Option D:=
 match kS 1 H x with
 | some (ys,_)=>match bytesOf ys with
  | some a=>some (.val (.string (a.foldl (λr n=>r.push (UInt8.ofNat n.toNat)) ByteArray.empty)))
  | none=>none
 | none=>none
def lift:Option D->R
 | some d=>some (d,.no)
 | none=>none
def gN(env:gP)(H:U)(n:Nat):iL->R
 | .mv x=>lift (some (ev env x))
 | .pick c a b=>lift (Cp (ev env c) (ev env a) (ev env b))
 | .box t x=>rK t (ev env x) n
 | .alloc t z=>some (.ptr n 0 0,.new (.row t 0 z))
 | .build z ps=>lift (Dq env z ps)
 | .buildSl t sz z m ps=>zn env t sz z m ps n
 | .ld1 x=>lift (xm (ev env x) H)
 | .ldN m x=>lift (wg m (ev env x) H)
 | .st1 a x=>CM (ev env a) (ev env x) H
 | .stN m a x=>CP m (ev env a) (ev env x) H
 | .nilck x=>lift (Ci (ev env x))
 | .arith op x y=>lift (kW op (ev env x) (ev env y))
 | .eqS e ls neg x y=>lift (Bd e ls neg (ev env x) (ev env y))
 | .un op x=>lift (E9 op (ev env x))
 | .conv k x=>lift (MQ k (ev env x))
 | .b2s x=>lift (Dn (ev env x) H)
 | .mkfn f first cap=>lift (some (.fn f (first.map (ev env)) (cap.map (ev env))))
 | .mkmap kk=>some (.gD n,.new (.map kk []))
 | .mksl t sz bytes z l c=>EC t sz bytes z (ev env l) (ev env c) n
 | .slc sz x lo hi=>lift (tq env sz (ev env x) lo hi)
 | .slcS x lo hi=>lift (O7 env (ev env x) lo hi)
 | .slc3 sz x lo hi mx=>lift (yT env sz (ev env x) lo hi mx)
 | .slcArr sz n x lo hi=>lift (AM env sz n (ev env x) lo hi H)
 | .fieldA off x=>lift (Gv off (ev env x))
 | .field off m e x=>lift (Bk off m e (ev env x))
 | .idxA sz x i=>lift (mH sz (ev env x) (ev env i))
 | .idxArr sz m x i=>lift (HT sz m (ev env x) (ev env i))
 | .idx sz m e x i=>lift (N9 sz m e (ev env x) (ev env i))
 | .idxStr x i=>lift (Sj (ev env x) (ev env i))
 | .lookup kk z ok m k=>lift (Cb kk z ok (ev env m) (ev env k) H)
 | .mapUpd kk m k x=>Ar kk (ev env m) (ev env k) (ev env x) H
 | .ext x i=>lift (Na (ev env x) i)
 | .call _ _ | .callN _ _ | .callv _ _=>none
 | .app t sz bytes x y=>sW t sz bytes (ev env x) (ev env y) H n
 | .copy sz x y=>zy sz (ev env x) (ev env y) H
 | .len k x=>lift (mX k (ev env x) H)
 | .minmax d xs=>lift (EB env d xs)
 | .nilS .. | .capE .. | .appZ .. | .clr .. | .rangeS .. | .nextS .. | .rangeM .. | .nextM .. | .entry .. | .mapEnt .. | .entSt .. => none
section
variable{env:gP}{H:U}{al:Al}{d:D}{δ:Dl}{K:jE}
theorem amR{a b c:D}(h:Cp a b c=some d)(e:K d H):Iv a b c H K:=by unfold Cp at h;unfold Iv;(repeat' split at h)<;>simp_all
theorem ag0{x:D}(h:xm x H=some d)(a:K d H):HZ x H K:=by unfold xm at h;unfold HZ;(repeat' split at h)<;>simp_all
theorem ag1{n:Nat}{x:D}(h:wg n x H=some d)(a:K d H):H6 n x H K:=by unfold wg at h;unfold H6;(repeat' split at h)<;>simp_all
theorem acd{z:List D}{ps:List (Nat×Nat×X)}(h:Dq env z ps=some d)(a:K d H):AZ env z ps H K:=by unfold Dq at h;unfold AZ;(repeat' split at h)<;>simp_all
theorem ahM{x:D}(h:Ci x=some d)(a:K d H):Im x H K:=by unfold Ci at h;unfold Im;(repeat' split at h)<;>simp_all
theorem aoB{op:UnOp}{x:D}(h:E9 op x=some d)(a:K d H):Ja op x H K:=by unfold E9 at h;unfold Ja;(repeat' split at h)<;>simp_all
theorem adw{b:Bool}{ls:List mB}{neg:Bool}{x y:D}(h:Bd b ls neg x y=some d)(a:K d H):wT b ls neg x y H K:=by unfold Bd at h;unfold wT;(repeat' split at h)<;>simp_all
theorem acW{k:IntKind}{x:D}(h:MQ k x=some d)(a:K d H):Ge k x H K:=by unfold MQ at h;unfold Ge;(repeat' split at h)<;>simp_all
theorem ab0{x:D}(h:Dn x H=some d)(a:K d H):FV x H K:=by unfold Dn at h;unfold FV;(repeat' split at h)<;>simp_all
theorem an6{sz:Nat}{x:D}{lo hi:Option X}(h:tq env sz x lo hi=some d)(a:K d H):IW env sz x lo hi H K:=by unfold tq at h;unfold IW;(repeat' split at h)<;>simp_all
theorem an2{sz:Nat}{x:D}{lo:Option X}{hi mx:X}(h:yT env sz x lo hi mx=some d)(a:K d H):IU env sz x lo hi mx H K:=by unfold yT at h;unfold IU;(repeat' split at h)<;>simp_all<;>omega
theorem an4{sz n:Nat}{x:D}{lo hi:Option X}(h:AM env sz n x lo hi H=some d)(a:K d H):IV env sz n x lo hi H K:=by unfold AM at h;unfold IV;(repeat' split at h)<;>simp_all
theorem an5{x:D}{lo hi:Option X}(h:O7 env x lo hi=some d)(a:K d H):EX env x lo hi H K:=by unfold O7 at h;unfold EX;(repeat' split at h)<;>simp_all
theorem ae4{off:Nat}{x:D}(h:Gv off x=some d)(a:K d H):Gu off x H K:=by unfold Gv at h;unfold Gu;(repeat' split at h)<;>simp_all
theorem Ww{off n:Nat}{b:Bool}{x:D}(h:Bk off n b x=some d)(a:K d H):Bj off n b x H K:=by unfold Bk at h;unfold Bj;(repeat' split at h)<;>simp_all
theorem agy{sz:Nat}{x i:D}(h:mH sz x i=some d)(a:K d H):HR sz x i H K:=by unfold mH at h;unfold HR;(repeat' split at h)<;>simp_all
theorem agA{sz n:Nat}{x i:D}(h:HT sz n x i=some d)(a:K d H):HS sz n x i H K:=by unfold HT at h;unfold HS;(repeat' split at h)<;>simp_all
theorem agB{x i:D}(h:Sj x i=some d)(a:K d H):HV x i H K:=by unfold Sj at h;unfold HV;(repeat' split at h)<;>simp_all
theorem ahl{kk:KK}{z:D}{ok:Bool}{m k:D}(h:Cb kk z ok m k H=some d)(b:K d H):Ia kk z ok m k H K:=by
 unfold Cb at h;unfold Ia;split at h
 .split at h
  .split at h
   .rename_i c;obtain⟨rfl,c⟩:=c;simp only[*,true_and];split at h
    .rename_i a;cases h;simp only[a];exact b
    .rename_i a;cases h;simp only[a];exact b
   .cases h
  .cases h
 .cases h
theorem ady{x:D}{i:Nat}(h:Na x i=some d)(a:K d H):Gp x i H K:=by unfold Na at h;unfold Gp;(repeat' split at h)<;>simp_all
theorem ag9{k:AV}{x:D}(h:mX k x H=some d)(a:K d H):H7 k x H K:=by unfold mX at h;unfold H7;(repeat' split at h)<;>simp_all
theorem ahD{b:Bool}{xs:List X}(h:EB env b xs=some d)(a:K d H):Ii env b xs H K:=by unfold EB at h;unfold Ii;(repeat' split at h)<;>simp_all
theorem abT{op:BinOp}{k:IntKind}{a b:Int}(h:jU op k a b=some d)(c:K d H):FQ op k a b H K:=by unfold jU at h;unfold FQ;(repeat' split at h)<;>simp_all
theorem an0{op:BinOp}{k:IntKind}{a b:Int}(h:TH op k a b=some d)(c:K d H):IT op k a b H K:=by unfold TH at h;unfold IT;(repeat' split at h)<;>simp_all
theorem aou{op:BinOp}{a b:ByteArray}(h:E5 op a b=some d)(c:K d H):Pc op a b H K:=by unfold E5 at h;unfold Pc;(repeat' split at h)<;>simp_all [rm]
theorem ab8{t:TypeId}{x:D}(h:rK t x al.1=some (d,δ))(a:K d (δ.app H al)):FZ t x al K:=by unfold rK at h;unfold FZ;(repeat' split at h)<;>cases h<;>simp_all [Dl.app]
theorem acb{t sz:Nat}{z:List D}{m:Nat}{ps:List (Nat×X)}(h:zn env t sz z m ps al.1=some (d,δ))(a:K d (δ.app H al)):F0 env t sz z m ps al K:=by unfold zn at h;unfold F0;(repeat' split at h)<;>cases h<;>simp_all [Dl.app]
theorem IL{v g:Nat}{x:TypeId×List D}(h:rowAt H v g=some x):H[v]? = some (.row x.1 g x.2):=by
 unfold rowAt at h;split at h
 .split at h
  .rename_i e;subst e;cases h;assumption
  .cases h
 .cases h
theorem aoo{a x:D}(h:CM a x H=some (d,δ))(c:K d (δ.app H al)):I0 a x H K:=by
 unfold CM at h;unfold I0;split at h
 .split at h
  .rename_i v g o _ t cs f;split at h
   .rename_i b;cases h;simp only[f];refine⟨b.1,b.2,?_⟩;simp only[Dl.app,IL f]at c
    have e:cs.set o x=cs.take o ++ [x]++cs.drop (o + [x].length):=by rw[bY,if_pos b.1];simp
    rw[e];exact c
   .cases h
  .cases h
 .cases h
theorem aoq{n:Nat}{a x:D}(h:CP n a x H=some (d,δ))(b:K d (δ.app H al)):I1 n a x H K:=by
 unfold CP at h;unfold I1;split at h
 .split at h
  .rename_i v g o xs _ _ t cs e;split at h
   .rename_i c;cases h;simp only[*];refine⟨trivial,trivial,?_⟩;simp only[Dl.app,IL e]at b;rw[c.1]at b;exact b
   .cases h
  .cases h
 .cases h
theorem ahF{t sz bytes:Nat}{z:List D}{l c:D}(h:EC t sz bytes z l c al.1=some (d,δ))(a:K d (δ.app H al)):Ij t sz bytes z l c al K:=by unfold EC at h;unfold Ij;(repeat' split at h)<;>cases h<;>simp_all [Dl.app,rm]
theorem ahA{kk:KK}{m k x:D}(h:Ar kk m k x H=some (d,δ))(b:K d (δ.app H al)):Ie kk m k x H K:=by
 unfold Ar at h;unfold Ie;split at h
 .split at h
  .split at h
   .rename_i a;obtain⟨rfl,a⟩:=a;cases h;simp only[*,true_and];exact b
   .cases h
  .cases h
 .cases h
theorem abQ{t sz bytes:Nat}{x y:D}(h:sW t sz bytes x y H al.1=some (d,δ))(a:K d (δ.app H al)):FP t sz bytes x y H al K:=by unfold sW at h;unfold FP;(repeat' split at h)<;>cases h<;>simp_all [Dl.app]
theorem acY{sz:Nat}{x y:D}(h:zy sz x y H=some (d,δ))(a:K d (δ.app H al)):Gh sz x y H K:=by unfold zy at h;unfold Gh;(repeat' split at h)<;>cases h<;>simp_all [Dl.app]
theorem ab5{op:BinOp}{x y:D}(h:kW op x y=some d)(a:K d H):FX op x y H K:=by
 unfold kW at h;unfold FX;split at h
 .split at h
  .rename_i hs;simp only[hs,if_true];exact an0 h a
  .rename_i hs;simp only[hs];split at h
   .rename_i e;exact⟨e,abT h a⟩
   .cases h
 .exact aou h a
 .cases h
theorem agC{sz n:Nat}{b:Bool}{x i:D}(h:N9 sz n b x i=some d)(a:K d H):HU sz n b x i H K:=by
 unfold N9 at h;unfold HU;split at h
 .split at h
  .rename_i c;exact⟨c,Ww h a⟩
  .cases h
 .cases h
theorem mr{o:Option D}(h:lift o=some (d,δ)):o=some d/\δ = .no:=by cases o<;>simp[lift]at h;exact⟨by rw[h.1],h.2.symm⟩
theorem UR{c:iL}(h:gN env H al.1 c=some (d,δ))(b:K d (δ.app H al)):FO env H al K c:=by
 cases c<;>simp only[gN]at h<;>simp only[FO]
 case mv=>obtain⟨a,rfl⟩:=mr h;cases a;exact b
 case mkfn=>obtain⟨a,rfl⟩:=mr h;cases a;exact b
 case alloc=>cases h;exact b
 case mkmap=>cases h;exact b
 case call=>cases h
 case callN=>cases h
 case callv=>cases h
 case nilS=>cases h
 case capE=>cases h
 case appZ=>cases h
 case clr=>cases h
 case rangeS=>cases h
 case nextS=>cases h
 case rangeM=>cases h
 case nextM=>cases h
 case entry=>cases h
 case mapEnt=>cases h
 case entSt=>cases h
 case box=>exact ab8 h b
 case buildSl=>exact acb h b
 case st1=>exact aoo h b
 case stN=>exact aoq h b
 case mksl=>exact ahF h b
 case mapUpd=>exact ahA h b
 case app=>exact abQ h b
 case copy=>exact acY h b
 case pick=>obtain⟨a,rfl⟩:=mr h;exact amR a b
 case build=>obtain⟨a,rfl⟩:=mr h;exact acd a b
 case ld1=>obtain⟨a,rfl⟩:=mr h;exact ag0 a b
 case ldN=>obtain⟨a,rfl⟩:=mr h;exact ag1 a b
 case nilck=>obtain⟨a,rfl⟩:=mr h;exact ahM a b
 case arith=>obtain⟨a,rfl⟩:=mr h;exact ab5 a b
 case eqS=>obtain⟨a,rfl⟩:=mr h;exact adw a b
 case un=>obtain⟨a,rfl⟩:=mr h;exact aoB a b
 case conv=>obtain⟨a,rfl⟩:=mr h;exact acW a b
 case b2s=>obtain⟨a,rfl⟩:=mr h;exact ab0 a b
 case slc=>obtain⟨a,rfl⟩:=mr h;exact an6 a b
 case slc3=>obtain⟨a,rfl⟩:=mr h;exact an2 a b
 case slcArr=>obtain⟨a,rfl⟩:=mr h;exact an4 a b
 case slcS=>obtain⟨a,rfl⟩:=mr h;exact an5 a b
 case fieldA=>obtain⟨a,rfl⟩:=mr h;exact ae4 a b
 case field=>obtain⟨a,rfl⟩:=mr h;exact Ww a b
 case idxA=>obtain⟨a,rfl⟩:=mr h;exact agy a b
 case idxArr=>obtain⟨a,rfl⟩:=mr h;exact agA a b
 case idx=>obtain⟨a,rfl⟩:=mr h;exact agC a b
 case idxStr=>obtain⟨a,rfl⟩:=mr h;exact agB a b
 case lookup=>obtain⟨a,rfl⟩:=mr h;exact ahl a b
 case ext=>obtain⟨a,rfl⟩:=mr h;exact ady a b
 case len=>obtain⟨a,rfl⟩:=mr h;exact ag9 a b
 case minmax=>obtain⟨a,rfl⟩:=mr h;exact ahD a b
end
end Go.AL
namespace Go.AL
open Go
mutual
def flat:D->Bool
 | .any | .val _ | .gg=>true
 | .agg cs | .tup cs=>tF cs
 | .sl _ es=>es.isEmpty
 | _=>false
def tF:List D->Bool
 | []=>true
 | d::ds=>flat d&&tF ds
end
def chunks(sz:Nat):Nat->List D->List (List D)
 | 0,_=>[]
 | n+1,cs=>cs.take sz::chunks sz n (cs.drop sz)
def gq(ρ:Nat->Option Nat)(H:U):Nat->D->D
 | 0,d=>if closed d then d else .any
 | k+1,d=>if closed d then d else match d with
  | .agg cs=>.agg (cs.map (gq ρ H k))
  | .tup cs=>.tup (cs.map (gq ρ H k))
  | .sl sz es=>.sl sz (es.map (·.map (gq ρ H k)))
  | .gu cs=>.gu (cs.map (gq ρ H k))
  | .fn f a b=>.fn f (a.map (gq ρ H k)) (b.map (gq ρ H k))
  | .fY v g sz off len=>match ρ v with
   | some v'=>.fY v' g sz off len
   | none=>match rowAt H v g with
    | some (_,cs)=>if (off+len)*sz<=cs.length then .sl sz (chunks sz len ((cs.drop (off*sz)).map (gq ρ H k)))else .any
    | none=>.any
  | .ptr v g off=>match ρ v with
   | some v'=>.ptr v' g off
   | none=>match rowAt H v g with
    | some (_,cs)=>.gu ((cs.drop off).map (gq ρ H k))
    | none=>.any
  | .gD v=>match ρ v with
   | some v'=>.gD v'
   | none=>.any
  | .iT v=>match ρ v with
   | some v'=>.iT v'
   | none=>.any
  | d=>d
def pG(ρ:Nat->Option Nat)(H:U):Ob->Ob
 | .row t g cs=>.row t g (cs.map (gq ρ H 40))
 | .map kk es=>.map kk (es.map λx=>(x.1,gq ρ H 40 x.2))
 | .ib rf env st=>.ib rf (env.map λx=>(x.1,gq ρ H 40 x.2)) st
 | .sO s p=>.sO s p
 | .jl m since seen=>.jl (gq ρ H 40 m) since seen
 | .ja=>.ja
 | .dead=>.dead
 | .lT=>.dead
abbrev nL:=List (Nat×Bool)
def iI(ks:nL)(v:Nat):Option Nat:=ks.findIdx? (λp=>p.2&&p.1 == v)
def rC(ks:nL)(H:U):U:=ks.map λp=>if p.2 then(match H[p.1]? with|some o=>pG (iI ks) H o|none=>.dead)else .dead
def jv(n:Nat):D->List Nat
 | .fY v _ _ _ _=>if n<=v then [v]else []
 | .ptr v _ _=>if n<=v then [v]else []
 | .gD v=>if n<=v then [v]else []
 | .iT v=>if n<=v then [v]else []
 | _=>[]
def oZ(n:Nat):Ob->List Nat
 | .row _ _ cs=>(cs.map (jv n)).flatten
 | .map _ es=>(es.map λx=>jv n x.2).flatten
 | _=>[]
def dedup:List Nat->List Nat
 | []=>[]
 | x::r=>if x∈r then dedup r else x::dedup r
def ji(n:Nat)(K:List Nat):nL:=((List.range n).map λv=>(v,true))++K.map λv=>(v,true)
def forget(live:List Nat)(env:Env):Env:=live.map λk=>(k,env.get k)
structure St where
 env:Env
 H:U
 marks:List Nat:=[]
 iD:Bool:=false
 deriving Inhabited
def Cj(live:List Nat):Bool:=match live with
 | k::_=>Nat.beq k 9999
 | []=>false
def cut(n:Nat)(live:List Nat)(s:St):St:=
 let env:=forget live s.env
 if s.H.length<=n\/Cj live=true then{ s with env:=env }else
 let K:=dedup (((env.map λp=>jv n p.2).flatten++((s.H.take n).map (oZ n)).flatten++s.marks.filter (n<=·)).filter (· < s.H.length))
 let ks:=ji n K
 { s with env:=env.map λp=>(p.1,gq (iI ks) s.H 40 p.2),H:=rC ks s.H,marks:=s.marks.map λv=>(iI ks v).getD v }
def EI(n:Nat):D->List Nat
 | .fY v _ _ 0 _=>if n<=v then [v]else []
 | .tup ds=>(ds.map λd=>match d with | .fY v _ _ 0 _=>if n<=v then [v]else []|_=>[]).flatten
 | _=>[]
inductive IR where
 | skip
 | ops (l:List ic)
 | l6 (jG:List (Nat×Nat)) (l:List ic)
 | mR (jG:List (Nat×Nat)) (l es:List ic)
 | seq (a b:IR)
 | cond (c:X) (a b:IR)
 | block (id:Nat) (live:List Nat) (a:IR)
 | loop (live:List Nat) (a:IR)
 | oB (rf:Nat) (live:List Nat) (x:X)
 | exit (id:Nat)
 | ret
 | bad
 | fz (S:List Nat) (a:IR)
 | vt (S:List Nat) (a b:List ic)
 deriving Inhabited
inductive ve where
 | tmp (t:Nat)
 | tB (t:Nat)
 | PN (n t:Nat)
 deriving Inhabited
structure jw where
 ntmps:Nat
 body:IR
 results:List ve
 full:Bool:=false
 own:Nat:=0
 fz:Bool:=false
 deriving Inhabited
def EP(s:St):ve->Option D
 | .tmp t=>some (s.env.get t)
 | .tB t=>xm (s.env.get t) s.H
 | .PN n t=>wg n (s.env.get t) s.H
def u5(s:St):List ve->Option (List D)
 | []=>some []
 | x::r=>match EP s x,u5 s r with
  | some d,some l=>some (d::l)
  | _,_=>none
def results(fn:jw)(s:St):Option D:=match u5 s fn.results with
 | some [d]=>some d
 | some ds=>some (.tup ds)
 | none=>none
def uf(args:List D):Env:=args.zipIdx.map λp=>(p.2,p.1)
def uw:List Nat->List D->Env->Env
 | k::ks,d::ds,env=>uw ks ds ((k,d)::env)
 | _,_,env=>env
def kK(env:gP):iL->Option (FuncId×List D)
 | .call f args=>some (f,args.map (ev env))
 | .callN f args=>some (f,args.map (ev env))
 | .callv f args=>match ev env f with
  | .fn (.func k) first cap=>some (k,first++args.map (ev env)++cap)
  | _=>none
 | _=>none
def HW:iL->Bool
 | .call _ _ | .callN _ _ | .callv _ _=>true
 | _=>false
def guardOf(env:gP):Option (Nat×Bool)->Option Bool
 | none=>some true
 | some (s,want)=>match env s with
  | .val (.bool b)=>some (b == want)
  | .val (.tuple _)=>some false
  | _=>none
def yF(n:Nat):D->D
 | .fY v g sz off len=>.fY (v+n) g sz off len
 | d=>d
def kE(n:Nat):D->D
 | .fY v g sz off len=>.fY (v+n) g sz off len
 | .gD v=>.gD (v+n)
 | .tup ds=>.tup (ds.map (yF n))
 | .agg ds=>.agg (ds.map (yF n))
 | d=>d
def n5:Ob->Bool
 | .row _ _ cs=>gF cs
 | .map _ es=>es.all λx=>closed x.2
 | _=>false
def pP:Ob->Bool
 | .row _ _ cs=>tF cs
 | _=>false
def yM(p:D->Bool):D->Bool
 | .fY .. => true
 | d=>p d
def xt(p:D->Bool):D->Bool
 | .fY .. => true
 | .gD _=>true
 | .tup ds=>ds.all (yM p)
 | .agg ds=>ds.all (yM p)
 | d=>p d
def mO:D->Bool:=xt closed
def o3:D->Bool:=xt flat
def rowsOf(H:U)(v:Nat):Option (TypeId×Nat×List D):=match H[v]? with
 | some (.row t g cs)=>some (t,g,cs)
 | _=>none
def iC(H:U):Nat->D->List Nat
 | 0,_=>[]
 | k+1,d=>if closed d then []else match d with
  | .agg cs | .tup cs | .gu cs=>(cs.map (iC H k)).flatten
  | .sl _ es=>(es.map λe=>(e.map (iC H k)).flatten).flatten
  | .fn _ a b=>(a.map (iC H k)).flatten++(b.map (iC H k)).flatten
  | .fY v _ _ _ _ | .ptr v _ _=>v::(match rowsOf H v with
   | some (_,_,cs)=>(cs.map (iC H k)).flatten
   | none=>[])
  | .gD v | .iT v=>[v]
  | _=>[]
def leave(own:Nat)(n:Nat)(H:U)(d:D):D×U:=
 if H.length<=n\/own=4 then(d,H)else
 let K:=dedup (((match own with|0=>[]|1=>EI n d|3=>((iC H 40 d).filter (n<=·)).take 1|_=>(iC H 40 d).filter (n<=·))++((H.take n).map (oZ n)).flatten).filter (· < H.length))
 let ks:=ji n K
 (gq (iI ks) H 40 d,rC ks H)
def mC(H:U)(S:List Nat):nL:=(List.range H.length).map λv=>(v,!(S.contains v))
structure qy where
 params:List Nat
 a:IR
 b:IR
 deriving Inhabited
structure iB where
 fn:FuncId->Option jw
 round:Nat->Option qy:=λ_=>none
 sort:FuncId->Option Nat:=λ_=>none
 tt:FuncId->Bool:=λ_=>false
 sZ:FuncId->Bool:=λ_=>false
def after(s:St)(dst:Option Nat)(args:List D)(r:D)(Hn:U):Option St:=
 if (if gF args then mO r&&Hn.all n5 else o3 r&&Hn.all pP)then
  some { s with env:=put s.env dst (kE s.H.length r),H:=s.H++Hn }else none
def l8(S:List Nat)(s:St):St:=
 let ks:=mC s.H S
 { s with env:=s.env.map λp=>(p.1,gq (iI ks) s.H 40 p.2),H:=rC ks s.H }
end Go.AL
namespace Go.AL
open Go
theorem xX{ds:List D}(h:gF ds=true){i:Nat}{d:D}(a:ds[i]? = some d):closed d=true:=by
 induction ds generalizing i with
 | nil=>simp at a
 | cons x xs b=>
  simp only[gF,Bool.and_eq_true]at h
  cases i with
  | zero=>simp at a;subst a;exact h.1
  | succ i=>exact b h.2 (by simpa using a)
theorem acD{es:List (List D)}(h:Du es=true){i:Nat}{e:List D}(a:es[i]? = some e):gF e=true:=by
 induction es generalizing i with
 | nil=>simp at a
 | cons x xs b=>
  simp only[Du,Bool.and_eq_true]at h
  cases i with
  | zero=>simp at a;subst a;exact h.1
  | succ i=>exact b h.2 (by simpa using a)
theorem gh.closed{c c':Ctx}{w:World}(A:∀b,c.F b->c'.F b){u:Value}{d:D}(h:gh c w u d)(l:closed d=true):gh c' w u d:=by
 induction h with
 | any v=>exact .any _
 | val v=>exact .val _
 | agg vs ds hl h1 h n=>exact .agg vs _ hl h1 λi v d m k=>n i v d m k (xX l k)
 | tup vs ds hl h n=>exact .tup vs _ hl λi v d m k=>n i v d m k (xX l k)
 | sl a len cap sz es g r F y H x q I n=>
  refine .sl a len cap sz _ g r F y H x ?_ λi e j d s k=>n i e j d s k (xX (acD l s) k);intro i e j d s k;obtain⟨b,o,z,p,t,h1⟩:=q i e j d s k;exact⟨b,o,z,A b p,t,h1⟩
 | gg=>exact .gg
 | l4 a vs y x q=>
  refine .l4 a vs y x ?_;intro i v m;obtain⟨b,o,z,p,t,h1⟩:=q i v m;exact⟨b,o,z,A b p,t,h1⟩
 | fY=>cases l
 | mw=>cases l
 | ptr=>cases l
 | gu b o cs g p q I n=>exact .gu b o _ g (A b p) q λj d k=>n j d k (xX l k)
 | gD=>cases l
 | fn f fs cs K L G E h1 J C B=>
  simp only[AL.closed,Bool.and_eq_true]at l;exact .fn f fs cs _ _ G E (λi v d m k=>C i v d m k (xX l.1 k)) (λi v d m k=>B i v d m k (xX l.2 k))
 | iT=>cases l
theorem DE{ds:List D}(h:tF ds=true){i:Nat}{d:D}(a:ds[i]? = some d):flat d=true:=by
 induction ds generalizing i with
 | nil=>simp at a
 | cons x xs b=>
  simp only[tF,Bool.and_eq_true]at h
  cases i with
  | zero=>simp at a;subst a;exact h.1
  | succ i=>exact b h.2 (by simpa using a)
theorem gh.flat{c c':Ctx}{w:World}{u:Value}{d:D}(h:gh c w u d)(b:flat d=true):gh c' w u d:=by
 induction h with
 | any v=>exact .any _
 | val v=>exact .val _
 | agg vs ds hl h1 h j=>exact .agg vs _ hl h1 λi v d k f=>j i v d k f (DE b f)
 | tup vs ds hl h j=>exact .tup vs _ hl λi v d k f=>j i v d k f (DE b f)
 | sl a len cap sz es g e m n p l o q j=>
  simp only[AL.flat,eo]at b;subst b;exact .sl a len cap sz _ g e m n (by simp) l (by simp) (by simp)
 | gg=>exact .gg
 | l4=>cases b
 | fY=>cases b
 | mw=>cases b
 | ptr=>cases b
 | gu=>cases b
 | gD=>cases b
 | fn=>cases b
 | iT=>cases b
theorem U7(sz:Nat):∀(n:Nat) (cs:List D),(chunks sz n cs).length=n
 | 0,_=>rfl
 | n+1,cs=>by simp[chunks,U7 sz n]
theorem PS(sz:Nat):∀(n:Nat) (cs:List D) (i:Nat) (e:List D),(chunks sz n cs)[i]? = some e->i<n/\e=(cs.drop (i*sz)).take sz
 | 0,_,i,e,h=>by simp[chunks]at h
 | n+1,cs,0,e,h=>by simp[chunks]at h;subst h;simp
 | n+1,cs,i+1,e,h=>by simp only[chunks,dh]at h;obtain⟨h1,a⟩:=PS sz n _ i e h;refine⟨by omega,?_⟩;rw[a,b6];congr 2;rw[bn];omega
theorem an1{c:Ctx}{w:World}{b o sz len cap:Nat}{vs:List Value}{ds:List D}(n:c.F b)(k:Cells c w vs ds)(hl:ds.length=len*sz)(l:len<=cap)(m:cap<=maxLen)
  (r:∀(j:Nat) (v:Value),vs[j]? = some v->w.cell? ⟨b,o+j,none⟩=some v):gh c w (.slice (some ⟨b,o,none⟩) len cap) (.sl sz (chunks sz len ds)):=by
 have h:∀(i:Nat) (e:List D) (j:Nat) (d:D),(chunks sz len ds)[i]? = some e->e[j]? = some d->ds[i*sz+j]? = some d/\j<sz:=by
  intro i e j d a f;obtain⟨_,rfl⟩:=PS sz len ds i e a;rw[aF]at f;split at f
  .grind
  .cases f
 refine .sl _ len cap sz _ (λi j=>vs.getD (i*sz+j) undef) (U7 _ _ _) l m ?_ (by simp) ?_ ?_
 .intro e a;obtain⟨i,hi⟩:=aC.1 a;obtain⟨h1,rfl⟩:=PS sz len ds i e hi;simp only[aK,aR,hl];have:(i+1)*sz<=len*sz:=bz _ h1;rw[bn]at this;omega
 .intro i e j d a f;obtain⟨h1,_⟩:=h i e j d a f;obtain⟨v,g,q,_⟩:=k.get h1;refine⟨b,o,rfl,n,?_,?_⟩
  .grind
  .grind
 .intro i e j d a f;obtain⟨h1,_⟩:=h i e j d a f;obtain⟨v,g,_,p⟩:=k.get h1;simp only[List.getD,g,aZ];exact p
theorem Cells.map{c c':Ctx}{w:World}{f:D->D}(g:∀v d,gh c w v d->gh c' w v (f d)){vs:List Value}{cs:List D}(h:Cells c w vs cs):Cells c' w vs (cs.map f):=
 ⟨by simpa using h.len,h.one,λi v d e a=>by
  simp only[au,aj]at a;obtain⟨d0,b,rfl⟩:=a
  exact g _ _ (h.rep i v d0 e b)⟩
def Ctx.gq(c:Ctx)(ks:nL)(H:U):Ctx where
 ι:=λi g=>match ks[i]? with
  | some p=>c.ι p.1 g
  | none=>none
 F:=λb=>c.F b\/∃v L,lY c H v L/\iI ks v=none/\L.jO=false/\L.b=b
 RT:=c.RT
theorem aau{ks:nL}{v i:Nat}(h:iI ks v=some i):ks[i]? = some (v,true):=by unfold iI at h;rw[dY]at h;obtain⟨hi,a,_⟩:=h;simp only[Bool.and_eq_true,beq_iff_eq]at a;rw[List.getElem?_eq_getElem hi];congr 1;exact cL a.2 a.1
theorem aat{ks:nL}{v:Nat}(h:iI ks v=none)(i:Nat):ks[i]?≠some (v,true):=by intro hi;unfold iI at h;rw[dF]at h;have:=h _ (List.mem_of_getElem? hi);simp at this
section
variable{G:GT}{c:Ctx}{H:U}{w:World}{ks:nL}
theorem Fg{v i g:Nat}(h:iI ks v=some i):(c.gq ks H).ι i g=c.ι v g:=by simp[Ctx.gq,aau h]
theorem Df{b:Nat}(h:c.F b):(c.gq ks H).F b:=Or.inl h
theorem UF{v:Nat}{L:Loc}(h1:lY c H v L)(b:iI ks v=none)(a:L.jO=false):(c.gq ks H).F L.b:=Or.inr ⟨v,L,h1,b,a,rfl⟩
theorem AD(h:gE G c H w):∀(k:Nat) {u:Value} {d:D},gh c w u d->gh (c.gq ks H) w u (gq (iI ks) H k d)
 | 0,u,d,q=>by
  unfold AL.gq;split
  .rename_i K;exact q.closed (λb M=>Df M) K
  .exact .any _
 | k+1,u,d,q=>by
  have A:=λ{u:Value} {d:D} (q:gh c w u d)=>AD h k q;unfold AL.gq;split
  .rename_i K;exact q.closed (λb M=>Df M) K
  .cases q with
   | any v=>exact .any _
   | val v=>exact .val _
   | agg vs ds hl h1 z=>
     refine .agg vs _ (by simpa using hl) h1 λi v d l y=>?_;simp only[au,aj]at y;obtain⟨d0,B,rfl⟩:=y;exact A (z i v d0 l B)
   | tup vs ds hl z=>
     refine .tup vs _ (by simpa using hl) λi v d l y=>?_;simp only[au,aj]at y;obtain⟨d0,B,rfl⟩:=y;exact A (z i v d0 l B)
   | sl a len cap sz es g s E F iA V Q q=>
    refine .sl a len cap sz _ g (by simpa using s) E F ?_ V ?_ ?_
    .grind
    .intro i e j d R y;simp only[au,aj]at R;obtain⟨e0,J,rfl⟩:=R;simp only[au,aj]at y;obtain⟨d0,B,rfl⟩:=y;obtain⟨b,o,ha,I,T,h1⟩:=Q i e0 j d0 J B;exact⟨b,o,ha,Df I,T,h1⟩
    .grind
   | gg=>exact .gg
   | l4 a vs h1 z S=>rename_i Z;exact absurd rfl Z
   | fY v g sz off len cap L p l E F U=>
    dsimp only;split
    .rename_i v' r;exact .fY v' g sz off len cap L (by rw[Fg r];exact p) l E F U
    .rename_i P;split
     .rename_i t cs O;split
      .rename_i nc;have C:=uv O;obtain⟨arr,h1,z,S,N⟩:=yQ h C p l;have X:=(((N.drop (off*sz)).map (λ_ _ q=>A q)).take (len*sz));have s:((cs.drop (off*sz)).map (AL.gq (iI ks) H k)).length=(cs.length-off*sz):=by simp
       have Rj:chunks sz len ((cs.drop (off*sz)).map (AL.gq (iI ks) H k))=chunks sz len (((cs.drop (off*sz)).map (AL.gq (iI ks) H k)).take (len*sz)):=by
        have key:∀(n:Nat) (xs:List D),chunks sz n xs=chunks sz n (xs.take (n*sz)):=by
         intro n
         induction n with
         | zero=>intro xs;rfl
         | succ n A=>
          intro xs;simp only[chunks];rw[dW,Nat.min_eq_left (by rw[bn];omega),A (xs.drop sz),List.drop_take,show(n+1)*sz-sz=n*sz by rw[bn];omega]
        exact key _ _
       rw[Rj];refine an1 (UF ⟨_,C,rfl,p⟩ P l) X ?_ E F λj x m=>?_
       .grind
       .rw[aF]at m;split at m
        .rw[aG,aF]at m;split at m
         .rw[aG]at m;simp[World.cell?,h1];rw[a8];simpa using m
         .cases m
        .cases m
      .exact .any _
     .exact .any _
   | mw v g sz off L p a=>
    dsimp only;split
    .rename_i v' r;exact .mw v' g sz off L (by rw[Fg r];exact p) a
    .split
     .split
      .exact .sl a 0 0 sz _ (λ_ _=>undef) rfl (Nat.le_refl _) (by unfold maxLen;omega) (by simp[chunks]) (λ_=>rfl) (by simp[chunks]) (by simp[chunks])
      .exact .any _
     .exact .any _
   | ptr v g off L p l=>
    dsimp only;split
    .rename_i v' r;exact .ptr v' g off L (by rw[Fg r];exact p) l
    .rename_i P;split
     .rename_i t cs O;have C:=uv O;obtain⟨arr,h1,z,S,N⟩:=yQ h C p l;refine Qu (UF ⟨_,C,rfl,p⟩ P l) ⟨_,(N.drop off).map (λ_ _ q=>A q),λj x m=>?_⟩;rw[aG,aF]at m;split at m
      .rw[aG]at m;simp[World.cell?,h1];rw[a8];simpa using m
      .cases m
     .exact .any _
   | gu b o cs g I Q q=>
    refine .gu b o _ g (Df I) ?_ ?_
    .grind
    .grind
   | gD v L p l=>
    dsimp only;split
    .rename_i v' r;exact .gD v' L (by rw[Fg r];exact p) l
    .exact .any _
   | fn f fs cs df dc Y W h1 z=>
    refine .fn f fs cs _ _ (by simpa using Y) (by simpa using W) ?_ ?_
    .grind
    .grind
   | iT v L p l=>
    dsimp only;split
    .rename_i v' r;exact .iT v' L (by rw[Fg r];exact p) l
    .exact .any _
