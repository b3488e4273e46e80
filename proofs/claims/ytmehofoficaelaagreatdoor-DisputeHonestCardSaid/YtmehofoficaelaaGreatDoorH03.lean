/- Part 3 of DisputeHonest. -/
import Derived.Test.YtmehofoficaelaaGreatDoorH02
import Derived.ChangeKeysEq
set_option linter.all false
namespace Go.AL
open Go
section
variable{P:Program}{G:GT}{c:Ctx}{H:U}{w:World}{K:iW}{env:gj}{a:Act}
theorem PF{x:D}{kv u:Value}(b:fr c w u x)(h:keyOf x=some kv):u=kv:=by
 unfold keyOf at h;split at h
 .cases h;cases b;rfl
 .cases h;cases b;rfl
 .cases h;cases b;rfl
 .rename_i cs;simp only[aj]at h;obtain⟨l,hl,rfl⟩:=h
  cases b with
  | agg vs _ a _ h1=>
   have key:∀(cs:List D) (vs l:List Value),Fj cs=some l->vs.length=cs.length->(∀(i:Nat) (v:Value) (d:D),vs[i]? = some v->cs[i]? = some d->fr c w v d)->vs=l:=by
    intro cs
    induction cs with
    | nil=>intro vs l hl a _;simp[Fj]at hl;subst hl;exact bf (by simpa using a)
    | cons d cs j=>
     intro vs l hl a h1
     cases vs with
     | nil=>simp at a
     | cons v vs=>
      unfold Fj at hl;split at hl
      .grind
      .rename_i k n r e;cases e;simp only[aj]at hl;obtain⟨g,f,rfl⟩:=hl;have h0:=h1 0 v _ rfl rfl;cases h0;rw[j vs g f (by simpa using a) (λi v d m o=>h1 (i+1) v d (by simpa using m) (by simpa using o))]
      .cases hl
   rw[key cs vs l hl a h1]
 .cases h
def xi:List Value->List Value->Bool
 | .int k a::x,.int k' b::y=>k == k'&&a == b&&xi x y
 | [],[]=>true
 | _,_=>false
theorem YH{t:TypeId}{k:IntKind}(h:P.underlying t=some (.int k)):nW P t=some false:=by simp[nW,h]
theorem Cp{k:IntKind}{ks:List IntKind}{vs:List Value}(h:rP (k::ks) vs=true):∃n a,vs = .int k n::a/\rP ks a=true:=by
 cases vs with
 | nil=>cases h
 | cons v a=>
  cases v<;>simp[rP]at h;obtain⟨rfl,h⟩:=h;exact⟨_,_,rfl,h⟩
theorem Qk{t:TypeId}{k a:IntKind}(h:P.underlying t=some (.int k)){vs:List Value}{i:Nat}{n:Int}(b:vs[i]? = some (.int a n)):(part t vs.toArray i).run P w = .ok (.int a n) w:=by simp[part,AU (YH h) w,b]
theorem Tj(d:Nat){vs us:List Value}:∀(fs:List Field) (i:Nat) (ks:List IntKind),Ao P i fs=some ks->rP ks (vs.drop i)=true->rP ks (us.drop i)=true ->
  (Op.eqFields (d+1) vs.toArray us.toArray fs).run P w = .ok (xi (vs.drop i) (us.drop i)) w
 | [],i,ks,h,hv,hu=>by
  cases h
  cases b:vs.drop i with
  | nil=>cases a:us.drop i with
   | nil=>rfl
   | cons y B=>rw[a]at hu;cases hu
  | cons x xr=>rw[b]at hv;cases hv
 | f::fs,i,ks,h,hv,hu=>by
  simp only[Ao]at h;split at h
  .rename_i k s c p;split at h
   .rename_i r;obtain⟨z,u⟩:=r;cases h;obtain⟨n,l,b,q⟩:=Cp hv;obtain⟨m,o,a,t⟩:=Cp hu;have A:vs[i]? = some (.int k n):=by have:=congrArg (·[0]?) b;simpa using this
    have v:us[i]? = some (.int k m):=by have:=congrArg (·[0]?) a;simpa using this
    have e:vs.drop (i+1)=l:=by rw[<-bR,b];rfl
    have j:us.drop (i+1)=o:=by rw[<-bR,a];rfl
    have g:=Tj d fs (i+1) s p (by rw[e];exact q) (by rw[j];exact t);rw[e,j]at g;rw[b,a];simp only[Op.eqFields,if_pos u,Sem.run_bind,z,Qk c A,Qk c v,Result.andThen_ok,run_equalIn_int w d f.type k k n m c,Sem.run_ite,g,xi];cases n == m<;>simp
   .cases h
  .cases h
theorem VQ{l:List IntKind}:∀ {a b:List Value},rP l a=true->rP l b=true->mJ (.agg a.toArray) (.agg b.toArray)=xi a b:=by
 induction l with
 | nil=>intro a b h1 c;cases a<;>cases b<;>simp[rP]at h1 c;simp[mJ,xi]
 | cons k ks d=>
  intro a b h1 c;obtain⟨n,i,rfl,f⟩:=Cp h1;obtain⟨m,g,rfl,e⟩:=Cp c;have h:=d f e;simp[mJ,xi]at h ⊢;rw[<-h];cases n == m<;>cases i.length == g.length<;>simp
theorem YA:∀ {a b:List Value},xi a b=true->a=b
 | [],[],_=>rfl
 | .int k n::a,.int k' m::b,h=>by simp[xi]at h;obtain⟨⟨rfl,rfl⟩,h⟩:=h;rw[YA h]
 | [],_::_,h=>by simp[xi]at h
theorem XM(n:Nat):∀ {l:List IntKind} {a:List Value},rP l a=true->(a.zip a).all (λ(x,y)=>Instr.sameBits n x y)=true
 | [],[],_=>rfl
 | k::l,v::a,h=>by obtain⟨m,r,e,h⟩:=Cp h;cases e;simp only[List.zip_cons_cons,List.all_cons,XM n h];cases n<;>simp[Instr.sameBits]
def KC(P:Program)(t:TypeId)(d:TypeDesc)(kk:KK):Prop:=(∃k,d = .int k/\kk = .int k)\/(d = .string/\kk = .str)\/(d = .bool/\kk = .bool)\/∃fs l,d = .struct fs/\kk = .ints l/\Ao P 0 fs.toList=some l/\P.stoodInHeld t=false
theorem MI{t:TypeId}{kk:KK}(h:tj P t=some kk):∃d,P.underlying t=some d/\KC P t d kk:=by
 unfold tj at h;split at h
 .rename_i fs a;split at h
  .rename_i hs;obtain⟨l,hl,rfl⟩:=aj.1 h;exact⟨_,a,.inr (.inr (.inr ⟨fs,l,rfl,rfl,hl,hs⟩))⟩
  .cases h
 .rename_i k a;cases h;exact⟨_,a,.inl ⟨k,rfl,rfl⟩⟩
 .rename_i a;cases h;exact⟨_,a,.inr (.inl ⟨rfl,rfl⟩)⟩
 .rename_i a;cases h;exact⟨_,a,.inr (.inr (.inl ⟨rfl,rfl⟩))⟩
 .cases h
theorem Zq{t:TypeId}{k:IntKind}(h:P.underlying t=some (.int k))(b:Bool)(n:Nat)(m:Int):(Instr.checkKey b (n+1) t (.int k m)).run P w = .ok () w:=by unfold Instr.checkKey;simp only[Sem.run_bind,run_underlying h,Result.andThen_ok];rfl
theorem run_checkKey{t:TypeId}{kk:KK}(h:tj P t=some kk)(b:Bool){kv:Value}(c:kk.has kv=true)(w:World):(Instr.checkKey b 10000 t kv).run P w = .ok () w:=by
 obtain⟨d,e,g⟩:=MI h;unfold Instr.checkKey;rcases g with⟨k,rfl,rfl⟩|⟨rfl,rfl⟩|⟨rfl,rfl⟩|⟨fs,l,rfl,rfl,a,_⟩
 .simp only[Sem.run_bind,run_underlying e,Result.andThen_ok];rfl
 .simp only[Sem.run_bind,run_underlying e,Result.andThen_ok];rfl
 .simp only[Sem.run_bind,run_underlying e,Result.andThen_ok];rfl
 .cases kv<;>simp[KK.has]at c;rename_i cs;obtain⟨vs⟩:=cs;simp only[Sem.run_bind,run_underlying e,Result.andThen_ok];rw[<-Array.forIn_toList];have h0:rP l (vs.drop 0)=true:=by simpa using c
  clear c h;obtain⟨i,hi⟩:∃i,i=0:=⟨_,rfl⟩;rw[<-hi]at a h0;clear hi e;generalize fs.toList=fl at a ⊢
  induction fl generalizing i l with
  | nil=>simp
  | cons f fl r=>
   simp only[Ao]at a;split at a
   .rename_i k u c p;split at a
    .rename_i g;obtain⟨x,v⟩:=g;cases a;obtain⟨n,o,j,q⟩:=Cp h0;have y:vs[i]? = some (.int k n):=by have:=congrArg (·[0]?) j;simpa using this
     have m:vs.drop (i+1)=o:=by rw[<-bR,j];rfl
     have s:=r u (i+1) (by rw[m];exact q) p;rw[List.forIn_cons];simp only[if_pos v,Sem.run_bind,x,Qk c y,Result.andThen_ok,Zq c,Sem.run_pure];exact s
    .cases a
   .cases a
def mQ(kv:Value):List MapEntry->Nat->Option (Nat×Value)
 | [],_=>none
 | e::es,i=>if mJ kv e.key then some (i,e.val)else mQ kv es (i+1)
theorem NN{d:TypeDesc}{kk:KK}(f:(∃k,d = .int k/\kk = .int k)\/(d = .string/\kk = .str)\/(d = .bool/\kk = .bool)){kv:Value}(b:kk.has kv=true) :
  ∀(es:List MapEntry) (i:Nat),(∀e∈es,kk.has e.key=true)->Instr.findNow d kv es i=some (mQ kv es i):=by
 intro es
 induction es with
 | nil=>intro i _;rfl
 | cons e es c=>
  intro i h;have a:=h e (by simp);have g:=c (i+1) (λe a=>h e (by simp[a]));unfold Instr.findNow mQ
  have hs:Instr.sameNow d kv e.key=some (mJ kv e.key):=by obtain⟨key,val,born⟩:=e;rcases f with⟨k,rfl,rfl⟩|⟨rfl,rfl⟩|⟨rfl,rfl⟩<;>cases kv<;>simp[KK.has]at b<;>cases key<;>simp[KK.has]at a<;>simp[Instr.sameNow,mJ];subst b;subst a;simp
  rw[hs];cases mJ kv e.key
  .grind
  .rfl
theorem TO{t:TypeId}{fs:Array Field}{l:List IntKind}(d:P.underlying t=some (.struct fs))(f:Ao P 0 fs.toList=some l)(g:P.stoodInHeld t=false){kv:Value}(b:(KK.ints l).has kv=true)(w:World) :
  ∀(es:List MapEntry) (i:Nat),(∀e∈es,(KK.ints l).has e.key=true)->(Instr.findAsking t kv es i).run P w = .ok (mQ kv es i) w
 | [],i,_=>rfl
 | e::es,i,h=>by
  have a:=h e (by simp);have k:=TO d f g b w es (i+1) λe a=>h e (by simp[a]);have m:P.underlying t=some (.struct (P.fieldsOf t)):=by unfold Program.fieldsOf;rw[d]
  have j:P.fieldsOf t=fs:=by unfold Program.fieldsOf;rw[d]
  obtain⟨key,val,born⟩:=e;cases kv<;>simp[KK.has]at b;cases key<;>simp[KK.has]at a;rename_i cs ds;obtain⟨vs⟩:=cs;obtain⟨us⟩:=ds;dsimp only at b a
  have c:(Op.equal t (.agg ⟨vs⟩) (.agg ⟨us⟩)).run P w = .ok (mJ (.agg ⟨vs⟩) (.agg ⟨us⟩)) w:=by show(Op.equalIn 10000 t (.agg ⟨vs⟩) (.agg ⟨us⟩)).run P w=_;rw[run_equalIn_struct w 9999 t ⟨vs⟩ ⟨us⟩ m g,j,VQ b a];exact Tj 9998 (vs:=vs) (us:=us) fs.toList 0 l f (by simpa using b) (by simpa using a)
  unfold Instr.findAsking mQ;simp only[Sem.run_bind,c,Result.andThen_ok,Sem.run_ite,k];cases mJ (.agg ⟨vs⟩) (.agg ⟨us⟩)<;>simp
theorem run_findKey{t:TypeId}{kk:KK}(h:tj P t=some kk){kv:Value}(f:kk.has kv=true)(es:List MapEntry)(c:∀e∈es,kk.has e.key=true)(w:World) :
  (Instr.findKey t kv es).run P w = .ok (mQ kv es 0) w:=by
 obtain⟨d,b,a⟩:=MI h;rcases a with a|a|a|⟨fs,l,rfl,rfl,g,j⟩
 .simp[Instr.findKey,run_underlying b,NN (.inl a) f es 0 c]
 .simp[Instr.findKey,run_underlying b,NN (.inr (.inl a)) f es 0 c]
 .simp[Instr.findKey,run_underlying b,NN (.inr (.inr a)) f es 0 c]
 .cases es with
  | nil=>simp[Instr.findKey,run_underlying b,Instr.findNow,mQ]
  | cons e es=>
   have i:Instr.findNow (.struct fs) kv (e::es) 0=none:=by unfold Instr.findNow;cases kv<;>cases e.key<;>simp[Instr.sameNow]
   simp only[Instr.findKey,Sem.run_bind,run_underlying b,Result.andThen_ok,i];exact TO b g j f w (e::es) 0 c
theorem Vy:∀ {l:List IntKind} {vs:List Value},rP l vs=true->∀v∈vs,v.oneCell'=true
 | [],[],_,v,hv=>by cases hv
 | k::ks,.int k' n::vs,h,v,hv=>by
  simp only[rP,Bool.and_eq_true]at h;rcases aw.1 hv with rfl|hv
  .rfl
  .exact Vy h.2 v hv
theorem Xl{kk:KK}{v:Value}(h:kk.has v=true):fr c w v (qw v):=by
 unfold qw;split
 .rename_i cs;cases kk<;>simp only[KK.has]at h<;>first|(cases h;done)|skip
  have:=fr.agg (c:=c) (w:=w) cs.toList (cs.toList.map .val) (by simp) (Vy h) (λi v d b a=>by
   simp only[aq,b,aD,ak]at a;subst a
   exact .val _)
  simpa using this
 .exact .val _
theorem PZ{b:Array MapEntry}{a:Nat}{es:List (Value×D)}(d:Du c w b a es){kk:KK}(f:∀x∈es,kk.has x.1=true):∀e∈b.toList,kk.has e.key=true:=by
 intro e g;obtain⟨i,hi⟩:=aA.1 g;have hl:i<es.length:=by rw[<-d.1];have:=(ae.1 hi).1;simpa using this
 obtain⟨h1,_⟩:=d.2.1 i e es[i] (by simpa using hi) (by simp[hl]);rw[h1];exact f _ (bI hl)
theorem Ea(kv:Value):∀(l:List MapEntry) (es:List (Value×D)) (i:Nat),l.length=es.length ->
  (∀(j:Nat) (e:MapEntry) (x:Value×D),l[j]? = some e->es[j]? = some x->e.key=x.1/\fr c w e.val x.2) ->
  (mQ kv l i=none/\pG es kv=none/\∀y,lI es kv y=es ++ [(kv,y)]) \/
  (∃j v d,mQ kv l i=some (i+j,v)/\pG es kv=some d/\fr c w v d/\j<l.length/\(∀y,lI es kv y=es.set j (kv,y))/\∃e,l[j]? = some e/\mJ kv e.key=true)
 | [],[],i,_,_=>.inl ⟨rfl,rfl,λ_=>rfl⟩
 | e::l,(k,d)::es,i,hl,h=>by
  obtain⟨f,n⟩:=h 0 e (k,d) rfl rfl;dsimp only at f n
  by_cases a:mJ kv e.key=true
  .refine .inr ⟨0,e.val,d,by simp[mQ,a],by simp[pG,<-f,a],n,by simp,λy=>by simp[lI,<-f,a],e,rfl,a⟩
  .have b:mJ kv k=false:=by rw[<-f];simpa using a
   rcases Ea kv l es (i+1) (by simpa using hl) (λj e x a o=>h (j+1) e x (by simpa using a) (by simpa using o))with⟨h1,m,g⟩|⟨j,v,d',h1,m,g,t,r,s,q,p⟩
   .exact .inl ⟨by simp[mQ,a,h1],by simp[pG,b,m],λy=>by simp[lI,b,g]⟩
   .exact .inr ⟨j+1,v,d',by simp[mQ,a,h1];omega,by simp[pG,b,m],g,by simp;omega,λy=>by simp[lI,b,r],s,by simpa using q,p⟩
theorem aiT(h:fO G c H w){t k e:TypeId}{kk:KK}{z:D}(U:P.underlying t=some (.map k e))(I:tj P k=some kk)(y:C4 P e=some z)(ok:Bool){m x:D}{u v:Value}(h1:fr c w u m)(X:fr c w v x)
  (l:Fu kk z ok m x H K):∃r,(Instr.lookup t u v ok).run P w = .ok r w/\iA G c H w K r w:=by
 have q:∃o,(zeroValue e).run P w = .ok o w/\fr c w o z:=by
  unfold C4 at y
  cases hi:P.info? e with
  | none=>simp[hi]at y
  | some i=>
   simp only[hi,Option.bind_some]at y
   cases E:i.zero with
   | none=>simp[E]at y
   | some o=>
    simp only[E,Option.bind_some]at y;exact⟨o,by simp[zeroValue,run_typeInfo hi,E],Qz y⟩
 obtain⟨o,N,J⟩:=q;unfold Fu at l;split at l
 .rename_i v0 kv Z;split at l
  .rename_i nI es S;obtain⟨rfl,F,l⟩:=l;have f:=PF X Z;subst f
   cases h1 with
   | fV _ L Y gI=>
    have B:=h.ob v0 _ (sI S);simp only[Ob.gen]at B;rw[Y]at B;simp only[gA]at B;obtain⟨_,O,g,s,V,C⟩:=B;have M:=run_findKey I F g.toList (PZ C O) w;have Q:=run_checkKey (w:=w) I g.isEmpty F
    have A:(Instr.lookup t (.map (some L.b)) v ok).run P w=((match mQ v g.toList 0 with
      | some (_,v)=>Result.ok (v,true) w
      | none=>Result.ok (o,false) w:Result (Value×Bool)).andThen λp w=>.ok (if ok then .tuple #[p.1,.bool p.2]else p.1) w):=by
     have R:(getObj L.b).run P w = .ok (.map g s) w:=by simp[getObj,Sem.run,V]
     simp only[Instr.lookup,Sem.run_bind,run_underlying U,Result.andThen_ok,R,Sem.run_pure,Q,M]
     cases mQ v g.toList 0 with
     | none=>simp[N]
     | some p=>obtain⟨_,_⟩:=p;simp
    rcases Ea (c:=c) (w:=w) v g.toList es 0 (by simpa using C.1) (λj e x W T=>let ⟨a,b,_⟩:=C.2.1 j e x (by simpa using W) T;⟨a,b⟩)with⟨f1,f2,_⟩|⟨j,val,d,f1,f2,f3,_⟩
    .rw[f1]at A;rw[f2]at l;refine⟨_,A,.plain h l ?_⟩;cases ok
     .exact J
     .exact .tup [o,.bool false] [z,.val (.bool false)] rfl (λi v d f n=>by
       match i with
       | 0=>simp at f n;subst f;subst n;exact J
       | 1=>simp at f n;subst f;subst n;exact .val _
       | i+2=>simp at f)
    .rw[f1]at A;rw[f2]at l;refine⟨_,A,.plain h l ?_⟩;cases ok
     .exact f3
     .exact .tup [val,.bool true] [d,.val (.bool true)] rfl (λi v d' f n=>by
       match i with
       | 0=>simp at f n;subst f;subst n;exact f3
       | 1=>simp at f n;subst f;subst n;exact .val _
       | i+2=>simp at f)
  .exact l.elim
 .grind
theorem aj7{kk:KK}(a:kk = .str\/kk = .bool\/∃k,kk = .int k){old new:Value}(h1:kk.has new=true)(b:kk.has old=true)(h:mJ new old=true):Instr.sameBits 10000 old new=true:=by
 rcases a with rfl|rfl|⟨k,rfl⟩<;>cases new<;>simp[KK.has]at h1<;>cases old<;>simp[KK.has]at b<;>simp[mJ]at h<;>simp[Instr.sameBits]
 .rename_i x y;obtain⟨x⟩:=x;obtain⟨y⟩:=y;have c:(x == y)=true:=h;have e:=eq_of_beq c;subst e;exact h
 .exact h.symm
 .grind
theorem XL{kk:KK}(b:(kk = .str\/kk = .bool\/∃k,kk = .int k)\/∃l,kk = .ints l){old new:Value}(h1:kk.has new=true)(a:kk.has old=true)(h:mJ new old=true):Instr.sameBits 10000 old new=true:=by
 rcases b with b|⟨l,rfl⟩
 .exact aj7 b h1 a h
 .cases new<;>simp[KK.has]at h1;cases old<;>simp[KK.has]at a;rename_i cs ds;obtain⟨vs⟩:=cs;obtain⟨us⟩:=ds;dsimp only at h1 a;have e:=YA ((VQ h1 a).symm.trans h);subst e;have:=XM 9999 h1;simp only[Instr.sameBits,beq_self_eq_true,dH];exact this
theorem yW{G:GT}{c:Ctx}{H:U}{w:World}(h:fO G c H w){v:Nat}{ob ob':Ob}(a:H[v]? = some ob)(e:ob.alive=true)(i:ob'.alive=true)(m:ob'.gen=ob.gen){L:Loc}(g:c.ι v ob.gen=some L)(f:L.jg=false)(o':Obj)
  (l:∀w',w'.heap[L.b]? = some o'->(∀u d,fr c w u d->fr c w' u d)->gA c w' (some L) ob') :
  fO G c (H.set v ob') { w with heap:=w.heap.setIfInBounds L.b o' }/\Step H.length c H w c (H.set v ob') { w with heap:=w.heap.setIfInBounds L.b o' }:=by
 have k:=h.lt _ ⟨v,L,⟨ob,a,e,g⟩,f,rfl⟩;refine Yu (w':={ w with heap:=w.heap.setIfInBounds L.b o' }) h a e i m g f ⟨rfl,Nat.le_refl _⟩ rfl rfl (by simp) (λb j=>?_) (l _ (by simp[k]));rw[cA (cF j)]
theorem Wi{es:List (Value×D)}{kv:Value}{y:D}:∀x∈lI es kv y,x∈es\/x=(kv,y):=by
 induction es with
 | nil=>intro x a;simp[lI]at a;exact .inr a
 | cons e es b=>
  intro x a;obtain⟨k,d⟩:=e;simp only[lI]at a;split at a
  .grind
  .grind
theorem WK(h:fO G c H w){t k e:TypeId}{kk:KK}(X:P.underlying t=some (.map k e))(Q:tj P k=some kk){m x y:D}{u v A:Value}(h1:fr c w u m)(h2:fr c w v x)(Y:fr c w A y)
  (z:Fx kk m x y H K):∃w',(Instr.mapUpdate t u v A).run P w = .ok () w'/\iA G c H w K undef w':=by
 have O5:(kk = .str\/kk = .bool\/∃k,kk = .int k)\/∃l,kk = .ints l:=by
  obtain⟨d,_,hc⟩:=MI Q;rcases hc with⟨k,_,rfl⟩|⟨_,rfl⟩|⟨_,rfl⟩|⟨_,l,_,rfl,_⟩
  .grind
  .grind
  .grind
  .grind
 unfold Fx at z;split at z
 .rename_i v0 kv EG;split at z
  .rename_i E es R;obtain⟨rfl,C,z⟩:=z;have hv:=PF h2 EG;subst hv
   cases h1 with
   | fV _ L T I=>
    have J:=h.ob v0 _ (sI R);simp only[Ob.gen]at J;rw[T]at J;simp only[gA]at J;obtain⟨_,su,g,f,F,o⟩:=J;have Z:=PZ o su;have U:=run_findKey Q C g.toList Z w;have W:=run_checkKey (w:=w) Q false C
    have ED:∀V,∀x∈lI es v V,E.has x.1=true:=λV x n=>by
     rcases Wi x n with h|rfl
     .grind
     .exact C
    rcases Ea (c:=c) (w:=w) v g.toList es 0 (by simpa using o.1) (λj e x s n=>let ⟨a,b,_⟩:=o.2.1 j e x (by simpa using s) n;⟨a,b⟩)with⟨f1,f2,f3⟩|⟨j,val,d,f1,f2,_,f4,f5,M,f6,f7⟩
    .have S:(Instr.mapUpdate t (.map (some L.b)) v A).run P w = .ok () { w with heap:=w.heap.setIfInBounds L.b (.map (g.push { key:=v,val:=A,born:=f }) (f+1)) }:=by
      have N:(getObj L.b).run P w = .ok (.map g f) w:=by simp[getObj,Sem.run,F]
      simp only[Instr.mapUpdate,Sem.run_bind,run_underlying X,Result.andThen_ok,N,W,U,f1];simp[setObj,Sem.run,F]
     obtain⟨m1,m2⟩:=yW h (sI R) rfl rfl rfl T I (.map (g.push { key:=v,val:=A,born:=f }) (f+1)) (ob':=.map E (lI es v y)) (by
      intro w' O B;simp only[gA];refine⟨I,ED y,_,_,O,?_⟩;rw[f3];refine⟨by simp[o.1],λi e x s n=>?_,by simp[o.2.2]⟩;rw[dZ]at s;split at s
      .rename_i hi;cases s;rw[ai (by rw[hi,o.1];exact Nat.le_refl _),hi,o.1]at n;simp at n;subst n;exact⟨rfl,B _ _ Y,by rw[hi,o.1,o.2.2]⟩
      .have hi:i<es.length:=by rw[<-o.1];exact(aJ.1 s).1
       rw[ah hi]at n;obtain⟨p,q,r⟩:=o.2.1 i e x s n
       exact⟨p,B _ _ q,r⟩)
     exact⟨_,S,.any,_,c,z,m1,.any _,m2⟩
    .have mu:j<g.size:=by simpa using f4
     have ub:g[j]? = some M:=by simpa using f6
     have OQ:E.has M.key=true:=Z M (List.mem_of_getElem? f6)
     have Pf:(Instr.keyThatStays M.key v).run P w = .ok v w:=by simp[Instr.keyThatStays,XL O5 C OQ f7]
     have S:(Instr.mapUpdate t (.map (some L.b)) v A).run P w = .ok () { w with heap:=w.heap.setIfInBounds L.b (.map (g.modify j λe=>{ e with key:=v,val:=A }) f) }:=by
      have N:(getObj L.b).run P w = .ok (.map g f) w:=by simp[getObj,Sem.run,F]
      simp only[Instr.mapUpdate,Sem.run_bind,run_underlying X,Result.andThen_ok,N,W,U,f1,aL,ub,aD,aO,Pf];simp[setObj,Sem.run,F]
     obtain⟨m1,m2⟩:=yW h (sI R) rfl rfl rfl T I (.map (g.modify j λe=>{ e with key:=v,val:=A }) f) (ob':=.map E (lI es v y)) (by
      intro w' O B;simp only[gA];refine⟨I,ED y,_,_,O,?_⟩;rw[f5];refine⟨by simp[o.1],λi e x s n=>?_,by simp[o.2.2]⟩
      .rw[aW]at s;rw[bK]at n;split at s
       .rename_i hi;subst hi;rw[if_pos rfl]at n;simp only[aj]at s;obtain⟨e0,h0,rfl⟩:=s;split at n
        .cases n;have hj:j<es.length:=by rw[<-o.1];exact mu
         exact⟨rfl,B _ _ Y,(o.2.1 j e0 es[j] h0 (by simp[hj])).2.2⟩
        .cases n
       .rename_i hi;rw[if_neg hi]at n;obtain⟨p,q,r⟩:=o.2.1 i e x s n
        exact⟨p,B _ _ q,r⟩)
     exact⟨_,S,.any,_,c,z,m1,.any _,m2⟩
  .exact z.elim
 .exact z.elim
end
end Go.AL
namespace Go.AL
open Go
section
variable{P:Program}{G:GT}{c:Ctx}{H:U}{w:World}{K:iW}{env:gj}{a:Act}
theorem V0{t:TypeId}{l:lQ}(hl:wU P t=some l)(d:Nat){x y:D}{u v:Value}(h1:fr c w u x)(b:fr c w v y){r:Bool}(h:s0 l x y=some r):(Op.equalIn (d+1) t u v).run P w = .ok r w:=by
 unfold s0 at h;split at h
 .rename_i k m f n;cases h1;cases b;split at h
  .rename_i e;subst e;cases h;unfold wU at hl;split at hl
   .rename_i k0 a;exact run_equalIn_int w d t k k0 m n a
   .cases hl
   .cases hl
   .cases hl
  .cases h
 .cases h1;cases b;cases h;unfold wU at hl;split at hl
  .cases hl
  .cases hl
  .rename_i a;exact run_equalIn_bool' w d t _ _ a
  .cases hl
 .cases h1;cases b;cases h;rename_i p q;unfold wU at hl;split at hl
  .cases hl
  .rename_i a;have:=run_equalIn_string (P:=P) w d t p q a;rw[ByteArray.toList_eq,ByteArray.toList_eq]at this;exact this
  .cases hl
  .cases hl
 .cases h
theorem VZ{t:TypeId}{l:lQ}(hl:wU P t=some l):nW P t=some false:=by unfold wU at hl;unfold nW;split at hl<;>first|(rename_i a;simp[a])|(rename_i k a;simp[a])|cases hl
theorem Tk(d:Nat){vs us:List Value}{xs a:List D}(k:Cells c w vs xs)(j:Cells c w us a):∀(fs:List Field) (i:Nat) (ls:List lQ) (r:Bool),Kk P i fs=some ls->lS ls (xs.drop i) (a.drop i)=some r ->
  (Op.eqFields (d+1) vs.toArray us.toArray fs).run P w = .ok r w
 | [],i,ls,r,he,hc=>by
  cases he;unfold lS at hc;split at hc
  .cases hc;rfl
  .grind
  .cases hc
 | f::fs,i,ls,r,he,hc=>by
  simp only[Kk]at he;split at he
  .rename_i l g hl z;split at he
   .rename_i C;obtain⟨n,J⟩:=C;cases he
    cases b:xs.drop i with
    | nil=>rw[b]at hc;simp[lS]at hc
    | cons x xr=>
     cases e:a.drop i with
     | nil=>rw[b,e]at hc;simp[lS]at hc
     | cons y s=>
      rw[b,e]at hc;simp only[lS]at hc;split at hc
      .rename_i p q H G;cases hc;have N:xs[i]? = some x:=by have:=congrArg (·[0]?) b;simpa using this
       have K:a[i]? = some y:=by have:=congrArg (·[0]?) e;simpa using this
       have o:xs.drop (i+1)=xr:=by rw[<-bR,b];rfl
       have M:a.drop (i+1)=s:=by rw[<-bR,e];rfl
       obtain⟨u,F,_,I⟩:=k.get N;obtain⟨v,E,_,L⟩:=j.get K;have B:=Tk d k j fs (i+1) g q z (by rw[o,M];exact G);have h:=V0 (w:=w) hl d I L H;have m:=AU (VZ hl) w;have t:(part f.type vs.toArray f.offset).run P w = .ok u w:=by simp[part,m,n,F]
       have A:(part f.type us.toArray f.offset).run P w = .ok v w:=by simp[part,m,n,E]
       simp only[Op.eqFields,if_pos J,Sem.run_bind,t,A,Result.andThen_ok,h,Sem.run_ite,B];cases p<;>simp
      .cases hc
   .cases he
  .cases he
theorem Tl{e:TypeId}{l:lQ}(hl:wU P e=some l)(d:Nat){vs us:List Value}{xs a:List D}(j:Cells c w vs xs)(h:Cells c w us a):∀(n i:Nat) (r:Bool),lS (List.replicate n l) (xs.drop i) (a.drop i)=some r ->
  (Op.eqItems (d+1) e 1 vs.toArray us.toArray (List.range' i n)).run P w = .ok r w
 | 0,i,r,hc=>by
  unfold lS at hc;split at hc
  .cases hc;rfl
  .grind
  .cases hc
 | n+1,i,r,hc=>by
  rw[bt]at hc
  cases b:xs.drop i with
  | nil=>rw[b]at hc;simp[lS]at hc
  | cons x xr=>
   cases f:a.drop i with
   | nil=>rw[b,f]at hc;simp[lS]at hc
   | cons y o=>
    rw[b,f]at hc;simp only[lS]at hc;split at hc
    .rename_i p q E C;cases hc;have J:xs[i]? = some x:=by have:=congrArg (·[0]?) b;simpa using this
     have G:a[i]? = some y:=by have:=congrArg (·[0]?) f;simpa using this
     have m:xs.drop (i+1)=xr:=by rw[<-bR,b];rfl
     have I:a.drop (i+1)=o:=by rw[<-bR,f];rfl
     obtain⟨u,B,_,F⟩:=j.get J;obtain⟨v,A,_,H⟩:=h.get G;have z:=Tl hl d j h n (i+1) q (by rw[m,I];exact C);have g:=V0 (w:=w) hl d F H E;have k:=AU (VZ hl) w;have s:(part e vs.toArray (i*1)).run P w = .ok u w:=by simp[part,k,B]
     have t:(part e us.toArray (i*1)).run P w = .ok v w:=by simp[part,k,A]
     rw[cG];simp only[Op.eqItems,Sem.run_bind,s,t,Result.andThen_ok,g,Sem.run_ite,z];cases p<;>simp
    .cases hc
theorem WJ(h:fO G c H w){t:TypeId}{ls:List lQ}(d:Kl P t=some ls)(neg:Bool){x y:D}{u v:Value}(h1:fr c w u x)(E:fr c w v y)(a:u5 true ls neg x y H K)(xo f:Operand) :
  ∃r,(do eqGuard (if neg then .neq else .eql) t xo f u v;binOp (if neg then .neq else .eql) t u v).run P w = .ok r w/\iA G c H w K r w:=by
 unfold Kl at d;split at d
 .rename_i fs i;split at d
  .rename_i g;have L:P.underlying t=some (.struct (P.fieldsOf t)):=by unfold Program.fieldsOf;rw[i]
   have I:P.fieldsOf t=fs:=by unfold Program.fieldsOf;rw[i]
   have o:∃cs ds,x = .agg cs/\y = .agg ds:=by
    unfold u5 at a;split at a
    .grind
    .contradiction
    .exact a.elim
   obtain⟨cs,ds,rfl,rfl⟩:=o;simp only[u5]at a;split at a
   .rename_i r p
    cases h1 with
    | agg vs _ m j C=>
     cases E with
     | agg us _ k B A=>
      have z:Cells c w vs cs:=⟨m,j,C⟩;have s:Cells c w us ds:=⟨k,B,A⟩;have q:=Tk (P:=P) 9998 z s fs.toList 0 ls r d (by simpa using p)
      have b:(Op.equalIn 10000 t (.agg vs.toArray) (.agg us.toArray)).run P w = .ok r w:=by rw[run_equalIn_struct w 9999 t vs.toArray us.toArray L g.1,I];exact q
      cases neg
      .simp only[bp,if_false,Sem.run_bind,run_eqGuard_agg w .eql t xo f vs.toArray us.toArray g.2,Result.andThen_ok,run_eql_struct,b];exact⟨_,rfl,.val h (by simpa using a)⟩
      .simp only[if_true,Sem.run_bind,run_eqGuard_agg w .neq t xo f vs.toArray us.toArray g.2,Result.andThen_ok,run_neq_struct,b];exact⟨_,rfl,.val h (by simpa using a)⟩
   .exact a.elim
  .cases d
 .rename_i n e i;split at d
  .rename_i g;obtain⟨hg,F,hi⟩:=g;obtain⟨J,hi⟩:=cQ.1 hi;obtain⟨l,hl,rfl⟩:=aj.1 d
   have o:∃cs ds,x = .agg cs/\y = .agg ds:=by
    unfold u5 at a;split at a
    .grind
    .contradiction
    .exact a.elim
   obtain⟨cs,ds,rfl,rfl⟩:=o;simp only[u5]at a;split at a
   .rename_i r p
    cases h1 with
    | agg vs _ m j C=>
     cases E with
     | agg us _ k B A=>
      have z:Cells c w vs cs:=⟨m,j,C⟩;have s:Cells c w us ds:=⟨k,B,A⟩;have q:=Tl (P:=P) (w:=w) hl 9998 z s n 0 r (by simpa using p)
      have b:(Op.equalIn 10000 t (.agg vs.toArray) (.agg us.toArray)).run P w = .ok r w:=by rw[run_equalIn_array (w:=w) 9999 vs.toArray us.toArray i hi,F,dg];exact q
      cases neg
      .simp only[bp,if_false,Sem.run_bind,run_eqGuard_agg w .eql t xo f vs.toArray us.toArray hg,Result.andThen_ok,run_eql_struct,b];exact⟨_,rfl,.val h (by simpa using a)⟩
      .simp only[if_true,Sem.run_bind,run_eqGuard_agg w .neq t xo f vs.toArray us.toArray hg,Result.andThen_ok,run_neq_struct,b];exact⟨_,rfl,.val h (by simpa using a)⟩
   .exact a.elim
  .cases d
 .cases d
theorem WI(h:fO G c H w){t:TypeId}(k:P.underlying t=some .bool)(neg:Bool){x y:D}{u v:Value}(h1:fr c w u x)(m:fr c w v y)(f:u5 false [.bool] neg x y H K)(xo j:Operand) :
  ∃r,(do eqGuard (if neg then .neq else .eql) t xo j u v;binOp (if neg then .neq else .eql) t u v).run P w = .ok r w/\iA G c H w K r w:=by
 simp only[u5]at f;split at f
 .rename_i r d;simp only[lS]at d;split at d
  .rename_i p q e l;cases l;cases d;unfold s0 at e;split at e
   .contradiction
   .cases h1;cases m;cases e;rename_i b g _;have a:=run_equalIn_bool' (P:=P) w 9999 t b g k;have i:Op.equal t (.bool b) (.bool g)=Op.equalIn 10000 t (.bool b) (.bool g):=rfl;cases neg
    .exact⟨_,by simp[eqGuard,binOp,i,a]<;>rfl,.val h (by simpa using f)⟩
    .exact⟨_,by simp[eqGuard,binOp,i,a]<;>rfl,.val h (by simpa using f)⟩
   .contradiction
   .cases e
  .cases d
 .grind
theorem Mi{f:FuncId}(h:rz P f=true)(args:Array Value)(w:World):(callFunc f args).run P w = .ok (.enter f args) w:=by
 unfold rz at h;split at h
 .rename_i fn b;simp only[Bool.and_eq_true,bne_iff_ne,ne_eq]at h;have a:fn.body.isNone=false:=by cases a:fn.body<;>simp[a]at h ⊢
  simp[callFunc,b,h.1];intro e;rw[e]at a;cases a
 .cases h
end
end Go.AL
namespace Go.AL
open Go
section
variable{P:Program}{G:GT}{c:Ctx}{H:U}{w:World}{K:iW}{env:gj}{a:Act}
def Bm(r:Result Next)(v:Value)(w':World):Prop:=r = .ok (.value v) w'\/(r = .ok .skip w'/\v=undef)
theorem iZ{s:Sem Value}{v:Value}{w':World}(h:s.run P w = .ok v w'):Bm ((do pure (.value (<-s)):Sem Next).run P w) v w':=.inl (by simp[h])
theorem GC{s:Sem Unit}{w':World}(h:s.run P w = .ok () w'):Bm ((do s;pure .skip:Sem Next).run P w) undef w':=.inr ⟨by simp[h],rfl⟩
theorem aiG(h:fO G c H w){s d:TypeId}{sd:TypeDesc}{k:IntKind}(hs:P.underlying s=some sd)(b:P.underlying d=some (.int k)){x:D}{u:Value}(h1:fr c w u x)
  (a:DV k x H K):∃r,(convert s d u).run P w = .ok r w/\iA G c H w K r w:=by
 unfold DV at a;split at a
 .rename_i f n;cases h1;have e:P.intKind d=k:=by simp[Program.intKind,b]
  have:=run_convert_int (P:=P) w s d f n (by rw[hs];rfl) (by rw[e];exact b);rw[e]at this;exact⟨_,this,.val h a⟩
 .exact a.elim
theorem aiZ(h:fO G c H w){o:Oper}{x:Operand}(l:o.op = .nilCheck x){d:D}(h1:fr c w (a.eval x) d)
  (g:FF d H K):∃v w',Bm ((execOp a.eval o).run P w) v w'/\iA G c H w K v w':=by
 have key:∀v,a.eval x=v->(match v with | .pointer (some _)=>True | .func (.func _) _ _=>True | .func (.yield _) _ _=>True|_=>False)->Bm ((execOp a.eval o).run P w) v w:=by intro v i m;refine .inl ?_;simp only[execOp,l,i];split at m<;>simp_all
 generalize i:a.eval x=v at h1;unfold FF at g;split at g
 .cases h1 with
  | ptr _ _ _ L k j=>exact⟨_,w,key _ i trivial,.plain h g (.ptr _ _ _ L k j)⟩
 .obtain⟨b,p,e,u,t⟩:=xJ h1;subst e;exact⟨_,w,key _ i trivial,.plain h g h1⟩
 .cases h1 with
  | fn f fs cs y z s r q n=>exact⟨_,w,key _ i trivial,.plain h g (.fn _ fs cs _ _ s r q n)⟩
 .cases h1 with
  | iw _ L k j=>exact⟨_,w,key _ i trivial,.plain h g (.iw _ L k j)⟩
 .exact g.elim
theorem QA{l:Array Operand}{xs:List D}(h:iR c w (l.toList.map a.eval) xs):∃vs:List Value,l.map a.eval=vs.toArray/\iR c w vs xs:=
 ⟨_,by cases l;simp,h⟩
theorem vG{o:Oper}{cl:Call}(c:o.op = .call cl){b:Builtin}(d:cl.callee = .builtin b):(execOp a.eval o).run P w=(builtin b cl.argTypes o.type (cl.args.map λ| .const _=>true|_=>false) (cl.args.map a.eval)).run P w:=by simp only[execOp,c,resolve,d,Sem.run_bind,Sem.run_pure,Result.andThen_ok,invoke];rfl
theorem W2(h:fO G c H w)(B:kc c w env a){al:Al}(gH:mj H al){o:Oper}{io:gZ}(g:mE P G o=some io)(A:Dz env H al K io) :
  ∃v w',Bm ((execOp a.eval o).run P w) v w'/\iA G c H w K v w':=by
 unfold mE at g
 cases p:o.op with
 | move x=>
  simp only[p,ax,ag,aB,ak]at g;obtain⟨X,hX,rfl⟩:=g;exact⟨_,w,.inl (by simp only[execOp,p];rfl),.plain h A (ia h B hX)⟩
 | assign x=>
  simp only[p,ax,ag,aB,ak]at g;obtain⟨X,hX,rfl⟩:=g;exact⟨_,w,.inl (by simp only[execOp,p];rfl),.plain h A (ia h B hX)⟩
 | pick x y z=>
  simp only[p,ax,ag,aB,ak]at g;obtain⟨X,hX,Y,E,Z,hZ,rfl⟩:=g;obtain⟨b,J,j⟩:=ai0 h (ia h B hX) (ia h B E) (ia h B hZ) A;exact⟨_,w,.inl (by simp[execOp,p,J];rfl),j⟩
 | box e x=>
  simp only[p,ax,ag,aB,ak]at g;obtain⟨X,hX,rfl⟩:=g;obtain⟨r,w',U,j⟩:=aiA (P:=P) h gH e (ia h B hX) A;exact⟨r,w',by simp only[execOp,p];exact iZ U,j⟩
 | alloc e=>
  simp only[p,ax,ag,aB,ak]at g;obtain⟨z,O,rfl⟩:=g;obtain⟨r,w',U,j⟩:=aiv (P:=P) h gH O A;exact⟨r,w',by simp only[execOp,p];exact iZ U,j⟩
 | build t ps=>
  simp only[p,ax,ag]at g;obtain⟨z,O,l,hl,g⟩:=g;split at g
  .rename_i fs C;split at g
   .rename_i hf;simp only[ag,aB,ak]at g;obtain⟨qs,hq,rfl⟩:=g;obtain⟨r,U,j⟩:=aiB h B O hl C hf hq A;exact⟨r,w,by simp only[execOp,p];exact iZ U,j⟩
   .cases g
  .rename_i n e C;simp only[ag,aB,ak]at g;obtain⟨sz,hs,rfl⟩:=g;obtain⟨r,U,j⟩:=aiC h B O hl C hs A;exact⟨r,w,by simp only[execOp,p];exact iZ U,j⟩
  .cases g
 | buildSlice t n ps=>
  simp only[p,ax,ag]at g;obtain⟨S,C,g⟩:=g;split at g
  .rename_i e;simp only[ag]at g;obtain⟨z,O,sz,hs,l,hl,g⟩:=g;split at g
   .rename_i T;cases g;obtain⟨r,w',U,j⟩:=aiD (P:=P) h gH B C O hs hl T.1 T.2.1 T.2.2 A;exact⟨r,w',by simp only[execOp,p];exact iZ U,j⟩
   .cases g
  .cases g
 | load t x=>
  simp only[p,ax,ag]at g;obtain⟨X,hX,n,D,b,J,g⟩:=g;cases b
  .cases g;obtain⟨v,q,j⟩:=aiR h J (ia h B hX) A;exact⟨v,w,by simp only[execOp,p];exact iZ q,j⟩
  .cases g;obtain⟨v,q,j⟩:=aiS h J D (ia h B hX) A;exact⟨v,w,by simp only[execOp,p];exact iZ q,j⟩
 | store t x y=>
  simp only[p,ax,ag]at g;obtain⟨X,hX,Y,E,n,D,b,J,g⟩:=g;cases b
  .simp only[bp,if_false]at g;split at g
   .rename_i e;subst e;cases g;obtain⟨w',q,j⟩:=ai6 h D (ia h B hX) (ia h B E) A;exact⟨_,w',by simp only[execOp,p];exact GC q,j⟩
   .cases g
  .cases g;obtain⟨w',q,j⟩:=ai7 h D (ia h B hX) (ia h B E) A;exact⟨_,w',by simp only[execOp,p];exact GC q,j⟩
 | nilCheck x=>
  simp only[p,ax,ag,aB,ak]at g;obtain⟨X,hX,rfl⟩:=g;exact aiZ h p (ia h B hX) A
 | binOp op t x y yt=>
  simp only[p,ax,ag]at g;obtain⟨X,hX,Y,E,g⟩:=g;have I:=ia h B hX;have Q:=ia h B E;split at g
  .split at g
   .rename_i J;cases g;obtain⟨v,q,j⟩:=WI (P:=P) h (by unfold JN at J;split at J<;>first|assumption|cases J) false I Q A x y;exact⟨v,w,by simp only[execOp,p];exact iZ q,j⟩
   .split at g
    .cases g;obtain⟨v,q,j⟩:=Qg (P:=P) h I Q A t x y;exact⟨v,w,by simp only[execOp,p];exact iZ q,j⟩
    .simp only[ag,aB,ak]at g;obtain⟨ls,wG,rfl⟩:=g;obtain⟨v,q,j⟩:=WJ (P:=P) h wG false I Q A x y;exact⟨v,w,by simp only[execOp,p];exact iZ q,j⟩
  .split at g
   .rename_i J;cases g;obtain⟨v,q,j⟩:=WI (P:=P) h (by unfold JN at J;split at J<;>first|assumption|cases J) true I Q A x y;exact⟨v,w,by simp only[execOp,p];exact iZ q,j⟩
   .split at g
    .cases g;obtain⟨v,q,j⟩:=Qg (P:=P) h I Q A t x y;exact⟨v,w,by simp only[execOp,p];exact iZ q,j⟩
    .simp only[ag,aB,ak]at g;obtain⟨ls,wG,rfl⟩:=g;obtain⟨v,q,j⟩:=WJ (P:=P) h wG true I Q A x y;exact⟨v,w,by simp only[execOp,p];exact iZ q,j⟩
  .cases g;obtain⟨v,q,j⟩:=Qg (P:=P) h I Q A t x y;exact⟨v,w,by simp only[execOp,p];exact iZ q,j⟩
 | unOp op t x=>
  simp only[p,ax,ag,aB,ak]at g;obtain⟨X,hX,rfl⟩:=g;obtain⟨v,q,j⟩:=ai8 (P:=P) h (ia h B hX) A;exact⟨v,w,by simp only[execOp,p];exact iZ q,j⟩
 | convert s d x=>
  simp only[p,ax,ag]at g;obtain⟨X,hX,sd,hs,g⟩:=g;split at g
  .rename_i k hd;cases g;obtain⟨v,q,j⟩:=aiG (P:=P) h hs hd (ia h B hX) A;exact⟨v,w,by simp only[execOp,p];exact iZ q,j⟩
  .rename_i hd;simp only[ag]at g;obtain⟨b5,my,g⟩:=g;split at g
   .rename_i e;simp only[ag]at g;obtain⟨ed,b',g⟩:=g;split at g
    .cases g;obtain⟨v,q,j⟩:=aiz (P:=P) h my b' hd (ia h B hX) A;exact⟨v,w,by simp only[execOp,p];exact iZ q,j⟩
    .cases g
   .cases g
  .cases g
 | makeFunc f first cap=>
  simp only[p,ax,ag,aB,ak]at g;obtain⟨X,hX,Y,E,rfl⟩:=g;exact⟨_,w,.inl (by simp[execOp,p,Instr.makeFunc]),aiV h B hX E A⟩
 | makeMap t r=>
  cases r with
  | some r=>simp[p]at g
  | none=>
   simp only[p,ax,ag]at g;obtain⟨S,C,g⟩:=g;split at g
   .simp only[ag,aB,ak]at g;obtain⟨kk,kz,rfl⟩:=g;obtain⟨v,w',q,j⟩:=aiW (P:=P) h gH t kk A;exact⟨v,w',by simp only[execOp,p];exact iZ q,j⟩
   .cases g
 | lookup t x i ok=>
  simp only[p,ax,ag]at g;obtain⟨S,C,g⟩:=g;split at g
  .simp only[ag,aB,ak]at g;obtain⟨z,O,kk,kz,X,hX,Y,E,rfl⟩:=g;obtain⟨v,q,j⟩:=aiT (P:=P) h C kz O ok (ia h B hX) (ia h B E) A;exact⟨v,w,by simp only[execOp,p];exact iZ q,j⟩
  .cases g
 | mapUpdate t m k x=>
  simp only[p,ax,ag]at g;obtain⟨S,C,g⟩:=g;split at g
  .simp only[ag,aB,ak]at g;obtain⟨kk,kz,X,hX,Y,E,Z,hZ,rfl⟩:=g;obtain⟨w',q,j⟩:=WK (P:=P) h C kz (ia h B hX) (ia h B E) (ia h B hZ) A;exact⟨_,w',by simp only[execOp,p];exact GC q,j⟩
  .cases g
 | insert t m k x=>
  simp only[p,ax,ag]at g;obtain⟨S,C,g⟩:=g;split at g
  .simp only[ag,aB,ak]at g;obtain⟨kk,kz,X,hX,Y,E,Z,hZ,rfl⟩:=g;obtain⟨w',q,j⟩:=WK (P:=P) h C kz (ia h B hX) (ia h B E) (ia h B hZ) A;exact⟨_,w',by simp only[execOp,p];exact GC q,j⟩
  .cases g
 | makeSlice t l m=>
  simp only[p,ax,ag]at g;obtain⟨S,C,g⟩:=g;split at g
  .simp only[ag]at g;obtain⟨z,O,i,hi,g⟩:=g;split at g
   .rename_i T;simp only[ag,aB,ak]at g;obtain⟨X,hX,Y,E,rfl⟩:=g;obtain⟨v,w',q,j⟩:=aiX (P:=P) h gH C hi O T.1 T.2 (ia h B hX) (ia h B E) A;exact⟨_,w',by simp only[execOp,p];exact iZ q,j⟩
   .cases g
  .cases g
 | slice t x lo hi mx=>
  cases mx with
  | some r=>
   cases hi with
   | none=>simp[p]at g
   | some hi=>
    simp only[p,ax,ag]at g;obtain⟨X,hX,L,hL,M,hM,N,hN,S,C,g⟩:=g;split at g
    .simp only[ag,aB,ak]at g;obtain⟨n,D,rfl⟩:=g;obtain⟨v,q,j⟩:=ai2 (P:=P) h B C D hL hM hN (ia h B hX) A;exact⟨v,w,by simp only[execOp,p];exact iZ q,j⟩
    .cases g
  | none=>
   simp only[p,ax,ag]at g;obtain⟨X,hX,L,hL,M,hM,g⟩:=g;have I:=ia h B hX;split at g
   .rename_i e C;simp only[ag,aB,ak]at g;obtain⟨n,D,rfl⟩:=g;obtain⟨v,q,j⟩:=ai4 (P:=P) h B C D hL hM I A;exact⟨v,w,by simp only[execOp,p];exact iZ q,j⟩
   .rename_i C;cases g
    have hs:∃s,ev env X = .val (.string s):=by
     simp only[Dz]at A;unfold CS at A;split at A
     .rename_i s e;exact⟨s,e⟩
     .exact A.elim
    obtain⟨s,hs⟩:=hs;simp only[Dz]at A;rw[hs]at A I
    have Ci:a.eval x = .string s:=by generalize a.eval x=u at I;cases I;rfl
    obtain⟨v,q,j⟩:=ai5 (P:=P) h B C hL hM A;exact⟨v,w,by simp only[execOp,p,Ci];exact iZ q,j⟩
   .rename_i m e C;simp only[ag,aB,ak]at g;obtain⟨n,D,rfl⟩:=g;obtain⟨v,q,j⟩:=ai3 (P:=P) h B C D hL hM I A;exact⟨v,w,by simp only[execOp,p];exact iZ q,j⟩
   .cases g
 | fieldAddr t x f=>
  simp only[p,ax,ag]at g;obtain⟨X,hX,S,C,g⟩:=g;split at g
  .simp only[ag]at g;obtain⟨fd,hf,n,D,g⟩:=g;split at g
   .rename_i jB;cases g;obtain⟨v,q,j⟩:=aiM (P:=P) h C hf D jB (ia h B hX) A;exact⟨v,w,by simp only[execOp,p];exact iZ q,j⟩
   .cases g
  .cases g
 | field t x f=>
  simp only[p,ax,ag]at g;obtain⟨X,hX,S,C,g⟩:=g;split at g
  .simp only[ag,aB,ak]at g;obtain⟨fd,hf,n,D,b,J,rfl⟩:=g;obtain⟨v,q,j⟩:=aiL (P:=P) h C hf J D (ia h B hX) A;exact⟨v,w,by simp only[execOp,p];exact iZ q,j⟩
  .cases g
 | indexAddr t x i=>
  simp only[p,ax,ag]at g;obtain⟨X,hX,Y,E,g⟩:=g;split at g
  .rename_i e C;simp only[ag]at g;obtain⟨n,D,g⟩:=g;split at g
   .rename_i jB;cases g;obtain⟨v,q,j⟩:=aiO (P:=P) h C D jB (ia h B hX) (ia h B E) A;exact⟨v,w,by simp only[execOp,p];exact iZ q,j⟩
   .cases g
  .rename_i m e C;simp only[ag,aB,ak]at g;obtain⟨n,D,rfl⟩:=g;obtain⟨v,q,j⟩:=aiP (P:=P) h C D (ia h B hX) (ia h B E) A;exact⟨v,w,by simp only[execOp,p];exact iZ q,j⟩
  .cases g
 | index t x i=>
  simp only[p,ax,ag]at g;obtain⟨X,hX,Y,E,g⟩:=g;split at g
  .rename_i m e C;simp only[ag,aB,ak]at g;obtain⟨n,D,b,J,rfl⟩:=g;obtain⟨v,q,j⟩:=aiN (P:=P) h C D J (ia h B hX) (ia h B E) A;exact⟨v,w,by simp only[execOp,p];exact iZ q,j⟩
  .rename_i C;cases g;obtain⟨v,q,j⟩:=aiQ (P:=P) h C (ia h B hX) (ia h B E) A;exact⟨v,w,by simp only[execOp,p];exact iZ q,j⟩
  .cases g
 | extract x i=>
  simp only[p,ax,ag,aB,ak]at g;obtain⟨X,hX,rfl⟩:=g;obtain⟨v,q,j⟩:=aiK (P:=P) h (ia h B hX) A;exact⟨v,w,by simp only[execOp,p];exact iZ q,j⟩
 | call cl=>
  simp only[p,ax,ag]at g;obtain⟨args,se,g⟩:=g;have F:=zb h B cl.args.toList se;split at g
  .split at g
   .cases g;split at A<;>exact(show False from A).elim
   .cases g
  .simp only[ag,aB,ak]at g;obtain⟨X,hX,rfl⟩:=g;exact(show False from A).elim
  .rename_i R;split at g
   .rename_i t u x y ky;have V:cl.argTypes = #[t,u]:=by rw[<-bF (xs:=cl.argTypes),ky]
    obtain⟨vs,W,F⟩:=QA F;simp only[List.map_cons,List.map_nil]at F
    cases F with|cons I F=>cases F with|cons Q F=>cases F with|nil=>
    simp only[ag]at g;obtain⟨S,C,g⟩:=g;split at g
    .simp only[ag]at g;obtain⟨i,hi,z,O,ud,Lo,g⟩:=g;split at g
     .split at g
      .rename_i T;cases g;obtain⟨v,w',q,j⟩:=aiw (P:=P) (ty:=o.type) h gH C ⟨_,Lo⟩ hi O T.1 T.2 I Q A;exact⟨v,w',by rw[vG p R,W,V];exact iZ q,j⟩
      .cases g
     .cases g
    .cases g
   .cases g
  .rename_i R;split at g
   .rename_i t u x y ky;have V:cl.argTypes = #[t,u]:=by rw[<-bF (xs:=cl.argTypes),ky]
    obtain⟨vs,W,F⟩:=QA F;simp only[List.map_cons,List.map_nil]at F
    cases F with|cons I F=>cases F with|cons Q F=>cases F with|nil=>
    simp only[ag]at g;obtain⟨S,C,g⟩:=g;split at g
    .simp only[ag]at g;obtain⟨ud,Lo,g⟩:=g;split at g
     .simp only[ag]at g;obtain⟨n,D,g⟩:=g;split at g
      .rename_i jB;cases g;obtain⟨v,w',q,j⟩:=aiH (P:=P) (u:=u) (ty:=o.type) h C D jB I Q A;exact⟨v,w',by rw[vG p R,W,V];exact iZ q,j⟩
      .cases g
     .cases g
    .cases g
   .cases g
  .rename_i R;split at g
   .rename_i t x ky;have V:cl.argTypes = #[t]:=by rw[<-bF (xs:=cl.argTypes),ky]
    obtain⟨vs,W,F⟩:=QA F;simp only[List.map_cons,List.map_nil]at F
    cases F with|cons I F=>cases F with|nil=>
    split at g
    .rename_i e C;cases g;obtain⟨v,q,j⟩:=Qh (P:=P) (ty:=o.type) (k:=.slice) h C ⟨e,rfl⟩ I A;exact⟨v,w,by rw[vG p R,W,V];exact iZ q,j⟩
    .rename_i C;cases g;obtain⟨v,q,j⟩:=Qh (P:=P) (ty:=o.type) (k:=.string) h C rfl I A;exact⟨v,w,by rw[vG p R,W,V];exact iZ q,j⟩
    .rename_i k e C;cases g;obtain⟨v,q,j⟩:=Qh (P:=P) (ty:=o.type) (k:=.map) h C ⟨k,e,rfl⟩ I A;exact⟨v,w,by rw[vG p R,W,V];exact iZ q,j⟩
    .cases g
   .cases g
  .rename_i R;cases g;obtain⟨v,q,j⟩:=WL (P:=P) h B se true cl.argTypes o.type A;exact⟨v,w,by rw[vG p R];exact iZ (by simpa using q),j⟩
  .rename_i R;cases g;obtain⟨v,q,j⟩:=WL (P:=P) h B se false cl.argTypes o.type A;exact⟨v,w,by rw[vG p R];exact iZ (by simpa using q),j⟩
  .cases g
 | _=>simp[p]at g
end
end Go.AL
namespace Go.AL
open Go
def Lt:Int->Bool
 | .ofNat m=>Nat.ble m 9223372036854775807
 | .negSucc m=>Nat.ble m 9223372036854775807
theorem adj(n:Int):Lt n=true↔mX n:=by
 unfold mX
 cases n with
 | ofNat m=>
  have e:Lt (.ofNat m)=Nat.ble m 9223372036854775807:=rfl;rw[e,Nat.ble_eq];have:(Int.ofNat m)=(m:Int):=rfl;omega
 | negSucc m=>
  have e:Lt (.negSucc m)=Nat.ble m 9223372036854775807:=rfl;rw[e,Nat.ble_eq];have:Int.negSucc m = -((m:Int)+1):=Int.negSucc_eq m;omega
instance(n:Int):Decidable (mX n):=decidable_of_iff (Lt n=true) (adj n)
def Lz(k:Nat):Int->Bool
 | .ofNat m=>Nat.ble m k
 | .negSucc _=>true
def pE(n:Int)(k:Nat):Prop:=n<=(k:Int)
theorem adO(n:Int)(k:Nat):Lz k n=true↔pE n k:=by
 unfold pE
 cases n with
 | ofNat m=>
  have e:Lz k (.ofNat m)=Nat.ble m k:=rfl;rw[e,Nat.ble_eq];have:(Int.ofNat m)=(m:Int):=rfl;omega
 | negSucc m=>
  have e:Lz k (.negSucc m)=true:=rfl;rw[e];have:Int.negSucc m = -((m:Int)+1):=Int.negSucc_eq m;simp only[true_iff];omega
instance(n:Int)(k:Nat):Decidable (pE n k):=decidable_of_iff (Lz k n=true) (adO n k)
inductive Dl where
 | no
 | cells (v o:Nat) (xs:List D)
 | obj (v:Nat) (ob:Ob)
 | new (ob:Ob)
 deriving Inhabited
def Dl.app(H:U)(al:Al):Dl->U
 | .no=>H
 | .cells v o xs=>match H[v]? with
  | some (.row t g cs)=>H.set v (.row t g (cs.take o++xs++cs.drop (o+xs.length)))
  | _=>H
 | .obj v ob=>H.set v ob
 | .new ob=>al.2 ob
abbrev R:=Option (D×Dl)
def ret(d:D):R:=some (d,.no)
def jl(op:BinOp)(k:IntKind)(a b:Int):Option D:=
 match op with
 | .add=>if k = .i64 then(if mX (a+b)then some (.val (.int .i64 (a+b)))else none)else some (.val (.int k (k.wrap (a+b))))
 | .sub=>if k = .i64 then(if mX (a-b)then some (.val (.int .i64 (a-b)))else none)else some (.val (.int k (k.wrap (a-b))))
 | .mul=>if k = .i64 then(if mX (a*b)then some (.val (.int .i64 (a*b)))else none)else some (.val (.int k (k.wrap (a*b))))
 | .quo=>if b=0 then none else some (.val (.int k (k.wrap (a.tdiv b))))
 | .rem=>if b=0 then none else some (.val (.int k (a.tmod b)))
 | .and | .or | .xor | .andNot=>some (.val (.int k (bits op k a b)))
 | .eql=>some (.val (.bool (a == b)))
 | .neq=>some (.val (.bool (a != b)))
 | .lss=>some (.val (.bool (decide (a<b))))
 | .leq=>some (.val (.bool (decide (a<=b))))
 | .gtr=>some (.val (.bool (decide (a>b))))
 | .geq=>some (.val (.bool (decide (a>=b))))
 | _=>none
def QS(op:BinOp)(k:IntKind)(a b:Int):Option D:=
 match op with
 | .shl=>if 0<=b then some (.val (.int k (k.wrap (a*2 ^ (min b.toNat k.bits)))))else none
 | .shr=>if 0<=b then some (.val (.int k (a.fdiv (2 ^ (min b.toNat k.bits)))))else none
 | _=>none
def CX(op:BinOp)(a b:ByteArray):Option D:=
 match op with
 | .eql=>some (.val (.bool (a.data.toList == b.data.toList)))
 | .neq=>some (.val (.bool (!(a.data.toList == b.data.toList))))
 | .add=>if pE ((a.size+b.size:Nat):Int) 9223372036854775807 then some (.val (.string (a++b)))else none
 | _=>none
def ke(op:BinOp)(x y:D):Option D:=
 match x,y with
 | .val (.int k a),.val (.int k' b)=>if oT op then QS op k a b else if k=k' then jl op k a b else none
 | .val (.string a),.val (.string b)=>CX op a b
 | _,_=>none
def CZ(op:UnOp)(x:D):Option D:=
 match op,x with
 | .not,.val (.bool b)=>some (.val (.bool (!b)))
 | .neg,.val (.int .i64 n)=>if mX (-n)then some (.val (.int .i64 (-n)))else none
 | .xor,.val (.int k n)=>some (.val (.int k (bits .xor k (if k.signed then -1 else k.max) n)))
 | _,_=>none
def zn(c:Bool)(ls:List lQ)(neg:Bool)(x y:D):Option D:=
 match c,x,y with
 | true,.agg a,.agg b=>match lS ls a b with
  | some r=>some (.val (.bool (if neg then !r else r)))
  | none=>none
 | false,x,y=>match lS ls [x] [y]with
  | some r=>some (.val (.bool (if neg then !r else r)))
  | none=>none
 | _,_,_=>none
def AI(c a b:D):Option D:=
 match c with
 | .val (.bool x)=>some (if x then a else b)
 | _=>none
def vA(x:D)(H:U):Option D:=
 match x with
 | .ptr v g o=>match rowAt H v g with
  | some (_,cs)=>cs[o]?
  | none=>none
 | .fH cs=>cs[0]?
 | _=>none
def uw(n:Nat)(x:D)(H:U):Option D:=
 match x with
 | .ptr v g o=>match rowAt H v g with
  | some (_,cs)=>if o+n<=cs.length then some (.agg ((cs.drop o).take n))else none
  | none=>none
 | .fH cs=>if n<=cs.length then some (.agg (cs.take n))else none
 | _=>none
def AY(a x:D)(H:U):R:=
 match a with
 | .ptr v g o=>match rowAt H v g with
  | some (_,cs)=>if o<cs.length/\one x=true then some (.any,.cells v o [x])else none
  | none=>none
 | _=>none
def AZ(n:Nat)(a x:D)(H:U):R:=
 match a,cellsOf x with
 | .ptr v g o,some xs=>match rowAt H v g with
  | some (_,cs)=>if xs.length=n/\o+n<=cs.length then some (.any,.cells v o xs)else none
  | none=>none
 | _,_=>none
def rX(t:TypeId)(x:D)(n:Nat):R:=
 match cellsOf x with
 | some cs=>some (.ptr n 0 0,.new (.row t 0 cs))
 | none=>none
def Br(env:gj)(z:List D)(ps:List (Nat×Nat×X)):Option D:=
 match partsOf env ps with
 | some l=>match lay l z with
  | some cs=>some (.agg cs)
  | none=>none
 | none=>none
def xH(env:gj)(t sz:Nat)(z:List D)(m:Nat)(ps:List (Nat×X))(n:Nat):R:=
 match partsOf env (ps.map λp=>(p.1*sz,sz,p.2))with
 | some l=>match lay l (List.replicate m z).flatten with
  | some cs=>some (.fm n 0 sz 0 m,.new (.row t 0 cs))
  | none=>none
 | none=>none
def D'(off:Nat)(x:D):Option D:=
 match x with
 | .ptr v g o=>some (.ptr v g (o+off))
 | .fH cs=>some (.fH (cs.drop off))
 | _=>none
def zu(off n:Nat)(a:Bool)(x:D):Option D:=
 match x with
 | .agg cs=>if a then(if off+n<=cs.length then some (.agg ((cs.drop off).take n))else none)else cs[off]?
 | _=>none
def lV(sz:Nat)(x i:D):Option D:=
 match x,i with
 | .sl gp es,.val (.int _ n)=>if gp=sz/\0<=n/\n<es.length then some (.fH (es.getD n.toNat []))else none
 | .kZ vs,.val (.int _ n)=>if 1=sz/\0<=n/\n<vs.length then some (.fH [.val (vs.getD n.toNat undef)])else none
 | .fm v g gp off len,.val (.int _ n)=>if gp=sz/\0<=n/\n<len then some (.ptr v g ((off+n.toNat)*sz))else none
 | _,_=>none
def Fe(sz n:Nat)(x i:D):Option D:=
 match x,i with
 | .ptr v g o,.val (.int _ k)=>if 0<=k/\k<n then some (.ptr v g (o+k.toNat*sz))else none
 | .fH cs,.val (.int _ k)=>if 0<=k/\k<n then some (.fH (cs.drop (k.toNat*sz)))else none
 | _,_=>none
def Lu(sz n:Nat)(a:Bool)(x i:D):Option D:=
 match x,i with
 | .agg cs,.val (.int _ k)=>if 0<=k/\k<n then zu (k.toNat*sz) sz a (.agg cs)else none
 | _,_=>none
def Pz(x i:D):Option D:=
 match x,i with
 | .val (.string s),.val (.int _ k)=>if 0<=k/\k<s.size then some (.val (.int .u8 ((s.data.toList.getD k.toNat 0).toNat)))else none
 | _,_=>none
def Ar(a:KK)(z:D)(ok:Bool)(m k:D)(H:U):Option D:=
 match m,keyOf k with
 | .fV v,some kv=>match kK H v with
  | some (kk,es)=>if kk=a/\kk.has kv=true then(match pG es kv with
    | some d=>some (if ok then .tup [d,.val (.bool true)]else d)
    | none=>some (if ok then .tup [z,.val (.bool false)]else z))else none
  | none=>none
 | _,_=>none
def yC(a:KK)(m k x:D)(H:U):R:=
 match m,keyOf k with
 | .fV v,some kv=>match kK H v with
  | some (kk,es)=>if kk=a/\kk.has kv=true then some (.any,.obj v (.map kk (lI es kv x)))else none
  | none=>none
 | _,_=>none
def Kq(x:D)(i:Nat):Option D:=
 match x with
 | .tup ds=>ds[i]?
 | _=>none
def Cy(t sz bytes:Nat)(z:List D)(l c:D)(v:Nat):R:=
 match l,c with
 | .val (.int _ n),.val (.int _ m)=>if 0<=n/\n<=m/\pE m 9223372036854775807/\pE ((bytes:Int)*m) 281474976710656 then some (.fm v 0 sz 0 n.toNat,.new (.row t 0 (List.replicate m.toNat z).flatten))else none
 | _,_=>none
def sR(env:gj)(sz:Nat)(x:D)(lo hi:Option X):Option D:=
 match x with
 | .sl a es=>match gF env lo 0,gF env hi es.length with
  | some l,some h=>if a=sz/\0<=l/\l<=h/\h<=es.length then some (.sl sz ((es.drop l.toNat).take (h.toNat-l.toNat)))else none
  | _,_=>none
 | .fm v g a off len=>match gF env lo 0,gF env hi len with
  | some l,some h=>if a=sz/\0<=l/\l<=h/\h<=len then some (.fm v g sz (off+l.toNat) (h.toNat-l.toNat))else none
  | _,_=>none
 | .fw=>match gF env lo 0,gF env hi 0 with
  | some l,some h=>if l=0/\h=0 then some .fw else none
  | _,_=>none
 | _=>none
def xf(env:gj)(sz:Nat)(x:D)(lo:Option X)(hi mx:X):Option D:=
 match gF env lo 0,gF env (some hi) 0,gF env (some mx) 0 with
 | some l,some h,some m=>match x with
  | .sl a es=>if a=sz/\0<=l/\l<=h/\h=m/\m<=es.length then some (clip sz ((es.drop l.toNat).take (h.toNat-l.toNat)))else none
  | .fm v g a off len=>if a=sz/\0<=l/\l<=h/\h<=m/\m<=len then some (.fm v g sz (off+l.toNat) (h.toNat-l.toNat))else none
  | .fw=>if l=0/\h=0/\m=0 then some .fw else none
  | _=>none
 | _,_,_=>none
def yR(env:gj)(sz n:Nat)(x:D)(lo hi:Option X)(H:U):Option D:=
 match x,gF env lo 0,gF env hi n with
 | .fH cs,some l,some h=>if sz=1/\n<=cs.length/\n<=16777216/\0<=l/\l<=h/\h<=n then some (.sl 1 (((cs.drop l.toNat).take (h.toNat-l.toNat)).map λd=>[d]))else none
 | .ptr v g o,some l,some h=>match rowAt H v g with
  | some (_,cs)=>if o % sz=0/\o+n*sz<=cs.length/\n<=16777216/\0<=l/\l<=h/\h<=n then some (.fm v g sz (o / sz+l.toNat) (h.toNat-l.toNat))else none
  | none=>none
 | _,_,_=>none
def Mq(env:gj)(x:D)(lo hi:Option X):Option D:=
 match x with
 | .val (.string s)=>match gF env lo 0,gF env hi s.size with
  | some l,some h=>if 0<=l/\l<=h/\h<=s.size then some (.val (.string (s.extract l.toNat h.toNat)))else none
  | _,_=>none
 | _=>none
def rr(t sz bytes:Nat)(x y:D)(H:U)(a:Nat):R:=
 match ki sz H y with
 | some (ys,n)=>match x with
  | .fm v g b off len=>match rowAt H v g with
   | some (t',cs)=>if b=sz/\t'=t/\(off+len)*sz<=cs.length/\(len+n)*bytes<=140737488355328/\len+n<=9223372036854775807 then
     some (.fm v (g+1) sz 0 (len+n),.obj v (.row t (g+1) ((cs.drop (off*sz)).take (len*sz)++ys)))else none
   | none=>none
  | .kZ vs=>if n≠0/\sz=1/\(vs.length+n)*bytes<=140737488355328/\vs.length+n<=9223372036854775807 then some (.fm a 0 sz 0 (vs.length+n),.new (.row t 0 (vs.map .val++ys)))else none
  | .fw=>if n=0 then some (.fw,.no)else if n*bytes<=140737488355328/\n<=9223372036854775807 then some (.fm a 0 sz 0 n,.new (.row t 0 ys))else none
  | _=>none
 | none=>none
def xP(sz:Nat)(x y:D)(H:U):R:=
 match x,ki sz H y with
 | .fm v g gp off len,some (ys,n)=>match rowAt H v g with
  | some (t,cs)=>if gp=sz/\(off+len)*sz<=cs.length then
    some (.val (.int .i64 (min n len:Nat)),.obj v (.row t g (cs.take (off*sz)++ys.take (min n len*sz)++cs.drop (off*sz+min n len*sz))))else none
  | none=>none
 | .fw,some _=>some (.val (.int .i64 0),.no)
 | _,_=>none
def mB(k:y5)(x:D)(H:U):Option D:=
 match k,x with
 | .slice,.sl _ es=>some (.val (.int .i64 es.length))
 | .slice,.fw=>some (.val (.int .i64 0))
 | .slice,.kZ vs=>some (.val (.int .i64 vs.length))
 | .slice,.fm _ _ _ _ len=>some (.val (.int .i64 len))
 | .string,.val (.string s)=>some (.val (.int .i64 s.size))
 | .map,.fV v=>match kK H v with
  | some (_,es)=>some (.val (.int .i64 es.length))
  | none=>none
 | _,_=>none
def Cx(env:gj)(d:Bool)(xs:List X):Option D:=
 match p9 env xs with
 | some [a,b]=>some (.val (.int .i64 (if d then max a b else min a b)))
 | some [a,b,c]=>some (.val (.int .i64 (if d then max (max a b) c else min (min a b) c)))
 | _=>none
def Ay(x:D):Option D:=
 match x with
 | .ptr v g o=>some (.ptr v g o)
 | .fH cs=>some (.fH cs)
 | .fn (.func f) a b=>some (.fn (.func f) a b)
 | .iw v=>some (.iw v)
 | _=>none
def J6(k:IntKind)(x:D):Option D:=
 match x with
 | .val (.int _ n)=>some (.val (.int k (k.wrap n)))
 | _=>none
def Bp(x:D)(H:U):Option D:=
 match ki 1 H x with
 | some (ys,_)=>match bytesOf ys with
  | some a=>some (.val (.string (a.foldl (λr n=>r.push (UInt8.ofNat n.toNat)) ByteArray.empty)))
  | none=>none
 | none=>none
def lift:Option D->R
 | some d=>some (d,.no)
 | none=>none
def gf(env:gj)(H:U)(n:Nat):gZ->R
 | .mv x=>lift (some (ev env x))
 | .pick c a b=>lift (AI (ev env c) (ev env a) (ev env b))
 | .box t x=>rX t (ev env x) n
 | .alloc t z=>some (.ptr n 0 0,.new (.row t 0 z))
 | .build z ps=>lift (Br env z ps)
 | .buildSl t sz z m ps=>xH env t sz z m ps n
 | .ld1 x=>lift (vA (ev env x) H)
 | .ldN m x=>lift (uw m (ev env x) H)
 | .st1 a x=>AY (ev env a) (ev env x) H
 | .stN m a x=>AZ m (ev env a) (ev env x) H
 | .nilck x=>lift (Ay (ev env x))
 | .arith op x y=>lift (ke op (ev env x) (ev env y))
 | .eqS e ls neg x y=>lift (zn e ls neg (ev env x) (ev env y))
 | .un op x=>lift (CZ op (ev env x))
 | .conv k x=>lift (J6 k (ev env x))
 | .b2s x=>lift (Bp (ev env x) H)
 | .mkfn f first cap=>lift (some (.fn f (first.map (ev env)) (cap.map (ev env))))
 | .mkmap kk=>some (.fV n,.new (.map kk []))
 | .mksl t sz bytes z l c=>Cy t sz bytes z (ev env l) (ev env c) n
 | .slc sz x lo hi=>lift (sR env sz (ev env x) lo hi)
 | .slcS x lo hi=>lift (Mq env (ev env x) lo hi)
 | .slc3 sz x lo hi mx=>lift (xf env sz (ev env x) lo hi mx)
 | .slcArr sz n x lo hi=>lift (yR env sz n (ev env x) lo hi H)
 | .fieldA off x=>lift (D' off (ev env x))
 | .field off m e x=>lift (zu off m e (ev env x))
 | .idxA sz x i=>lift (lV sz (ev env x) (ev env i))
 | .idxArr sz m x i=>lift (Fe sz m (ev env x) (ev env i))
 | .idx sz m e x i=>lift (Lu sz m e (ev env x) (ev env i))
 | .idxStr x i=>lift (Pz (ev env x) (ev env i))
 | .lookup kk z ok m k=>lift (Ar kk z ok (ev env m) (ev env k) H)
 | .mapUpd kk m k x=>yC kk (ev env m) (ev env k) (ev env x) H
 | .ext x i=>lift (Kq (ev env x) i)
 | .call _ _ | .callN _ _ | .callv _ _=>none
 | .app t sz bytes x y=>rr t sz bytes (ev env x) (ev env y) H n
 | .copy sz x y=>xP sz (ev env x) (ev env y) H
 | .len k x=>lift (mB k (ev env x) H)
 | .minmax d xs=>lift (Cx env d xs)
 | .nilS .. | .capE .. | .appZ .. | .clr .. | .rangeS .. | .nextS .. | .rangeM .. | .nextM .. | .entry .. | .mapEnt .. | .entSt .. => none
section
variable{env:gj}{H:U}{al:Al}{d:D}{δ:Dl}{K:iW}
theorem ajf{a b c:D}(h:AI a b c=some d)(e:K d H):FO a b c H K:=by unfold AI at h;unfold FO;(repeat' split at h)<;>simp_all
theorem adL{x:D}(h:vA x H=some d)(a:K d H):Fk x H K:=by unfold vA at h;unfold Fk;(repeat' split at h)<;>simp_all
theorem adM{n:Nat}{x:D}(h:uw n x H=some d)(a:K d H):Fo n x H K:=by unfold uw at h;unfold Fo;(repeat' split at h)<;>simp_all
theorem Zg{z:List D}{ps:List (Nat×Nat×X)}(h:Br env z ps=some d)(a:K d H):y9 env z ps H K:=by unfold Br at h;unfold y9;(repeat' split at h)<;>simp_all
theorem aet{x:D}(h:Ay x=some d)(a:K d H):FF x H K:=by unfold Ay at h;unfold FF;(repeat' split at h)<;>simp_all
theorem akR{op:UnOp}{x:D}(h:CZ op x=some d)(a:K d H):Gw op x H K:=by unfold CZ at h;unfold Gw;(repeat' split at h)<;>simp_all
theorem aat{b:Bool}{ls:List lQ}{neg:Bool}{x y:D}(h:zn b ls neg x y=some d)(a:K d H):u5 b ls neg x y H K:=by unfold zn at h;unfold u5;(repeat' split at h)<;>simp_all
theorem ZZ{k:IntKind}{x:D}(h:J6 k x=some d)(a:K d H):DV k x H K:=by unfold J6 at h;unfold DV;(repeat' split at h)<;>simp_all
theorem YY{x:D}(h:Bp x H=some d)(a:K d H):DF x H K:=by unfold Bp at h;unfold DF;(repeat' split at h)<;>simp_all
theorem akq{sz:Nat}{x:D}{lo hi:Option X}(h:sR env sz x lo hi=some d)(a:K d H):Gg env sz x lo hi H K:=by unfold sR at h;unfold Gg;(repeat' split at h)<;>simp_all
theorem akm{sz:Nat}{x:D}{lo:Option X}{hi mx:X}(h:xf env sz x lo hi mx=some d)(a:K d H):Ge env sz x lo hi mx H K:=by unfold xf at h;unfold Ge;(repeat' split at h)<;>simp_all<;>omega
theorem ako{sz n:Nat}{x:D}{lo hi:Option X}(h:yR env sz n x lo hi H=some d)(a:K d H):Gf env sz n x lo hi H K:=by unfold yR at h;unfold Gf;(repeat' split at h)<;>simp_all
theorem akp{x:D}{lo hi:Option X}(h:Mq env x lo hi=some d)(a:K d H):CS env x lo hi H K:=by unfold Mq at h;unfold CS;(repeat' split at h)<;>simp_all
theorem abQ{off:Nat}{x:D}(h:D' off x=some d)(a:K d H):D9 off x H K:=by unfold D' at h;unfold D9;(repeat' split at h)<;>simp_all
theorem TL{off n:Nat}{b:Bool}{x:D}(h:zu off n b x=some d)(a:K d H):zt off n b x H K:=by unfold zu at h;unfold zt;(repeat' split at h)<;>simp_all
theorem adk{sz:Nat}{x i:D}(h:lV sz x i=some d)(a:K d H):Fb sz x i H K:=by unfold lV at h;unfold Fb;(repeat' split at h)<;>simp_all
theorem adn{sz n:Nat}{x i:D}(h:Fe sz n x i=some d)(a:K d H):Fc sz n x i H K:=by unfold Fe at h;unfold Fc;(repeat' split at h)<;>simp_all
theorem ado{x i:D}(h:Pz x i=some d)(a:K d H):Fg x i H K:=by unfold Pz at h;unfold Fg;(repeat' split at h)<;>simp_all
theorem ad4{kk:KK}{z:D}{ok:Bool}{m k:D}(h:Ar kk z ok m k H=some d)(b:K d H):Fu kk z ok m k H K:=by
 unfold Ar at h;unfold Fu;split at h
 .split at h
  .split at h
   .rename_i c;obtain⟨rfl,c⟩:=c;simp only[*,true_and];split at h
    .rename_i a;cases h;simp only[a];exact b
    .rename_i a;cases h;simp only[a];exact b
   .cases h
  .cases h
 .cases h
theorem aav{x:D}{i:Nat}(h:Kq x i=some d)(a:K d H):D4 x i H K:=by unfold Kq at h;unfold D4;(repeat' split at h)<;>simp_all
theorem adV{k:y5}{x:D}(h:mB k x H=some d)(a:K d H):Fq k x H K:=by unfold mB at h;unfold Fq;(repeat' split at h)<;>simp_all
theorem ael{b:Bool}{xs:List X}(h:Cx env b xs=some d)(a:K d H):FB env b xs H K:=by unfold Cx at h;unfold FB;(repeat' split at h)<;>simp_all
theorem YR{op:BinOp}{k:IntKind}{a b:Int}(h:jl op k a b=some d)(c:K d H):DB op k a b H K:=by unfold jl at h;unfold DB;(repeat' split at h)<;>simp_all
theorem akk{op:BinOp}{k:IntKind}{a b:Int}(h:QS op k a b=some d)(c:K d H):Gc op k a b H K:=by unfold QS at h;unfold Gc;(repeat' split at h)<;>simp_all
theorem akL{op:BinOp}{a b:ByteArray}(h:CX op a b=some d)(c:K d H):Mx op a b H K:=by unfold CX at h;unfold Mx;(repeat' split at h)<;>simp_all [pE]
theorem Zd{t:TypeId}{x:D}(h:rX t x al.1=some (d,δ))(a:K d (δ.app H al)):DI t x al K:=by unfold rX at h;unfold DI;(repeat' split at h)<;>cases h<;>simp_all [Dl.app]
theorem Zf{t sz:Nat}{z:List D}{m:Nat}{ps:List (Nat×X)}(h:xH env t sz z m ps al.1=some (d,δ))(a:K d (δ.app H al)):DJ env t sz z m ps al K:=by unfold xH at h;unfold DJ;(repeat' split at h)<;>cases h<;>simp_all [Dl.app]
theorem F7{v g:Nat}{x:TypeId×List D}(h:rowAt H v g=some x):H[v]? = some (.row x.1 g x.2):=by
 unfold rowAt at h;split at h
 .split at h
  .rename_i e;subst e;cases h;assumption
  .cases h
 .cases h
theorem akI{a x:D}(h:AY a x H=some (d,δ))(c:K d (δ.app H al)):Gk a x H K:=by
 unfold AY at h;unfold Gk;split at h
 .split at h
  .rename_i v g o _ t cs f;split at h
   .rename_i b;cases h;simp only[f];refine⟨b.1,b.2,?_⟩;simp only[Dl.app,F7 f]at c
    have e:cs.set o x=cs.take o ++ [x]++cs.drop (o + [x].length):=by rw[cP,if_pos b.1];simp
    rw[e];exact c
   .cases h
  .cases h
 .cases h
theorem akJ{n:Nat}{a x:D}(h:AZ n a x H=some (d,δ))(b:K d (δ.app H al)):Gl n a x H K:=by
 unfold AZ at h;unfold Gl;split at h
 .split at h
  .rename_i v g o xs _ _ t cs e;split at h
   .rename_i c;cases h;simp only[*];refine⟨trivial,trivial,?_⟩;simp only[Dl.app,F7 e]at b;rw[c.1]at b;exact b
   .cases h
  .cases h
 .cases h
theorem aen{t sz bytes:Nat}{z:List D}{l c:D}(h:Cy t sz bytes z l c al.1=some (d,δ))(a:K d (δ.app H al)):FC t sz bytes z l c al K:=by unfold Cy at h;unfold FC;(repeat' split at h)<;>cases h<;>simp_all [Dl.app,pE]
theorem aei{kk:KK}{m k x:D}(h:yC kk m k x H=some (d,δ))(b:K d (δ.app H al)):Fx kk m k x H K:=by
 unfold yC at h;unfold Fx;split at h
 .split at h
  .split at h
   .rename_i a;obtain⟨rfl,a⟩:=a;cases h;simp only[*,true_and];exact b
   .cases h
  .cases h
 .cases h
theorem YO{t sz bytes:Nat}{x y:D}(h:rr t sz bytes x y H al.1=some (d,δ))(a:K d (δ.app H al)):DA t sz bytes x y H al K:=by unfold rr at h;unfold DA;(repeat' split at h)<;>cases h<;>simp_all [Dl.app]
theorem Z1{sz:Nat}{x y:D}(h:xP sz x y H=some (d,δ))(a:K d (δ.app H al)):DY sz x y H K:=by unfold xP at h;unfold DY;(repeat' split at h)<;>cases h<;>simp_all [Dl.app]
theorem Y9{op:BinOp}{x y:D}(h:ke op x y=some d)(a:K d H):DG op x y H K:=by
 unfold ke at h;unfold DG;split at h
 .split at h
  .rename_i hs;simp only[hs,if_true];exact akk h a
  .rename_i hs;simp only[hs];split at h
   .rename_i e;exact⟨e,YR h a⟩
   .cases h
 .exact akL h a
 .cases h
theorem adp{sz n:Nat}{b:Bool}{x i:D}(h:Lu sz n b x i=some d)(a:K d H):Ff sz n b x i H K:=by
 unfold Lu at h;unfold Ff;split at h
 .split at h
  .rename_i c;exact⟨c,TL h a⟩
  .cases h
 .cases h
theorem lH{o:Option D}(h:lift o=some (d,δ)):o=some d/\δ = .no:=by cases o<;>simp[lift]at h;exact⟨by rw[h.1],h.2.symm⟩
theorem Sd{c:gZ}(h:gf env H al.1 c=some (d,δ))(b:K d (δ.app H al)):Dz env H al K c:=by
 cases c<;>simp only[gf]at h<;>simp only[Dz]
 case mv=>obtain⟨a,rfl⟩:=lH h;cases a;exact b
 case mkfn=>obtain⟨a,rfl⟩:=lH h;cases a;exact b
 case alloc=>cases h;exact b
 case mkmap=>cases h;exact b
 case call=>cases h
 case callN=>cases h
 case callv=>cases h
 case nilS=>cases h
 case capE=>cases h
 case appZ=>cases h
 case clr=>cases h
 case rangeS=>cases h
 case nextS=>cases h
 case rangeM=>cases h
 case nextM=>cases h
 case entry=>cases h
 case mapEnt=>cases h
 case entSt=>cases h
 case box=>exact Zd h b
 case buildSl=>exact Zf h b
 case st1=>exact akI h b
 case stN=>exact akJ h b
 case mksl=>exact aen h b
 case mapUpd=>exact aei h b
 case app=>exact YO h b
 case copy=>exact Z1 h b
 case pick=>obtain⟨a,rfl⟩:=lH h;exact ajf a b
 case build=>obtain⟨a,rfl⟩:=lH h;exact Zg a b
 case ld1=>obtain⟨a,rfl⟩:=lH h;exact adL a b
 case ldN=>obtain⟨a,rfl⟩:=lH h;exact adM a b
 case nilck=>obtain⟨a,rfl⟩:=lH h;exact aet a b
 case arith=>obtain⟨a,rfl⟩:=lH h;exact Y9 a b
 case eqS=>obtain⟨a,rfl⟩:=lH h;exact aat a b
 case un=>obtain⟨a,rfl⟩:=lH h;exact akR a b
 case conv=>obtain⟨a,rfl⟩:=lH h;exact ZZ a b
 case b2s=>obtain⟨a,rfl⟩:=lH h;exact YY a b
 case slc=>obtain⟨a,rfl⟩:=lH h;exact akq a b
 case slc3=>obtain⟨a,rfl⟩:=lH h;exact akm a b
 case slcArr=>obtain⟨a,rfl⟩:=lH h;exact ako a b
 case slcS=>obtain⟨a,rfl⟩:=lH h;exact akp a b
 case fieldA=>obtain⟨a,rfl⟩:=lH h;exact abQ a b
 case field=>obtain⟨a,rfl⟩:=lH h;exact TL a b
 case idxA=>obtain⟨a,rfl⟩:=lH h;exact adk a b
 case idxArr=>obtain⟨a,rfl⟩:=lH h;exact adn a b
 case idx=>obtain⟨a,rfl⟩:=lH h;exact adp a b
 case idxStr=>obtain⟨a,rfl⟩:=lH h;exact ado a b
 case lookup=>obtain⟨a,rfl⟩:=lH h;exact ad4 a b
 case ext=>obtain⟨a,rfl⟩:=lH h;exact aav a b
 case len=>obtain⟨a,rfl⟩:=lH h;exact adV a b
 case minmax=>obtain⟨a,rfl⟩:=lH h;exact ael a b
end
end Go.AL
namespace Go.AL
open Go
mutual
def flat:D->Bool
 | .any | .val _ | .fw=>true
 | .agg cs | .tup cs=>s9 cs
 | .sl _ es=>es.isEmpty
 | _=>false
def s9:List D->Bool
 | []=>true
 | d::ds=>flat d&&s9 ds
end
def chunks(sz:Nat):Nat->List D->List (List D)
 | 0,_=>[]
 | n+1,cs=>cs.take sz::chunks sz n (cs.drop sz)
def fy(ρ:Nat->Option Nat)(H:U):Nat->D->D
 | 0,d=>if closed d then d else .any
 | k+1,d=>if closed d then d else match d with
  | .agg cs=>.agg (cs.map (fy ρ H k))
  | .tup cs=>.tup (cs.map (fy ρ H k))
  | .sl sz es=>.sl sz (es.map (·.map (fy ρ H k)))
  | .fH cs=>.fH (cs.map (fy ρ H k))
  | .fn f a b=>.fn f (a.map (fy ρ H k)) (b.map (fy ρ H k))
  | .fm v g sz off len=>match ρ v with
   | some v'=>.fm v' g sz off len
   | none=>match rowAt H v g with
    | some (_,cs)=>if (off+len)*sz<=cs.length then .sl sz (chunks sz len ((cs.drop (off*sz)).map (fy ρ H k)))else .any
    | none=>.any
  | .ptr v g off=>match ρ v with
   | some v'=>.ptr v' g off
   | none=>match rowAt H v g with
    | some (_,cs)=>.fH ((cs.drop off).map (fy ρ H k))
    | none=>.any
  | .fV v=>match ρ v with
   | some v'=>.fV v'
   | none=>.any
  | .iw v=>match ρ v with
   | some v'=>.iw v'
   | none=>.any
  | d=>d
def oy(ρ:Nat->Option Nat)(H:U):Ob->Ob
 | .row t g cs=>.row t g (cs.map (fy ρ H 40))
 | .map kk es=>.map kk (es.map λx=>(x.1,fy ρ H 40 x.2))
 | .gM rf env st=>.gM rf (env.map λx=>(x.1,fy ρ H 40 x.2)) st
 | .q' s p=>.q' s p
 | .iM m since seen=>.iM (fy ρ H 40 m) since seen
 | .km=>.km
 | .dead=>.dead
 | .kR=>.dead
abbrev mD:=List (Nat×Bool)
def gX(ks:mD)(v:Nat):Option Nat:=ks.findIdx? (λp=>p.2&&p.1 == v)
def pJ(ks:mD)(H:U):U:=ks.map λp=>if p.2 then(match H[p.1]? with|some o=>oy (gX ks) H o|none=>.dead)else .dead
def iH(n:Nat):D->List Nat
 | .fm v _ _ _ _=>if n<=v then [v]else []
 | .ptr v _ _=>if n<=v then [v]else []
 | .fV v=>if n<=v then [v]else []
 | .iw v=>if n<=v then [v]else []
 | _=>[]
def nN(n:Nat):Ob->List Nat
 | .row _ _ cs=>(cs.map (iH n)).flatten
 | .map _ es=>(es.map λx=>iH n x.2).flatten
 | _=>[]
def dedup:List Nat->List Nat
 | []=>[]
 | x::r=>if x∈r then dedup r else x::dedup r
def iv(n:Nat)(K:List Nat):mD:=((List.range n).map λv=>(v,true))++K.map λv=>(v,true)
def forget(live:List Nat)(env:Env):Env:=live.map λk=>(k,env.get k)
structure St where
 env:Env
 H:U
 marks:List Nat:=[]
 gW:Bool:=false
 deriving Inhabited
def Az(live:List Nat):Bool:=match live with
 | k::_=>Nat.beq k 9999
 | []=>false
def cut(n:Nat)(live:List Nat)(s:St):St:=
 let env:=forget live s.env
 if s.H.length<=n\/Az live=true then{ s with env:=env }else
 let K:=dedup (((env.map λp=>iH n p.2).flatten++((s.H.take n).map (nN n)).flatten++s.marks.filter (n<=·)).filter (· < s.H.length))
 let ks:=iv n K
 { s with env:=env.map λp=>(p.1,fy (gX ks) s.H 40 p.2),H:=pJ ks s.H,marks:=s.marks.map λv=>(gX ks v).getD v }
def CE(n:Nat):D->List Nat
 | .fm v _ _ 0 _=>if n<=v then [v]else []
 | .tup ds=>(ds.map λd=>match d with | .fm v _ _ 0 _=>if n<=v then [v]else []|_=>[]).flatten
 | _=>[]
inductive IR where
 | skip
 | ops (l:List gy)
 | lh (iY:List (Nat×Nat)) (l:List gy)
 | l5 (iY:List (Nat×Nat)) (l es:List gy)
 | seq (a b:IR)
 | cond (c:X) (a b:IR)
 | block (id:Nat) (live:List Nat) (a:IR)
 | loop (live:List Nat) (a:IR)
 | mZ (rf:Nat) (live:List Nat) (x:X)
 | exit (id:Nat)
 | ret
 | bad
 | fz (S:List Nat) (a:IR)
 | tR (S:List Nat) (a b:List gy)
 deriving Inhabited
inductive tF where
 | tmp (t:Nat)
 | rZ (t:Nat)
 | M7 (n t:Nat)
 deriving Inhabited
structure iE where
 ntmps:Nat
 body:IR
 results:List tF
 full:Bool:=false
 own:Nat:=0
 fz:Bool:=false
 deriving Inhabited
def CL(s:St):tF->Option D
 | .tmp t=>some (s.env.get t)
 | .rZ t=>vA (s.env.get t) s.H
 | .M7 n t=>uw n (s.env.get t) s.H
def tw(s:St):List tF->Option (List D)
 | []=>some []
 | x::r=>match CL s x,tw s r with
  | some d,some l=>some (d::l)
  | _,_=>none
def results(fn:iE)(s:St):Option D:=match tw s fn.results with
 | some [d]=>some d
 | some ds=>some (.tup ds)
 | none=>none
def sJ(args:List D):Env:=args.zipIdx.map λp=>(p.2,p.1)
def sQ:List Nat->List D->Env->Env
 | k::ks,d::ds,env=>sQ ks ds ((k,d)::env)
 | _,_,env=>env
def jS(env:gj):gZ->Option (FuncId×List D)
 | .call f args=>some (f,args.map (ev env))
 | .callN f args=>some (f,args.map (ev env))
 | .callv f args=>match ev env f with
  | .fn (.func k) first cap=>some (k,first++args.map (ev env)++cap)
  | _=>none
 | _=>none
def Fh:gZ->Bool
 | .call _ _ | .callN _ _ | .callv _ _=>true
 | _=>false
def guardOf(env:gj):Option (Nat×Bool)->Option Bool
 | none=>some true
 | some (s,want)=>match env s with
  | .val (.bool b)=>some (b == want)
  | .val (.tuple _)=>some false
  | _=>none
def wW(n:Nat):D->D
 | .fm v g sz off len=>.fm (v+n) g sz off len
 | d=>d
def jQ(n:Nat):D->D
 | .fm v g sz off len=>.fm (v+n) g sz off len
 | .tup ds=>.tup (ds.map (wW n))
 | .agg ds=>.agg (ds.map (wW n))
 | d=>d
def nb:Ob->Bool
 | .row _ _ cs=>fR cs
 | _=>false
def oJ:Ob->Bool
 | .row _ _ cs=>s9 cs
 | _=>false
def w9(p:D->Bool):D->Bool
 | .fm .. => true
 | d=>p d
def vD(p:D->Bool):D->Bool
 | .fm .. => true
 | .tup ds=>ds.all (w9 p)
 | .agg ds=>ds.all (w9 p)
 | d=>p d
def ma:D->Bool:=vD closed
def nO:D->Bool:=vD flat
def rowsOf(H:U)(v:Nat):Option (TypeId×Nat×List D):=match H[v]? with
 | some (.row t g cs)=>some (t,g,cs)
 | _=>none
def gN(H:U):Nat->D->List Nat
 | 0,_=>[]
 | k+1,d=>if closed d then []else match d with
  | .agg cs | .tup cs | .fH cs=>(cs.map (gN H k)).flatten
  | .sl _ es=>(es.map λe=>(e.map (gN H k)).flatten).flatten
  | .fn _ a b=>(a.map (gN H k)).flatten++(b.map (gN H k)).flatten
  | .fm v _ _ _ _ | .ptr v _ _=>v::(match rowsOf H v with
   | some (_,_,cs)=>(cs.map (gN H k)).flatten
   | none=>[])
  | .fV v | .iw v=>[v]
  | _=>[]
def leave(own:Nat)(n:Nat)(H:U)(d:D):D×U:=
 if H.length<=n\/own=4 then(d,H)else
 let K:=dedup (((match own with|0=>[]|1=>CE n d|3=>((gN H 40 d).filter (n<=·)).take 1|_=>(gN H 40 d).filter (n<=·))++((H.take n).map (nN n)).flatten).filter (· < H.length))
 let ks:=iv n K
 (fy (gX ks) H 40 d,pJ ks H)
def lN(H:U)(S:List Nat):mD:=(List.range H.length).map λv=>(v,!(S.contains v))
structure pq where
 params:List Nat
 a:IR
 b:IR
 deriving Inhabited
structure gO where
 fn:FuncId->Option iE
 round:Nat->Option pq:=λ_=>none
 sort:FuncId->Option Nat:=λ_=>none
 rR:FuncId->Bool:=λ_=>false
 r7:FuncId->Bool:=λ_=>false
def after(s:St)(dst:Option Nat)(args:List D)(r:D)(Hn:U):Option St:=
 if (if fR args then ma r&&Hn.all nb else nO r&&Hn.all oJ)then
  some { s with env:=put s.env dst (jQ s.H.length r),H:=s.H++Hn }else none
def lk(S:List Nat)(s:St):St:=
 let ks:=lN s.H S
 { s with env:=s.env.map λp=>(p.1,fy (gX ks) s.H 40 p.2),H:=pJ ks s.H }
end Go.AL
namespace Go.AL
open Go
theorem v7{ds:List D}(h:fR ds=true){i:Nat}{d:D}(a:ds[i]? = some d):closed d=true:=by
 induction ds generalizing i with
 | nil=>simp at a
 | cons x xs b=>
  simp only[fR,Bool.and_eq_true]at h
  cases i with
  | zero=>simp at a;subst a;exact h.1
  | succ i=>exact b h.2 (by simpa using a)
theorem ZF{es:List (List D)}(h:By es=true){i:Nat}{e:List D}(a:es[i]? = some e):fR e=true:=by
 induction es generalizing i with
 | nil=>simp at a
 | cons x xs b=>
  simp only[By,Bool.and_eq_true]at h
  cases i with
  | zero=>simp at a;subst a;exact h.1
  | succ i=>exact b h.2 (by simpa using a)
theorem fr.closed{c c':Ctx}{w:World}(A:∀b,c.F b->c'.F b){u:Value}{d:D}(h:fr c w u d)(l:closed d=true):fr c' w u d:=by
 induction h with
 | any v=>exact .any _
 | val v=>exact .val _
 | agg vs ds hl h1 h n=>exact .agg vs _ hl h1 λi v d m k=>n i v d m k (v7 l k)
 | tup vs ds hl h n=>exact .tup vs _ hl λi v d m k=>n i v d m k (v7 l k)
 | sl a len cap sz es g r F y I x p H n=>
  refine .sl a len cap sz _ g r F y I x ?_ λi e j d s k=>n i e j d s k (v7 (ZF l s) k);intro i e j d s k;obtain⟨b,o,z,q,t,h1⟩:=p i e j d s k;exact⟨b,o,z,A b q,t,h1⟩
 | fw=>exact .fw
 | kZ a vs y x p=>
  refine .kZ a vs y x ?_;intro i v m;obtain⟨b,o,z,q,t,h1⟩:=p i v m;exact⟨b,o,z,A b q,t,h1⟩
 | fm=>cases l
 | lJ=>cases l
 | ptr=>cases l
 | fH b o cs g q p H n=>exact .fH b o _ g (A b q) p λj d k=>n j d k (v7 l k)
 | fV=>cases l
 | fn f fs cs K L G E h1 J C B=>
  simp only[AL.closed,Bool.and_eq_true]at l;exact .fn f fs cs _ _ G E (λi v d m k=>C i v d m k (v7 l.1 k)) (λi v d m k=>B i v d m k (v7 l.2 k))
 | iw=>cases l
theorem BJ{ds:List D}(h:s9 ds=true){i:Nat}{d:D}(a:ds[i]? = some d):flat d=true:=by
 induction ds generalizing i with
 | nil=>simp at a
 | cons x xs b=>
  simp only[s9,Bool.and_eq_true]at h
  cases i with
  | zero=>simp at a;subst a;exact h.1
  | succ i=>exact b h.2 (by simpa using a)
theorem fr.flat{c c':Ctx}{w:World}{u:Value}{d:D}(h:fr c w u d)(b:flat d=true):fr c' w u d:=by
 induction h with
 | any v=>exact .any _
 | val v=>exact .val _
 | agg vs ds hl h1 h j=>exact .agg vs _ hl h1 λi v d k f=>j i v d k f (BJ b f)
 | tup vs ds hl h j=>exact .tup vs _ hl λi v d k f=>j i v d k f (BJ b f)
 | sl a len cap sz es g e m n q l o p j=>
  simp only[AL.flat,dK]at b;subst b;exact .sl a len cap sz _ g e m n (by simp) l (by simp) (by simp)
 | fw=>exact .fw
 | kZ=>cases b
 | fm=>cases b
 | lJ=>cases b
 | ptr=>cases b
 | fH=>cases b
 | fV=>cases b
 | fn=>cases b
 | iw=>cases b
theorem Su(sz:Nat):∀(n:Nat) (cs:List D),(chunks sz n cs).length=n
 | 0,_=>rfl
 | n+1,cs=>by simp[chunks,Su sz n]
theorem Nb(sz:Nat):∀(n:Nat) (cs:List D) (i:Nat) (e:List D),(chunks sz n cs)[i]? = some e->i<n/\e=(cs.drop (i*sz)).take sz
 | 0,_,i,e,h=>by simp[chunks]at h
 | n+1,cs,0,e,h=>by simp[chunks]at h;subst h;simp
 | n+1,cs,i+1,e,h=>by simp only[chunks,cU]at h;obtain⟨h1,a⟩:=Nb sz n _ i e h;refine⟨by omega,?_⟩;rw[a,bR];congr 2;rw[bg];omega
theorem akl{c:Ctx}{w:World}{b o sz len cap:Nat}{vs:List Value}{ds:List D}(n:c.F b)(k:Cells c w vs ds)(hl:ds.length=len*sz)(l:len<=cap)(m:cap<=maxLen)
  (r:∀(j:Nat) (v:Value),vs[j]? = some v->w.cell? ⟨b,o+j,none⟩=some v):fr c w (.slice (some ⟨b,o,none⟩) len cap) (.sl sz (chunks sz len ds)):=by
 have h:∀(i:Nat) (e:List D) (j:Nat) (d:D),(chunks sz len ds)[i]? = some e->e[j]? = some d->ds[i*sz+j]? = some d/\j<sz:=by
  intro i e j d a f;obtain⟨_,rfl⟩:=Nb sz len ds i e a;rw[aC]at f;split at f
  .grind
  .cases f
 refine .sl _ len cap sz _ (λi j=>vs.getD (i*sz+j) undef) (Su _ _ _) l m ?_ (by simp) ?_ ?_
 .intro e a;obtain⟨i,hi⟩:=aA.1 a;obtain⟨h1,rfl⟩:=Nb sz len ds i e hi;simp only[aK,aQ,hl];have:(i+1)*sz<=len*sz:=bj _ h1;rw[bg]at this;omega
 .intro i e j d a f;obtain⟨h1,_⟩:=h i e j d a f;obtain⟨v,g,q,_⟩:=k.get h1;refine⟨b,o,rfl,n,?_,?_⟩
  .grind
  .grind
 .intro i e j d a f;obtain⟨h1,_⟩:=h i e j d a f;obtain⟨v,g,_,p⟩:=k.get h1;simp only[List.getD,g,aO];exact p
theorem Cells.map{c c':Ctx}{w:World}{f:D->D}(g:∀v d,fr c w v d->fr c' w v (f d)){vs:List Value}{cs:List D}(h:Cells c w vs cs):Cells c' w vs (cs.map f):=
 ⟨by simpa using h.len,h.one,λi v d e a=>by
  simp only[aq,aj]at a;obtain⟨d0,b,rfl⟩:=a
  exact g _ _ (h.rep i v d0 e b)⟩
def Ctx.fy(c:Ctx)(ks:mD)(H:U):Ctx where
 ι:=λi g=>match ks[i]? with
  | some p=>c.ι p.1 g
  | none=>none
 F:=λb=>c.F b\/∃v L,kX c H v L/\gX ks v=none/\L.jg=false/\L.b=b
 RT:=c.RT
theorem Xq{ks:mD}{v i:Nat}(h:gX ks v=some i):ks[i]? = some (v,true):=by unfold gX at h;rw[dB]at h;obtain⟨hi,a,_⟩:=h;simp only[Bool.and_eq_true,beq_iff_eq]at a;rw[List.getElem?_eq_getElem hi];congr 1;exact eN a.2 a.1
theorem Xp{ks:mD}{v:Nat}(h:gX ks v=none)(i:Nat):ks[i]?≠some (v,true):=by intro hi;unfold gX at h;rw[dj]at h;have:=h _ (List.mem_of_getElem? hi);simp at this
section
variable{G:GT}{c:Ctx}{H:U}{w:World}{ks:mD}
theorem C6{v i g:Nat}(h:gX ks v=some i):(c.fy ks H).ι i g=c.ι v g:=by simp[Ctx.fy,Xq h]
theorem Bj{b:Nat}(h:c.F b):(c.fy ks H).F b:=Or.inl h
theorem RS{v:Nat}{L:Loc}(h1:kX c H v L)(b:gX ks v=none)(a:L.jg=false):(c.fy ks H).F L.b:=Or.inr ⟨v,L,h1,b,a,rfl⟩
theorem yJ(h:fO G c H w):∀(k:Nat) {u:Value} {d:D},fr c w u d->fr (c.fy ks H) w u (fy (gX ks) H k d)
 | 0,u,d,q=>by
  unfold AL.fy;split
  .rename_i K;exact q.closed (λb M=>Bj M) K
  .exact .any _
 | k+1,u,d,q=>by
  have A:=λ{u:Value} {d:D} (q:fr c w u d)=>yJ h k q;unfold AL.fy;split
  .rename_i K;exact q.closed (λb M=>Bj M) K
  .cases q with
   | any v=>exact .any _
   | val v=>exact .val _
   | agg vs ds hl h1 z=>
     refine .agg vs _ (by simpa using hl) h1 λi v d l y=>?_;simp only[aq,aj]at y;obtain⟨d0,C,rfl⟩:=y;exact A (z i v d0 l C)
   | tup vs ds hl z=>
     refine .tup vs _ (by simpa using hl) λi v d l y=>?_;simp only[aq,aj]at y;obtain⟨d0,C,rfl⟩:=y;exact A (z i v d0 l C)
   | sl a len cap sz es g s E F gV W R q=>
    refine .sl a len cap sz _ g (by simpa using s) E F ?_ W ?_ ?_
    .grind
    .intro i e j d S y;simp only[aq,aj]at S;obtain⟨e0,J,rfl⟩:=S;simp only[aq,aj]at y;obtain⟨d0,C,rfl⟩:=y;obtain⟨b,o,ha,I,U,h1⟩:=R i e0 j d0 J C;exact⟨b,o,ha,Bj I,U,h1⟩
    .grind
   | fw=>exact .fw
   | kZ a vs h1 z T=>rename_i hn;exact absurd rfl hn
   | fm v g sz off len cap L p l E F V=>
    dsimp only;split
    .rename_i v' r;exact .fm v' g sz off len cap L (by rw[C6 r];exact p) l E F V
    .rename_i Q;split
     .rename_i t cs O;split
      .rename_i mh;have B:=sP O;obtain⟨P,h1,z,T,N⟩:=xc h B p l;have Z:=(((N.drop (off*sz)).map (λ_ _ q=>A q)).take (len*sz));have s:((cs.drop (off*sz)).map (AL.fy (gX ks) H k)).length=(cs.length-off*sz):=by simp
       have Oy:chunks sz len ((cs.drop (off*sz)).map (AL.fy (gX ks) H k))=chunks sz len (((cs.drop (off*sz)).map (AL.fy (gX ks) H k)).take (len*sz)):=by
        have key:∀(n:Nat) (xs:List D),chunks sz n xs=chunks sz n (xs.take (n*sz)):=by
         intro n
         induction n with
         | zero=>intro xs;rfl
         | succ n A=>
          intro xs;simp only[chunks];rw[dz,Nat.min_eq_left (by rw[bg];omega),A (xs.drop sz),List.drop_take,show(n+1)*sz-sz=n*sz by rw[bg];omega]
        exact key _ _
       rw[Oy];refine akl (RS ⟨_,B,rfl,p⟩ Q l) Z ?_ E F λj x m=>?_
       .grind
       .rw[aC]at m;split at m
        .rw[aH,aC]at m;split at m
         .rw[aH]at m;simp[World.cell?,h1];rw[aU];simpa using m
         .cases m
        .cases m
      .exact .any _
     .exact .any _
   | lJ v g sz off L p a=>
    dsimp only;split
    .rename_i v' r;exact .lJ v' g sz off L (by rw[C6 r];exact p) a
    .split
     .split
      .exact .sl a 0 0 sz _ (λ_ _=>undef) rfl (Nat.le_refl _) (by unfold maxLen;omega) (by simp[chunks]) (λ_=>rfl) (by simp[chunks]) (by simp[chunks])
      .exact .any _
     .exact .any _
   | ptr v g off L p l=>
    dsimp only;split
    .rename_i v' r;exact .ptr v' g off L (by rw[C6 r];exact p) l
    .rename_i Q;split
     .rename_i t cs O;have B:=sP O;obtain⟨P,h1,z,T,N⟩:=xc h B p l;refine NR (RS ⟨_,B,rfl,p⟩ Q l) ⟨_,(N.drop off).map (λ_ _ q=>A q),λj x m=>?_⟩;rw[aH,aC]at m;split at m
      .rw[aH]at m;simp[World.cell?,h1];rw[aU];simpa using m
      .cases m
     .exact .any _
   | fH b o cs g I R q=>
    refine .fH b o _ g (Bj I) ?_ ?_
    .grind
    .grind
   | fV v L p l=>
    dsimp only;split
    .rename_i v' r;exact .fV v' L (by rw[C6 r];exact p) l
    .exact .any _
   | fn f fs cs df dc Y X h1 z=>
    refine .fn f fs cs _ _ (by simpa using Y) (by simpa using X) ?_ ?_
    .grind
    .grind
   | iw v L p l=>
    dsimp only;split
    .rename_i v' r;exact .iw v' L (by rw[C6 r];exact p) l
    .exact .any _
