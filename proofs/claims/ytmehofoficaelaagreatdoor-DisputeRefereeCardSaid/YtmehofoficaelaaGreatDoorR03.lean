/- Part 3 of DisputeReferee. -/
import Derived.Test.YtmehofoficaelaaGreatDoorR02
import Derived.ChangeKeysEq
set_option linter.all false
namespace Go.AL
open Go
section
variable{P:Program}{G:GT}{c:Ctx}{H:U}{w:World}{K:ji}{env:gD}{a:Act}
theorem P'{x:D}{kv u:Value}(b:fF c w u x)(h:keyOf x=some kv):u=kv:=by
 unfold keyOf at h;split at h
 .cases h;cases b;rfl
 .cases h;cases b;rfl
 .cases h;cases b;rfl
 .rename_i cs;simp only[aj]at h;obtain⟨l,hl,rfl⟩:=h
  cases b with
  | agg vs _ a _ h1=>
   have key:∀(cs:List D) (vs l:List Value),FU cs=some l->vs.length=cs.length->(∀(i:Nat) (v:Value) (d:D),vs[i]? = some v->cs[i]? = some d->fF c w v d)->vs=l:=by
    intro cs
    induction cs with
    | nil=>intro vs l hl a _;simp[FU]at hl;subst hl;exact bg (by simpa using a)
    | cons d cs j=>
     intro vs l hl a h1
     cases vs with
     | nil=>simp at a
     | cons v vs=>
      unfold FU at hl;split at hl
      .grind
      .rename_i k n r e;cases e;simp only[aj]at hl;obtain⟨g,f,rfl⟩:=hl;have h0:=h1 0 v _ rfl rfl;cases h0;rw[j vs g f (by simpa using a) (λi v d m o=>h1 (i+1) v d (by simpa using m) (by simpa using o))]
      .cases hl
   rw[key cs vs l hl a h1]
 .cases h
def xJ:List Value->List Value->Bool
 | .int k a::x,.int k' b::y=>k == k'&&a == b&&xJ x y
 | [],[]=>true
 | _,_=>false
theorem Zf{t:TypeId}{k:IntKind}(h:P.underlying t=some (.int k)):oj P t=some false:=by simp[oj,h]
theorem CZ{k:IntKind}{ks:List IntKind}{vs:List Value}(h:sn (k::ks) vs=true):∃n a,vs = .int k n::a/\sn ks a=true:=by
 cases vs with
 | nil=>cases h
 | cons v a=>
  cases v<;>simp[sn]at h;obtain⟨rfl,h⟩:=h;exact⟨_,_,rfl,h⟩
theorem QM{t:TypeId}{k a:IntKind}(h:P.underlying t=some (.int k)){vs:List Value}{i:Nat}{n:Int}(b:vs[i]? = some (.int a n)):(part t vs.toArray i).run P w = .ok (.int a n) w:=by simp[part,Bo (Zf h) w,b]
theorem TL(d:Nat){vs us:List Value}:∀(fs:List Field) (i:Nat) (ks:List IntKind),AW P i fs=some ks->sn ks (vs.drop i)=true->sn ks (us.drop i)=true ->
  (Op.eqFields (d+1) vs.toArray us.toArray fs).run P w = .ok (xJ (vs.drop i) (us.drop i)) w
 | [],i,ks,h,hv,hu=>by
  cases h
  cases b:vs.drop i with
  | nil=>cases a:us.drop i with
   | nil=>rfl
   | cons y B=>rw[a]at hu;cases hu
  | cons x xr=>rw[b]at hv;cases hv
 | f::fs,i,ks,h,hv,hu=>by
  simp only[AW]at h;split at h
  .rename_i k s c p;split at h
   .rename_i r;obtain⟨z,u⟩:=r;cases h;obtain⟨n,l,b,q⟩:=CZ hv;obtain⟨m,o,a,t⟩:=CZ hu;have A:vs[i]? = some (.int k n):=by have:=congrArg (·[0]?) b;simpa using this
    have v:us[i]? = some (.int k m):=by have:=congrArg (·[0]?) a;simpa using this
    have e:vs.drop (i+1)=l:=by rw[<-bT,b];rfl
    have j:us.drop (i+1)=o:=by rw[<-bT,a];rfl
    have g:=TL d fs (i+1) s p (by rw[e];exact q) (by rw[j];exact t);rw[e,j]at g;rw[b,a];simp only[Op.eqFields,if_pos u,Sem.run_bind,z,QM c A,QM c v,Result.andThen_ok,run_equalIn_int w d f.type k k n m c,Sem.run_ite,g,xJ];cases n == m<;>simp
   .cases h
  .cases h
theorem Wl{l:List IntKind}:∀ {a b:List Value},sn l a=true->sn l b=true->mV (.agg a.toArray) (.agg b.toArray)=xJ a b:=by
 induction l with
 | nil=>intro a b h1 c;cases a<;>cases b<;>simp[sn]at h1 c;simp[mV,xJ]
 | cons k ks d=>
  intro a b h1 c;obtain⟨n,i,rfl,f⟩:=CZ h1;obtain⟨m,g,rfl,e⟩:=CZ c;have h:=d f e;simp[mV,xJ]at h ⊢;rw[<-h];cases n == m<;>cases i.length == g.length<;>simp
theorem Y6:∀ {a b:List Value},xJ a b=true->a=b
 | [],[],_=>rfl
 | .int k n::a,.int k' m::b,h=>by simp[xJ]at h;obtain⟨⟨rfl,rfl⟩,h⟩:=h;rw[Y6 h]
 | [],_::_,h=>by simp[xJ]at h
theorem Yk(n:Nat):∀ {l:List IntKind} {a:List Value},sn l a=true->(a.zip a).all (λ(x,y)=>Instr.sameBits n x y)=true
 | [],[],_=>rfl
 | k::l,v::a,h=>by obtain⟨m,r,e,h⟩:=CZ h;cases e;simp only[List.zip_cons_cons,List.all_cons,Yk n h];cases n<;>simp[Instr.sameBits]
def KC(P:Program)(t:TypeId)(d:TypeDesc)(kk:KK):Prop:=(∃k,d = .int k/\kk = .int k)\/(d = .string/\kk = .str)\/(d = .bool/\kk = .bool)\/∃fs l,d = .struct fs/\kk = .ints l/\AW P 0 fs.toList=some l/\P.stoodInHeld t=false
theorem Na{t:TypeId}{kk:KK}(h:tK P t=some kk):∃d,P.underlying t=some d/\KC P t d kk:=by
 unfold tK at h;split at h
 .rename_i fs a;split at h
  .rename_i hs;obtain⟨l,hl,rfl⟩:=aj.1 h;exact⟨_,a,.inr (.inr (.inr ⟨fs,l,rfl,rfl,hl,hs⟩))⟩
  .cases h
 .rename_i k a;cases h;exact⟨_,a,.inl ⟨k,rfl,rfl⟩⟩
 .rename_i a;cases h;exact⟨_,a,.inr (.inl ⟨rfl,rfl⟩)⟩
 .rename_i a;cases h;exact⟨_,a,.inr (.inr (.inl ⟨rfl,rfl⟩))⟩
 .cases h
theorem ZX{t:TypeId}{k:IntKind}(h:P.underlying t=some (.int k))(b:Bool)(n:Nat)(m:Int):(Instr.checkKey b (n+1) t (.int k m)).run P w = .ok () w:=by unfold Instr.checkKey;simp only[Sem.run_bind,run_underlying h,Result.andThen_ok];rfl
theorem run_checkKey{t:TypeId}{kk:KK}(h:tK P t=some kk)(b:Bool){kv:Value}(c:kk.has kv=true)(w:World):(Instr.checkKey b 10000 t kv).run P w = .ok () w:=by
 obtain⟨d,e,g⟩:=Na h;unfold Instr.checkKey;rcases g with⟨k,rfl,rfl⟩|⟨rfl,rfl⟩|⟨rfl,rfl⟩|⟨fs,l,rfl,rfl,a,_⟩
 .simp only[Sem.run_bind,run_underlying e,Result.andThen_ok];rfl
 .simp only[Sem.run_bind,run_underlying e,Result.andThen_ok];rfl
 .simp only[Sem.run_bind,run_underlying e,Result.andThen_ok];rfl
 .cases kv<;>simp[KK.has]at c;rename_i cs;obtain⟨vs⟩:=cs;simp only[Sem.run_bind,run_underlying e,Result.andThen_ok];rw[<-Array.forIn_toList];have h0:sn l (vs.drop 0)=true:=by simpa using c
  clear c h;obtain⟨i,hi⟩:∃i,i=0:=⟨_,rfl⟩;rw[<-hi]at a h0;clear hi e;generalize fs.toList=fl at a ⊢
  induction fl generalizing i l with
  | nil=>simp
  | cons f fl r=>
   simp only[AW]at a;split at a
   .rename_i k u c p;split at a
    .rename_i g;obtain⟨x,v⟩:=g;cases a;obtain⟨n,o,j,q⟩:=CZ h0;have y:vs[i]? = some (.int k n):=by have:=congrArg (·[0]?) j;simpa using this
     have m:vs.drop (i+1)=o:=by rw[<-bT,j];rfl
     have s:=r u (i+1) (by rw[m];exact q) p;rw[List.forIn_cons];simp only[if_pos v,Sem.run_bind,x,QM c y,Result.andThen_ok,ZX c,Sem.run_pure];exact s
    .cases a
   .cases a
def nc(kv:Value):List MapEntry->Nat->Option (Nat×Value)
 | [],_=>none
 | e::es,i=>if mV kv e.key then some (i,e.val)else nc kv es (i+1)
theorem Od{d:TypeDesc}{kk:KK}(f:(∃k,d = .int k/\kk = .int k)\/(d = .string/\kk = .str)\/(d = .bool/\kk = .bool)){kv:Value}(b:kk.has kv=true) :
  ∀(es:List MapEntry) (i:Nat),(∀e∈es,kk.has e.key=true)->Instr.findNow d kv es i=some (nc kv es i):=by
 intro es
 induction es with
 | nil=>intro i _;rfl
 | cons e es c=>
  intro i h;have a:=h e (by simp);have g:=c (i+1) (λe a=>h e (by simp[a]));unfold Instr.findNow nc
  have hs:Instr.sameNow d kv e.key=some (mV kv e.key):=by obtain⟨key,val,born⟩:=e;rcases f with⟨k,rfl,rfl⟩|⟨rfl,rfl⟩|⟨rfl,rfl⟩<;>cases kv<;>simp[KK.has]at b<;>cases key<;>simp[KK.has]at a<;>simp[Instr.sameNow,mV];subst b;subst a;simp
  rw[hs];cases mV kv e.key
  .grind
  .rfl
theorem Uh{t:TypeId}{fs:Array Field}{l:List IntKind}(d:P.underlying t=some (.struct fs))(f:AW P 0 fs.toList=some l)(g:P.stoodInHeld t=false){kv:Value}(b:(KK.ints l).has kv=true)(w:World) :
  ∀(es:List MapEntry) (i:Nat),(∀e∈es,(KK.ints l).has e.key=true)->(Instr.findAsking t kv es i).run P w = .ok (nc kv es i) w
 | [],i,_=>rfl
 | e::es,i,h=>by
  have a:=h e (by simp);have k:=Uh d f g b w es (i+1) λe a=>h e (by simp[a]);have m:P.underlying t=some (.struct (P.fieldsOf t)):=by unfold Program.fieldsOf;rw[d]
  have j:P.fieldsOf t=fs:=by unfold Program.fieldsOf;rw[d]
  obtain⟨key,val,born⟩:=e;cases kv<;>simp[KK.has]at b;cases key<;>simp[KK.has]at a;rename_i cs ds;obtain⟨vs⟩:=cs;obtain⟨us⟩:=ds;dsimp only at b a
  have c:(Op.equal t (.agg ⟨vs⟩) (.agg ⟨us⟩)).run P w = .ok (mV (.agg ⟨vs⟩) (.agg ⟨us⟩)) w:=by show(Op.equalIn 10000 t (.agg ⟨vs⟩) (.agg ⟨us⟩)).run P w=_;rw[run_equalIn_struct w 9999 t ⟨vs⟩ ⟨us⟩ m g,j,Wl b a];exact TL 9998 (vs:=vs) (us:=us) fs.toList 0 l f (by simpa using b) (by simpa using a)
  unfold Instr.findAsking nc;simp only[Sem.run_bind,c,Result.andThen_ok,Sem.run_ite,k];cases mV (.agg ⟨vs⟩) (.agg ⟨us⟩)<;>simp
theorem run_findKey{t:TypeId}{kk:KK}(h:tK P t=some kk){kv:Value}(f:kk.has kv=true)(es:List MapEntry)(c:∀e∈es,kk.has e.key=true)(w:World) :
  (Instr.findKey t kv es).run P w = .ok (nc kv es 0) w:=by
 obtain⟨d,b,a⟩:=Na h;rcases a with a|a|a|⟨fs,l,rfl,rfl,g,j⟩
 .simp[Instr.findKey,run_underlying b,Od (.inl a) f es 0 c]
 .simp[Instr.findKey,run_underlying b,Od (.inr (.inl a)) f es 0 c]
 .simp[Instr.findKey,run_underlying b,Od (.inr (.inr a)) f es 0 c]
 .cases es with
  | nil=>simp[Instr.findKey,run_underlying b,Instr.findNow,nc]
  | cons e es=>
   have i:Instr.findNow (.struct fs) kv (e::es) 0=none:=by unfold Instr.findNow;cases kv<;>cases e.key<;>simp[Instr.sameNow]
   simp only[Instr.findKey,Sem.run_bind,run_underlying b,Result.andThen_ok,i];exact Uh b g j f w (e::es) 0 c
theorem V3:∀ {l:List IntKind} {vs:List Value},sn l vs=true->∀v∈vs,v.oneCell'=true
 | [],[],_,v,hv=>by cases hv
 | k::ks,.int k' n::vs,h,v,hv=>by
  simp only[sn,Bool.and_eq_true]at h;rcases aw.1 hv with rfl|hv
  .rfl
  .exact V3 h.2 v hv
theorem XU{kk:KK}{v:Value}(h:kk.has v=true):fF c w v (rz v):=by
 unfold rz;split
 .rename_i cs;cases kk<;>simp only[KK.has]at h<;>first|(cases h;done)|skip
  have:=fF.agg (c:=c) (w:=w) cs.toList (cs.toList.map .val) (by simp) (V3 h) (λi v d b a=>by
   simp only[ar,b,aD,ao]at a;subst a
   exact .val _)
  simpa using this
 .exact .val _
theorem Qq{b:Array MapEntry}{a:Nat}{es:List (Value×D)}(d:D2 c w b a es){kk:KK}(f:∀x∈es,kk.has x.1=true):∀e∈b.toList,kk.has e.key=true:=by
 intro e g;obtain⟨i,hi⟩:=aA.1 g;have hl:i<es.length:=by rw[<-d.1];have:=(ae.1 hi).1;simpa using this
 obtain⟨h1,_⟩:=d.2.1 i e es[i] (by simpa using hi) (by simp[hl]);rw[h1];exact f _ (bK hl)
theorem EL(kv:Value):∀(l:List MapEntry) (es:List (Value×D)) (i:Nat),l.length=es.length ->
  (∀(j:Nat) (e:MapEntry) (x:Value×D),l[j]? = some e->es[j]? = some x->e.key=x.1/\fF c w e.val x.2) ->
  (nc kv l i=none/\pY es kv=none/\∀y,lZ es kv y=es ++ [(kv,y)]) \/
  (∃j v d,nc kv l i=some (i+j,v)/\pY es kv=some d/\fF c w v d/\j<l.length/\(∀y,lZ es kv y=es.set j (kv,y))/\∃e,l[j]? = some e/\mV kv e.key=true)
 | [],[],i,_,_=>.inl ⟨rfl,rfl,λ_=>rfl⟩
 | e::l,(k,d)::es,i,hl,h=>by
  obtain⟨f,n⟩:=h 0 e (k,d) rfl rfl;dsimp only at f n
  by_cases a:mV kv e.key=true
  .refine .inr ⟨0,e.val,d,by simp[nc,a],by simp[pY,<-f,a],n,by simp,λy=>by simp[lZ,<-f,a],e,rfl,a⟩
  .have b:mV kv k=false:=by rw[<-f];simpa using a
   rcases EL kv l es (i+1) (by simpa using hl) (λj e x a o=>h (j+1) e x (by simpa using a) (by simpa using o))with⟨h1,m,g⟩|⟨j,v,d',h1,m,g,t,r,s,q,p⟩
   .exact .inl ⟨by simp[nc,a,h1],by simp[pY,b,m],λy=>by simp[lZ,b,g]⟩
   .exact .inr ⟨j+1,v,d',by simp[nc,a,h1];omega,by simp[pY,b,m],g,by simp;omega,λy=>by simp[lZ,b,r],s,by simpa using q,p⟩
theorem ajy(h:gf G c H w){t k e:TypeId}{kk:KK}{z:D}(T:P.underlying t=some (.map k e))(I:tK P k=some kk)(y:DC P e=some z)(ok:Bool){m x:D}{u v:Value}(h1:fF c w u m)(W:fF c w v x)
  (l:F1 kk z ok m x H K):∃r,(Instr.lookup t u v ok).run P w = .ok r w/\iJ G c H w K r w:=by
 have q:∃o,(zeroValue e).run P w = .ok o w/\fF c w o z:=by
  unfold DC at y
  cases hi:P.info? e with
  | none=>simp[hi]at y
  | some i=>
   simp only[hi,Option.bind_some]at y
   cases E:i.zero with
   | none=>simp[E]at y
   | some o=>
    simp only[E,Option.bind_some]at y;exact⟨o,by simp[zeroValue,run_typeInfo hi,E],Q0 y⟩
 obtain⟨o,M,J⟩:=q;unfold F1 at l;split at l
 .rename_i v0 kv Y;split at l
  .rename_i nW es R;obtain⟨rfl,F,l⟩:=l;have f:=P' W Y;subst f
   cases h1 with
   | gg _ L X gR=>
    have B:=h.ob v0 _ (s6 R);simp only[Ob.gen]at B;rw[X]at B;simp only[gK]at B;obtain⟨_,N,g,s,U,C⟩:=B;have Z:=run_findKey I F g.toList (Qq C N) w;have O:=run_checkKey (w:=w) I g.isEmpty F
    have A:(Instr.lookup t (.map (some L.b)) v ok).run P w=((match nc v g.toList 0 with
      | some (_,v)=>Result.ok (v,true) w
      | none=>Result.ok (o,false) w:Result (Value×Bool)).andThen λp w=>.ok (if ok then .tuple #[p.1,.bool p.2]else p.1) w):=by
     have Q:(getObj L.b).run P w = .ok (.map g s) w:=by simp[getObj,Sem.run,U]
     simp only[Instr.lookup,Sem.run_bind,run_underlying T,Result.andThen_ok,Q,Sem.run_pure,O,Z]
     cases nc v g.toList 0 with
     | none=>simp[M]
     | some p=>obtain⟨_,_⟩:=p;simp
    rcases EL (c:=c) (w:=w) v g.toList es 0 (by simpa using C.1) (λj e x V S=>let ⟨a,b,_⟩:=C.2.1 j e x (by simpa using V) S;⟨a,b⟩)with⟨f1,f2,_⟩|⟨j,val,d,f1,f2,f3,_⟩
    .rw[f1]at A;rw[f2]at l;refine⟨_,A,.plain h l ?_⟩;cases ok
     .exact J
     .exact .tup [o,.bool false] [z,.val (.bool false)] rfl (λi v d f n=>by
       match i with
       | 0=>simp at f n;subst f;subst n;exact J
       | 1=>simp at f n;subst f;subst n;exact .val _
       | i+2=>simp at f)
    .rw[f1]at A;rw[f2]at l;refine⟨_,A,.plain h l ?_⟩;cases ok
     .exact f3
     .exact .tup [val,.bool true] [d,.val (.bool true)] rfl (λi v d' f n=>by
       match i with
       | 0=>simp at f n;subst f;subst n;exact f3
       | 1=>simp at f n;subst f;subst n;exact .val _
       | i+2=>simp at f)
  .exact l.elim
 .grind
theorem akM{kk:KK}(a:kk = .str\/kk = .bool\/∃k,kk = .int k){old new:Value}(h1:kk.has new=true)(b:kk.has old=true)(h:mV new old=true):Instr.sameBits 10000 old new=true:=by
 rcases a with rfl|rfl|⟨k,rfl⟩<;>cases new<;>simp[KK.has]at h1<;>cases old<;>simp[KK.has]at b<;>simp[mV]at h<;>simp[Instr.sameBits]
 .rename_i x y;obtain⟨x⟩:=x;obtain⟨y⟩:=y;have c:(x == y)=true:=h;have e:=eq_of_beq c;subst e;exact h
 .exact h.symm
 .grind
theorem Yj{kk:KK}(b:(kk = .str\/kk = .bool\/∃k,kk = .int k)\/∃l,kk = .ints l){old new:Value}(h1:kk.has new=true)(a:kk.has old=true)(h:mV new old=true):Instr.sameBits 10000 old new=true:=by
 rcases b with b|⟨l,rfl⟩
 .exact akM b h1 a h
 .cases new<;>simp[KK.has]at h1;cases old<;>simp[KK.has]at a;rename_i cs ds;obtain⟨vs⟩:=cs;obtain⟨us⟩:=ds;dsimp only at h1 a;have e:=Y6 ((Wl h1 a).symm.trans h);subst e;have:=Yk 9999 h1;simp only[Instr.sameBits,beq_self_eq_true,eF];exact this
theorem zq{G:GT}{c:Ctx}{H:U}{w:World}(h:gf G c H w){v:Nat}{ob ob':Ob}(a:H[v]? = some ob)(e:ob.alive=true)(i:ob'.alive=true)(m:ob'.gen=ob.gen){L:Loc}(g:c.ι v ob.gen=some L)(f:L.jr=false)(o':Obj)
  (k:∀w',w'.heap[L.b]? = some o'->(∀u d,fF c w u d->fF c w' u d)->gK c w' (some L) ob') :
  gf G c (H.set v ob') { w with heap:=w.heap.setIfInBounds L.b o' }/\Step H.length c H w c (H.set v ob') { w with heap:=w.heap.setIfInBounds L.b o' }:=by
 have l:=h.lt _ ⟨v,L,⟨ob,a,e,g⟩,f,rfl⟩;refine YY (w':={ w with heap:=w.heap.setIfInBounds L.b o' }) h a e i m g f ⟨rfl,Nat.le_refl _⟩ rfl rfl (by simp) (λb j=>?_) (k _ (by simp[l]));rw[cD (cF j)]
theorem WO{es:List (Value×D)}{kv:Value}{y:D}:∀x∈lZ es kv y,x∈es\/x=(kv,y):=by
 induction es with
 | nil=>intro x a;simp[lZ]at a;exact .inr a
 | cons e es b=>
  intro x a;obtain⟨k,d⟩:=e;simp only[lZ]at a;split at a
  .grind
  .grind
theorem Xe(h:gf G c H w){t k e:TypeId}{kk:KK}(W:P.underlying t=some (.map k e))(Q:tK P k=some kk){m x y:D}{u v A:Value}(h1:fF c w u m)(h2:fF c w v x)(X:fF c w A y)
  (z:F5 kk m x y H K):∃w',(Instr.mapUpdate t u v A).run P w = .ok () w'/\iJ G c H w K undef w':=by
 have Px:(kk = .str\/kk = .bool\/∃k,kk = .int k)\/∃l,kk = .ints l:=by
  obtain⟨d,_,hc⟩:=Na Q;rcases hc with⟨k,_,rfl⟩|⟨_,rfl⟩|⟨_,rfl⟩|⟨_,l,_,rfl,_⟩
  .grind
  .grind
  .grind
  .grind
 unfold F5 at z;split at z
 .rename_i v0 kv Fe;split at z
  .rename_i E es R;obtain⟨rfl,C,z⟩:=z;have hv:=P' h2 Fe;subst hv
   cases h1 with
   | gg _ L T I=>
    have J:=h.ob v0 _ (s6 R);simp only[Ob.gen]at J;rw[T]at J;simp only[gK]at J;obtain⟨_,sQ,g,f,F,o⟩:=J;have Z:=Qq o sQ;have Av:=run_findKey Q C g.toList Z w;have V:=run_checkKey (w:=w) Q false C
    have Y:∀U,∀x∈lZ es v U,E.has x.1=true:=λU x n=>by
     rcases WO x n with h|rfl
     .grind
     .exact C
    rcases EL (c:=c) (w:=w) v g.toList es 0 (by simpa using o.1) (λj e x s n=>let ⟨a,b,_⟩:=o.2.1 j e x (by simpa using s) n;⟨a,b⟩)with⟨f1,f2,f3⟩|⟨j,val,d,f1,f2,_,f4,f5,M,f6,f7⟩
    .have S:(Instr.mapUpdate t (.map (some L.b)) v A).run P w = .ok () { w with heap:=w.heap.setIfInBounds L.b (.map (g.push { key:=v,val:=A,born:=f }) (f+1)) }:=by
      have O:(getObj L.b).run P w = .ok (.map g f) w:=by simp[getObj,Sem.run,F]
      simp only[Instr.mapUpdate,Sem.run_bind,run_underlying W,Result.andThen_ok,O,V,Av,f1];simp[setObj,Sem.run,F]
     obtain⟨m1,m2⟩:=zq h (s6 R) rfl rfl rfl T I (.map (g.push { key:=v,val:=A,born:=f }) (f+1)) (ob':=.map E (lZ es v y)) (by
      intro w' N B;simp only[gK];refine⟨I,Y y,_,_,N,?_⟩;rw[f3];refine⟨by simp[o.1],λi e x s n=>?_,by simp[o.2.2]⟩;rw[ef]at s;split at s
      .rename_i hi;cases s;rw[ai (by rw[hi,o.1];exact Nat.le_refl _),hi,o.1]at n;simp at n;subst n;exact⟨rfl,B _ _ X,by rw[hi,o.1,o.2.2]⟩
      .have hi:i<es.length:=by rw[<-o.1];exact(aL.1 s).1
       rw[ah hi]at n;obtain⟨p,q,r⟩:=o.2.1 i e x s n
       exact⟨p,B _ _ q,r⟩)
     exact⟨_,S,.any,_,c,z,m1,.any _,m2⟩
    .have mJ:j<g.size:=by simpa using f4
     have uH:g[j]? = some M:=by simpa using f6
     have Pf:E.has M.key=true:=Z M (List.mem_of_getElem? f6)
     have PI:(Instr.keyThatStays M.key v).run P w = .ok v w:=by simp[Instr.keyThatStays,Yj Px C Pf f7]
     have S:(Instr.mapUpdate t (.map (some L.b)) v A).run P w = .ok () { w with heap:=w.heap.setIfInBounds L.b (.map (g.modify j λe=>{ e with key:=v,val:=A }) f) }:=by
      have O:(getObj L.b).run P w = .ok (.map g f) w:=by simp[getObj,Sem.run,F]
      simp only[Instr.mapUpdate,Sem.run_bind,run_underlying W,Result.andThen_ok,O,V,Av,f1,aM,uH,aD,aP,PI];simp[setObj,Sem.run,F]
     obtain⟨m1,m2⟩:=zq h (s6 R) rfl rfl rfl T I (.map (g.modify j λe=>{ e with key:=v,val:=A }) f) (ob':=.map E (lZ es v y)) (by
      intro w' N B;simp only[gK];refine⟨I,Y y,_,_,N,?_⟩;rw[f5];refine⟨by simp[o.1],λi e x s n=>?_,by simp[o.2.2]⟩
      .rw[aX]at s;rw[bM]at n;split at s
       .rename_i hi;subst hi;rw[if_pos rfl]at n;simp only[aj]at s;obtain⟨e0,h0,rfl⟩:=s;split at n
        .cases n;have hj:j<es.length:=by rw[<-o.1];exact mJ
         exact⟨rfl,B _ _ X,(o.2.1 j e0 es[j] h0 (by simp[hj])).2.2⟩
        .cases n
       .rename_i hi;rw[if_neg hi]at n;obtain⟨p,q,r⟩:=o.2.1 i e x s n
        exact⟨p,B _ _ q,r⟩)
     exact⟨_,S,.any,_,c,z,m1,.any _,m2⟩
  .exact z.elim
 .exact z.elim
end
end Go.AL
namespace Go.AL
open Go
section
variable{P:Program}{G:GT}{c:Ctx}{H:U}{w:World}{K:ji}{env:gD}{a:Act}
theorem Ww{t:TypeId}{l:mg}(hl:xm P t=some l)(d:Nat){x y:D}{u v:Value}(h1:fF c w u x)(b:fF c w v y){r:Bool}(h:tv l x y=some r):(Op.equalIn (d+1) t u v).run P w = .ok r w:=by
 unfold tv at h;split at h
 .rename_i k m f n;cases h1;cases b;split at h
  .rename_i e;subst e;cases h;unfold xm at hl;split at hl
   .rename_i k0 a;exact run_equalIn_int w d t k k0 m n a
   .cases hl
   .cases hl
   .cases hl
  .cases h
 .cases h1;cases b;cases h;unfold xm at hl;split at hl
  .cases hl
  .cases hl
  .rename_i a;exact run_equalIn_bool' w d t _ _ a
  .cases hl
 .cases h1;cases b;cases h;rename_i p q;unfold xm at hl;split at hl
  .cases hl
  .rename_i a;have:=run_equalIn_string (P:=P) w d t p q a;rw[ByteArray.toList_eq,ByteArray.toList_eq]at this;exact this
  .cases hl
  .cases hl
 .cases h
theorem Wv{t:TypeId}{l:mg}(hl:xm P t=some l):oj P t=some false:=by unfold xm at hl;unfold oj;split at hl<;>first|(rename_i a;simp[a])|(rename_i k a;simp[a])|cases hl
theorem TM(d:Nat){vs us:List Value}{xs a:List D}(k:Cells c w vs xs)(j:Cells c w us a):∀(fs:List Field) (i:Nat) (ls:List mg) (r:Bool),KP P i fs=some ls->mb ls (xs.drop i) (a.drop i)=some r ->
  (Op.eqFields (d+1) vs.toArray us.toArray fs).run P w = .ok r w
 | [],i,ls,r,he,hc=>by
  cases he;unfold mb at hc;split at hc
  .cases hc;rfl
  .grind
  .cases hc
 | f::fs,i,ls,r,he,hc=>by
  simp only[KP]at he;split at he
  .rename_i l g hl z;split at he
   .rename_i C;obtain⟨n,J⟩:=C;cases he
    cases b:xs.drop i with
    | nil=>rw[b]at hc;simp[mb]at hc
    | cons x xr=>
     cases e:a.drop i with
     | nil=>rw[b,e]at hc;simp[mb]at hc
     | cons y o=>
      rw[b,e]at hc;simp only[mb]at hc;split at hc
      .rename_i p q H G;cases hc;have N:xs[i]? = some x:=by have:=congrArg (·[0]?) b;simpa using this
       have K:a[i]? = some y:=by have:=congrArg (·[0]?) e;simpa using this
       have s:xs.drop (i+1)=xr:=by rw[<-bT,b];rfl
       have M:a.drop (i+1)=o:=by rw[<-bT,e];rfl
       obtain⟨u,F,_,I⟩:=k.get N;obtain⟨v,E,_,L⟩:=j.get K;have B:=TM d k j fs (i+1) g q z (by rw[s,M];exact G);have h:=Ww (w:=w) hl d I L H;have m:=Bo (Wv hl) w;have t:(part f.type vs.toArray f.offset).run P w = .ok u w:=by simp[part,m,n,F]
       have A:(part f.type us.toArray f.offset).run P w = .ok v w:=by simp[part,m,n,E]
       simp only[Op.eqFields,if_pos J,Sem.run_bind,t,A,Result.andThen_ok,h,Sem.run_ite,B];cases p<;>simp
      .cases hc
   .cases he
  .cases he
theorem TN{e:TypeId}{l:mg}(hl:xm P e=some l)(d:Nat){vs us:List Value}{xs a:List D}(j:Cells c w vs xs)(h:Cells c w us a):∀(n i:Nat) (r:Bool),mb (List.replicate n l) (xs.drop i) (a.drop i)=some r ->
  (Op.eqItems (d+1) e 1 vs.toArray us.toArray (List.range' i n)).run P w = .ok r w
 | 0,i,r,hc=>by
  unfold mb at hc;split at hc
  .cases hc;rfl
  .grind
  .cases hc
 | n+1,i,r,hc=>by
  rw[bt]at hc
  cases b:xs.drop i with
  | nil=>rw[b]at hc;simp[mb]at hc
  | cons x xr=>
   cases f:a.drop i with
   | nil=>rw[b,f]at hc;simp[mb]at hc
   | cons y m=>
    rw[b,f]at hc;simp only[mb]at hc;split at hc
    .rename_i p q E C;cases hc;have J:xs[i]? = some x:=by have:=congrArg (·[0]?) b;simpa using this
     have G:a[i]? = some y:=by have:=congrArg (·[0]?) f;simpa using this
     have o:xs.drop (i+1)=xr:=by rw[<-bT,b];rfl
     have I:a.drop (i+1)=m:=by rw[<-bT,f];rfl
     obtain⟨u,B,_,F⟩:=j.get J;obtain⟨v,A,_,H⟩:=h.get G;have z:=TN hl d j h n (i+1) q (by rw[o,I];exact C);have g:=Ww (w:=w) hl d F H E;have k:=Bo (Wv hl) w;have s:(part e vs.toArray (i*1)).run P w = .ok u w:=by simp[part,k,B]
     have t:(part e us.toArray (i*1)).run P w = .ok v w:=by simp[part,k,A]
     rw[cG];simp only[Op.eqItems,Sem.run_bind,s,t,Result.andThen_ok,g,Sem.run_ite,z];cases p<;>simp
    .cases hc
theorem Xd(h:gf G c H w){t:TypeId}{ls:List mg}(d:KQ P t=some ls)(neg:Bool){x y:D}{u v:Value}(h1:fF c w u x)(E:fF c w v y)(a:vz true ls neg x y H K)(xo f:Operand) :
  ∃r,(do eqGuard (if neg then .neq else .eql) t xo f u v;binOp (if neg then .neq else .eql) t u v).run P w = .ok r w/\iJ G c H w K r w:=by
 unfold KQ at d;split at d
 .rename_i fs i;split at d
  .rename_i g;have J:P.underlying t=some (.struct (P.fieldsOf t)):=by unfold Program.fieldsOf;rw[i]
   have F:P.fieldsOf t=fs:=by unfold Program.fieldsOf;rw[i]
   have m:∃cs ds,x = .agg cs/\y = .agg ds:=by
    unfold vz at a;split at a
    .grind
    .contradiction
    .exact a.elim
   obtain⟨cs,ds,rfl,rfl⟩:=m;simp only[vz]at a;split at a
   .rename_i r o
    cases h1 with
    | agg vs _ j C q=>
     cases E with
     | agg us _ k z s=>
      have B:Cells c w vs cs:=⟨j,C,q⟩;have A:Cells c w us ds:=⟨k,z,s⟩;have p:=TM (P:=P) 9998 B A fs.toList 0 ls r d (by simpa using o)
      have b:(Op.equalIn 10000 t (.agg vs.toArray) (.agg us.toArray)).run P w = .ok r w:=by rw[run_equalIn_struct w 9999 t vs.toArray us.toArray J g.1,F];exact p
      cases neg
      .simp only[bq,if_false,Sem.run_bind,run_eqGuard_agg w .eql t xo f vs.toArray us.toArray g.2,Result.andThen_ok,run_eql_struct,b];exact⟨_,rfl,.val h (by simpa using a)⟩
      .simp only[if_true,Sem.run_bind,run_eqGuard_agg w .neq t xo f vs.toArray us.toArray g.2,Result.andThen_ok,run_neq_struct,b];exact⟨_,rfl,.val h (by simpa using a)⟩
   .exact a.elim
  .cases d
 .rename_i n e i;split at d
  .rename_i g;obtain⟨hg,L,hi⟩:=g;obtain⟨I,hi⟩:=cS.1 hi;obtain⟨l,hl,rfl⟩:=aj.1 d
   have m:∃cs ds,x = .agg cs/\y = .agg ds:=by
    unfold vz at a;split at a
    .grind
    .contradiction
    .exact a.elim
   obtain⟨cs,ds,rfl,rfl⟩:=m;simp only[vz]at a;split at a
   .rename_i r o
    cases h1 with
    | agg vs _ j C q=>
     cases E with
     | agg us _ k z s=>
      have B:Cells c w vs cs:=⟨j,C,q⟩;have A:Cells c w us ds:=⟨k,z,s⟩;have p:=TN (P:=P) (w:=w) hl 9998 B A n 0 r (by simpa using o)
      have b:(Op.equalIn 10000 t (.agg vs.toArray) (.agg us.toArray)).run P w = .ok r w:=by rw[run_equalIn_array (w:=w) 9999 vs.toArray us.toArray i hi,L,dj];exact p
      cases neg
      .simp only[bq,if_false,Sem.run_bind,run_eqGuard_agg w .eql t xo f vs.toArray us.toArray hg,Result.andThen_ok,run_eql_struct,b];exact⟨_,rfl,.val h (by simpa using a)⟩
      .simp only[if_true,Sem.run_bind,run_eqGuard_agg w .neq t xo f vs.toArray us.toArray hg,Result.andThen_ok,run_neq_struct,b];exact⟨_,rfl,.val h (by simpa using a)⟩
   .exact a.elim
  .cases d
 .cases d
theorem Xc(h:gf G c H w){t:TypeId}(k:P.underlying t=some .bool)(neg:Bool){x y:D}{u v:Value}(h1:fF c w u x)(m:fF c w v y)(f:vz false [.bool] neg x y H K)(xo j:Operand) :
  ∃r,(do eqGuard (if neg then .neq else .eql) t xo j u v;binOp (if neg then .neq else .eql) t u v).run P w = .ok r w/\iJ G c H w K r w:=by
 simp only[vz]at f;split at f
 .rename_i r d;simp only[mb]at d;split at d
  .rename_i p q e l;cases l;cases d;unfold tv at e;split at e
   .contradiction
   .cases h1;cases m;cases e;rename_i b g _;have a:=run_equalIn_bool' (P:=P) w 9999 t b g k;have i:Op.equal t (.bool b) (.bool g)=Op.equalIn 10000 t (.bool b) (.bool g):=rfl;cases neg
    .exact⟨_,by simp[eqGuard,binOp,i,a]<;>rfl,.val h (by simpa using f)⟩
    .exact⟨_,by simp[eqGuard,binOp,i,a]<;>rfl,.val h (by simpa using f)⟩
   .contradiction
   .cases e
  .cases d
 .grind
theorem MJ{f:FuncId}(h:rT P f=true)(args:Array Value)(w:World):(callFunc f args).run P w = .ok (.enter f args) w:=by
 unfold rT at h;split at h
 .rename_i fn b;simp only[Bool.and_eq_true,bne_iff_ne,ne_eq]at h;have a:fn.body.isNone=false:=by cases a:fn.body<;>simp[a]at h ⊢
  simp[callFunc,b,h.1];intro e;rw[e]at a;cases a
 .cases h
end
end Go.AL
namespace Go.AL
open Go
section
variable{P:Program}{G:GT}{c:Ctx}{H:U}{w:World}{K:ji}{env:gD}{a:Act}
def BS(r:Result Next)(v:Value)(w':World):Prop:=r = .ok (.value v) w'\/(r = .ok .skip w'/\v=undef)
theorem jl{s:Sem Value}{v:Value}{w':World}(h:s.run P w = .ok v w'):BS ((do pure (.value (<-s)):Sem Next).run P w) v w':=.inl (by simp[h])
theorem Hb{s:Sem Unit}{w':World}(h:s.run P w = .ok () w'):BS ((do s;pure .skip:Sem Next).run P w) undef w':=.inr ⟨by simp[h],rfl⟩
theorem ajl(h:gf G c H w){s d:TypeId}{sd:TypeDesc}{k:IntKind}(hs:P.underlying s=some sd)(b:P.underlying d=some (.int k)){x:D}{u:Value}(h1:fF c w u x)
  (a:Et k x H K):∃r,(convert s d u).run P w = .ok r w/\iJ G c H w K r w:=by
 unfold Et at a;split at a
 .rename_i f n;cases h1;have e:P.intKind d=k:=by simp[Program.intKind,b]
  have:=run_convert_int (P:=P) w s d f n (by rw[hs];rfl) (by rw[e];exact b);rw[e]at this;exact⟨_,this,.val h a⟩
 .exact a.elim
theorem ajE(h:gf G c H w){o:Oper}{x:Operand}(l:o.op = .nilCheck x){d:D}(h1:fF c w (a.eval x) d)
  (g:Gb d H K):∃v w',BS ((execOp a.eval o).run P w) v w'/\iJ G c H w K v w':=by
 have key:∀v,a.eval x=v->(match v with | .pointer (some _)=>True | .func (.func _) _ _=>True | .func (.yield _) _ _=>True|_=>False)->BS ((execOp a.eval o).run P w) v w:=by intro v i m;refine .inl ?_;simp only[execOp,l,i];split at m<;>simp_all
 generalize i:a.eval x=v at h1;unfold Gb at g;split at g
 .cases h1 with
  | ptr _ _ _ L k j=>exact⟨_,w,key _ i trivial,.plain h g (.ptr _ _ _ L k j)⟩
 .obtain⟨b,p,e,u,t⟩:=yd h1;subst e;exact⟨_,w,key _ i trivial,.plain h g h1⟩
 .cases h1 with
  | fn f fs cs y z s r q n=>exact⟨_,w,key _ i trivial,.plain h g (.fn _ fs cs _ _ s r q n)⟩
 .cases h1 with
  | iH _ L k j=>exact⟨_,w,key _ i trivial,.plain h g (.iH _ L k j)⟩
 .exact g.elim
theorem Q1{l:Array Operand}{xs:List D}(h:je c w (l.toList.map a.eval) xs):∃vs:List Value,l.map a.eval=vs.toArray/\je c w vs xs:=
 ⟨_,by cases l;simp,h⟩
theorem wh{o:Oper}{cl:Call}(c:o.op = .call cl){b:Builtin}(d:cl.callee = .builtin b):(execOp a.eval o).run P w=(builtin b cl.argTypes o.type (cl.args.map λ| .const _=>true|_=>false) (cl.args.map a.eval)).run P w:=by simp only[execOp,c,resolve,d,Sem.run_bind,Sem.run_pure,Result.andThen_ok,invoke];rfl
theorem Xx(h:gf G c H w)(B:kq c w env a){al:Al}(gQ:mC H al){o:Oper}{io:iu}(g:mQ P G o=some io)(A:D7 env H al K io) :
  ∃v w',BS ((execOp a.eval o).run P w) v w'/\iJ G c H w K v w':=by
 unfold mQ at g
 cases p:o.op with
 | move x=>
  simp only[p,ay,ag,aB,ao]at g;obtain⟨X,hX,rfl⟩:=g;exact⟨_,w,.inl (by simp only[execOp,p];rfl),.plain h A (iv h B hX)⟩
 | assign x=>
  simp only[p,ay,ag,aB,ao]at g;obtain⟨X,hX,rfl⟩:=g;exact⟨_,w,.inl (by simp only[execOp,p];rfl),.plain h A (iv h B hX)⟩
 | pick x y z=>
  simp only[p,ay,ag,aB,ao]at g;obtain⟨X,hX,Y,E,Z,hZ,rfl⟩:=g;obtain⟨b,J,j⟩:=ajF h (iv h B hX) (iv h B E) (iv h B hZ) A;exact⟨_,w,.inl (by simp[execOp,p,J];rfl),j⟩
 | box e x=>
  simp only[p,ay,ag,aB,ao]at g;obtain⟨X,hX,rfl⟩:=g;obtain⟨r,w',U,j⟩:=ajf (P:=P) h gQ e (iv h B hX) A;exact⟨r,w',by simp only[execOp,p];exact jl U,j⟩
 | alloc e=>
  simp only[p,ay,ag,aB,ao]at g;obtain⟨z,O,rfl⟩:=g;obtain⟨r,w',U,j⟩:=aja (P:=P) h gQ O A;exact⟨r,w',by simp only[execOp,p];exact jl U,j⟩
 | build t ps=>
  simp only[p,ay,ag]at g;obtain⟨z,O,l,hl,g⟩:=g;split at g
  .rename_i fs C;split at g
   .rename_i hf;simp only[ag,aB,ao]at g;obtain⟨qs,hq,rfl⟩:=g;obtain⟨r,U,j⟩:=ajg h B O hl C hf hq A;exact⟨r,w,by simp only[execOp,p];exact jl U,j⟩
   .cases g
  .rename_i n e C;simp only[ag,aB,ao]at g;obtain⟨sz,hs,rfl⟩:=g;obtain⟨r,U,j⟩:=ajh h B O hl C hs A;exact⟨r,w,by simp only[execOp,p];exact jl U,j⟩
  .cases g
 | buildSlice t n ps=>
  simp only[p,ay,ag]at g;obtain⟨S,C,g⟩:=g;split at g
  .rename_i e;simp only[ag]at g;obtain⟨z,O,sz,hs,l,hl,g⟩:=g;split at g
   .rename_i T;cases g;obtain⟨r,w',U,j⟩:=aji (P:=P) h gQ B C O hs hl T.1 T.2.1 T.2.2 A;exact⟨r,w',by simp only[execOp,p];exact jl U,j⟩
   .cases g
  .cases g
 | load t x=>
  simp only[p,ay,ag]at g;obtain⟨X,hX,n,D,b,J,g⟩:=g;cases b
  .cases g;obtain⟨v,q,j⟩:=ajw h J (iv h B hX) A;exact⟨v,w,by simp only[execOp,p];exact jl q,j⟩
  .cases g;obtain⟨v,q,j⟩:=ajx h J D (iv h B hX) A;exact⟨v,w,by simp only[execOp,p];exact jl q,j⟩
 | store t x y=>
  simp only[p,ay,ag]at g;obtain⟨X,hX,Y,E,n,D,b,J,g⟩:=g;cases b
  .simp only[bq,if_false]at g;split at g
   .rename_i e;subst e;cases g;obtain⟨w',q,j⟩:=ajL h D (iv h B hX) (iv h B E) A;exact⟨_,w',by simp only[execOp,p];exact Hb q,j⟩
   .cases g
  .cases g;obtain⟨w',q,j⟩:=ajM h D (iv h B hX) (iv h B E) A;exact⟨_,w',by simp only[execOp,p];exact Hb q,j⟩
 | nilCheck x=>
  simp only[p,ay,ag,aB,ao]at g;obtain⟨X,hX,rfl⟩:=g;exact ajE h p (iv h B hX) A
 | binOp op t x y yt=>
  simp only[p,ay,ag]at g;obtain⟨X,hX,Y,E,g⟩:=g;have I:=iv h B hX;have Q:=iv h B E;split at g
  .split at g
   .rename_i J;cases g;obtain⟨v,q,j⟩:=Xc (P:=P) h (by unfold Ke at J;split at J<;>first|assumption|cases J) false I Q A x y;exact⟨v,w,by simp only[execOp,p];exact jl q,j⟩
   .split at g
    .cases g;obtain⟨v,q,j⟩:=QI (P:=P) h I Q A t x y;exact⟨v,w,by simp only[execOp,p];exact jl q,j⟩
    .simp only[ag,aB,ao]at g;obtain⟨ls,w9,rfl⟩:=g;obtain⟨v,q,j⟩:=Xd (P:=P) h w9 false I Q A x y;exact⟨v,w,by simp only[execOp,p];exact jl q,j⟩
  .split at g
   .rename_i J;cases g;obtain⟨v,q,j⟩:=Xc (P:=P) h (by unfold Ke at J;split at J<;>first|assumption|cases J) true I Q A x y;exact⟨v,w,by simp only[execOp,p];exact jl q,j⟩
   .split at g
    .cases g;obtain⟨v,q,j⟩:=QI (P:=P) h I Q A t x y;exact⟨v,w,by simp only[execOp,p];exact jl q,j⟩
    .simp only[ag,aB,ao]at g;obtain⟨ls,w9,rfl⟩:=g;obtain⟨v,q,j⟩:=Xd (P:=P) h w9 true I Q A x y;exact⟨v,w,by simp only[execOp,p];exact jl q,j⟩
  .cases g;obtain⟨v,q,j⟩:=QI (P:=P) h I Q A t x y;exact⟨v,w,by simp only[execOp,p];exact jl q,j⟩
 | unOp op t x=>
  simp only[p,ay,ag,aB,ao]at g;obtain⟨X,hX,rfl⟩:=g;obtain⟨v,q,j⟩:=ajN (P:=P) h (iv h B hX) A;exact⟨v,w,by simp only[execOp,p];exact jl q,j⟩
 | convert s d x=>
  simp only[p,ay,ag]at g;obtain⟨X,hX,sd,hs,g⟩:=g;split at g
  .rename_i k hd;cases g;obtain⟨v,q,j⟩:=ajl (P:=P) h hs hd (iv h B hX) A;exact⟨v,w,by simp only[execOp,p];exact jl q,j⟩
  .rename_i hd;simp only[ag]at g;obtain⟨b5,l8,g⟩:=g;split at g
   .rename_i e;simp only[ag]at g;obtain⟨ed,b',g⟩:=g;split at g
    .cases g;obtain⟨v,q,j⟩:=aje (P:=P) h l8 b' hd (iv h B hX) A;exact⟨v,w,by simp only[execOp,p];exact jl q,j⟩
    .cases g
   .cases g
  .cases g
 | makeFunc f first cap=>
  simp only[p,ay,ag,aB,ao]at g;obtain⟨X,hX,Y,E,rfl⟩:=g;exact⟨_,w,.inl (by simp[execOp,p,Instr.makeFunc]),ajA h B hX E A⟩
 | makeMap t r=>
  cases r with
  | some r=>simp[p]at g
  | none=>
   simp only[p,ay,ag]at g;obtain⟨S,C,g⟩:=g;split at g
   .simp only[ag,aB,ao]at g;obtain⟨kk,kE,rfl⟩:=g;obtain⟨v,w',q,j⟩:=ajB (P:=P) h gQ t kk A;exact⟨v,w',by simp only[execOp,p];exact jl q,j⟩
   .cases g
 | lookup t x i ok=>
  simp only[p,ay,ag]at g;obtain⟨S,C,g⟩:=g;split at g
  .simp only[ag,aB,ao]at g;obtain⟨z,O,kk,kE,X,hX,Y,E,rfl⟩:=g;obtain⟨v,q,j⟩:=ajy (P:=P) h C kE O ok (iv h B hX) (iv h B E) A;exact⟨v,w,by simp only[execOp,p];exact jl q,j⟩
  .cases g
 | mapUpdate t m k x=>
  simp only[p,ay,ag]at g;obtain⟨S,C,g⟩:=g;split at g
  .simp only[ag,aB,ao]at g;obtain⟨kk,kE,X,hX,Y,E,Z,hZ,rfl⟩:=g;obtain⟨w',q,j⟩:=Xe (P:=P) h C kE (iv h B hX) (iv h B E) (iv h B hZ) A;exact⟨_,w',by simp only[execOp,p];exact Hb q,j⟩
  .cases g
 | insert t m k x=>
  simp only[p,ay,ag]at g;obtain⟨S,C,g⟩:=g;split at g
  .simp only[ag,aB,ao]at g;obtain⟨kk,kE,X,hX,Y,E,Z,hZ,rfl⟩:=g;obtain⟨w',q,j⟩:=Xe (P:=P) h C kE (iv h B hX) (iv h B E) (iv h B hZ) A;exact⟨_,w',by simp only[execOp,p];exact Hb q,j⟩
  .cases g
 | makeSlice t l m=>
  simp only[p,ay,ag]at g;obtain⟨S,C,g⟩:=g;split at g
  .simp only[ag]at g;obtain⟨z,O,i,hi,g⟩:=g;split at g
   .rename_i T;simp only[ag,aB,ao]at g;obtain⟨X,hX,Y,E,rfl⟩:=g;obtain⟨v,w',q,j⟩:=ajC (P:=P) h gQ C hi O T.1 T.2 (iv h B hX) (iv h B E) A;exact⟨_,w',by simp only[execOp,p];exact jl q,j⟩
   .cases g
  .cases g
 | slice t x lo hi mx=>
  cases mx with
  | some r=>
   cases hi with
   | none=>simp[p]at g
   | some hi=>
    simp only[p,ay,ag]at g;obtain⟨X,hX,L,hL,M,hM,N,hN,S,C,g⟩:=g;split at g
    .simp only[ag,aB,ao]at g;obtain⟨n,D,rfl⟩:=g;obtain⟨v,q,j⟩:=ajH (P:=P) h B C D hL hM hN (iv h B hX) A;exact⟨v,w,by simp only[execOp,p];exact jl q,j⟩
    .cases g
  | none=>
   simp only[p,ay,ag]at g;obtain⟨X,hX,L,hL,M,hM,g⟩:=g;have I:=iv h B hX;split at g
   .rename_i e C;simp only[ag,aB,ao]at g;obtain⟨n,D,rfl⟩:=g;obtain⟨v,q,j⟩:=ajJ (P:=P) h B C D hL hM I A;exact⟨v,w,by simp only[execOp,p];exact jl q,j⟩
   .rename_i C;cases g
    have hs:∃s,ev env X = .val (.string s):=by
     simp only[D7]at A;unfold Dq at A;split at A
     .rename_i s e;exact⟨s,e⟩
     .exact A.elim
    obtain⟨s,hs⟩:=hs;simp only[D7]at A;rw[hs]at A I
    have CS:a.eval x = .string s:=by generalize a.eval x=u at I;cases I;rfl
    obtain⟨v,q,j⟩:=ajK (P:=P) h B C hL hM A;exact⟨v,w,by simp only[execOp,p,CS];exact jl q,j⟩
   .rename_i m e C;simp only[ag,aB,ao]at g;obtain⟨n,D,rfl⟩:=g;obtain⟨v,q,j⟩:=ajI (P:=P) h B C D hL hM I A;exact⟨v,w,by simp only[execOp,p];exact jl q,j⟩
   .cases g
 | fieldAddr t x f=>
  simp only[p,ay,ag]at g;obtain⟨X,hX,S,C,g⟩:=g;split at g
  .simp only[ag]at g;obtain⟨fd,hf,n,D,g⟩:=g;split at g
   .rename_i jM;cases g;obtain⟨v,q,j⟩:=ajr (P:=P) h C hf D jM (iv h B hX) A;exact⟨v,w,by simp only[execOp,p];exact jl q,j⟩
   .cases g
  .cases g
 | field t x f=>
  simp only[p,ay,ag]at g;obtain⟨X,hX,S,C,g⟩:=g;split at g
  .simp only[ag,aB,ao]at g;obtain⟨fd,hf,n,D,b,J,rfl⟩:=g;obtain⟨v,q,j⟩:=ajq (P:=P) h C hf J D (iv h B hX) A;exact⟨v,w,by simp only[execOp,p];exact jl q,j⟩
  .cases g
 | indexAddr t x i=>
  simp only[p,ay,ag]at g;obtain⟨X,hX,Y,E,g⟩:=g;split at g
  .rename_i e C;simp only[ag]at g;obtain⟨n,D,g⟩:=g;split at g
   .rename_i jM;cases g;obtain⟨v,q,j⟩:=ajt (P:=P) h C D jM (iv h B hX) (iv h B E) A;exact⟨v,w,by simp only[execOp,p];exact jl q,j⟩
   .cases g
  .rename_i m e C;simp only[ag,aB,ao]at g;obtain⟨n,D,rfl⟩:=g;obtain⟨v,q,j⟩:=aju (P:=P) h C D (iv h B hX) (iv h B E) A;exact⟨v,w,by simp only[execOp,p];exact jl q,j⟩
  .cases g
 | index t x i=>
  simp only[p,ay,ag]at g;obtain⟨X,hX,Y,E,g⟩:=g;split at g
  .rename_i m e C;simp only[ag,aB,ao]at g;obtain⟨n,D,b,J,rfl⟩:=g;obtain⟨v,q,j⟩:=ajs (P:=P) h C D J (iv h B hX) (iv h B E) A;exact⟨v,w,by simp only[execOp,p];exact jl q,j⟩
  .rename_i C;cases g;obtain⟨v,q,j⟩:=ajv (P:=P) h C (iv h B hX) (iv h B E) A;exact⟨v,w,by simp only[execOp,p];exact jl q,j⟩
  .cases g
 | extract x i=>
  simp only[p,ay,ag,aB,ao]at g;obtain⟨X,hX,rfl⟩:=g;obtain⟨v,q,j⟩:=ajp (P:=P) h (iv h B hX) A;exact⟨v,w,by simp only[execOp,p];exact jl q,j⟩
 | call cl=>
  simp only[p,ay,ag]at g;obtain⟨args,sJ,g⟩:=g;have F:=zH h B cl.args.toList sJ;split at g
  .split at g
   .cases g;split at A<;>exact(show False from A).elim
   .cases g
  .simp only[ag,aB,ao]at g;obtain⟨X,hX,rfl⟩:=g;exact(show False from A).elim
  .rename_i R;split at g
   .rename_i t u x y kc;have V:cl.argTypes = #[t,u]:=by rw[<-bH (xs:=cl.argTypes),kc]
    obtain⟨vs,W,F⟩:=Q1 F;simp only[List.map_cons,List.map_nil]at F
    cases F with|cons I F=>cases F with|cons Q F=>cases F with|nil=>
    simp only[ag]at g;obtain⟨S,C,g⟩:=g;split at g
    .simp only[ag]at g;obtain⟨i,hi,z,O,ud,LQ,g⟩:=g;split at g
     .split at g
      .rename_i T;cases g;obtain⟨v,w',q,j⟩:=ajb (P:=P) (ty:=o.type) h gQ C ⟨_,LQ⟩ hi O T.1 T.2 I Q A;exact⟨v,w',by rw[wh p R,W,V];exact jl q,j⟩
      .cases g
     .cases g
    .cases g
   .cases g
  .rename_i R;split at g
   .rename_i t u x y kc;have V:cl.argTypes = #[t,u]:=by rw[<-bH (xs:=cl.argTypes),kc]
    obtain⟨vs,W,F⟩:=Q1 F;simp only[List.map_cons,List.map_nil]at F
    cases F with|cons I F=>cases F with|cons Q F=>cases F with|nil=>
    simp only[ag]at g;obtain⟨S,C,g⟩:=g;split at g
    .simp only[ag]at g;obtain⟨ud,LQ,g⟩:=g;split at g
     .simp only[ag]at g;obtain⟨n,D,g⟩:=g;split at g
      .rename_i jM;cases g;obtain⟨v,w',q,j⟩:=ajm (P:=P) (u:=u) (ty:=o.type) h C D jM I Q A;exact⟨v,w',by rw[wh p R,W,V];exact jl q,j⟩
      .cases g
     .cases g
    .cases g
   .cases g
  .rename_i R;split at g
   .rename_i t x kc;have V:cl.argTypes = #[t]:=by rw[<-bH (xs:=cl.argTypes),kc]
    obtain⟨vs,W,F⟩:=Q1 F;simp only[List.map_cons,List.map_nil]at F
    cases F with|cons I F=>cases F with|nil=>
    split at g
    .rename_i e C;cases g;obtain⟨v,q,j⟩:=QJ (P:=P) (ty:=o.type) (k:=.slice) h C ⟨e,rfl⟩ I A;exact⟨v,w,by rw[wh p R,W,V];exact jl q,j⟩
    .rename_i C;cases g;obtain⟨v,q,j⟩:=QJ (P:=P) (ty:=o.type) (k:=.string) h C rfl I A;exact⟨v,w,by rw[wh p R,W,V];exact jl q,j⟩
    .rename_i k e C;cases g;obtain⟨v,q,j⟩:=QJ (P:=P) (ty:=o.type) (k:=.map) h C ⟨k,e,rfl⟩ I A;exact⟨v,w,by rw[wh p R,W,V];exact jl q,j⟩
    .cases g
   .cases g
  .rename_i R;cases g;obtain⟨v,q,j⟩:=Xf (P:=P) h B sJ true cl.argTypes o.type A;exact⟨v,w,by rw[wh p R];exact jl (by simpa using q),j⟩
  .rename_i R;cases g;obtain⟨v,q,j⟩:=Xf (P:=P) h B sJ false cl.argTypes o.type A;exact⟨v,w,by rw[wh p R];exact jl (by simpa using q),j⟩
  .cases g
 | _=>simp[p]at g
end
end Go.AL
namespace Go.AL
open Go
def LW:Int->Bool
 | .ofNat m=>Nat.ble m 9223372036854775807
 | .negSucc m=>Nat.ble m 9223372036854775807
theorem ad1(n:Int):LW n=true↔nq n:=by
 unfold nq
 cases n with
 | ofNat m=>
  have e:LW (.ofNat m)=Nat.ble m 9223372036854775807:=rfl;rw[e,Nat.ble_eq];have:(Int.ofNat m)=(m:Int):=rfl;omega
 | negSucc m=>
  have e:LW (.negSucc m)=Nat.ble m 9223372036854775807:=rfl;rw[e,Nat.ble_eq];have:Int.negSucc m = -((m:Int)+1):=Int.negSucc_eq m;omega
instance(n:Int):Decidable (nq n):=decidable_of_iff (LW n=true) (ad1 n)
def L6(k:Nat):Int->Bool
 | .ofNat m=>Nat.ble m k
 | .negSucc _=>true
def pW(n:Int)(k:Nat):Prop:=n<=(k:Int)
theorem aew(n:Int)(k:Nat):L6 k n=true↔pW n k:=by
 unfold pW
 cases n with
 | ofNat m=>
  have e:L6 k (.ofNat m)=Nat.ble m k:=rfl;rw[e,Nat.ble_eq];have:(Int.ofNat m)=(m:Int):=rfl;omega
 | negSucc m=>
  have e:L6 k (.negSucc m)=true:=rfl;rw[e];have:Int.negSucc m = -((m:Int)+1):=Int.negSucc_eq m;simp only[true_iff];omega
instance(n:Int)(k:Nat):Decidable (pW n k):=decidable_of_iff (L6 k n=true) (aew n k)
inductive Dl where
 | no
 | cells (v o:Nat) (xs:List D)
 | obj (v:Nat) (ob:Ob)
 | new (ob:Ob)
 deriving Inhabited
def Dl.app(H:U)(al:Al):Dl->U
 | .no=>H
 | .cells v o xs=>match H[v]? with
  | some (.row t g cs)=>H.set v (.row t g (cs.take o++xs++cs.drop (o+xs.length)))
  | _=>H
 | .obj v ob=>H.set v ob
 | .new ob=>al.2 ob
abbrev R:=Option (D×Dl)
def ret(d:D):R:=some (d,.no)
def jx(op:BinOp)(k:IntKind)(a b:Int):Option D:=
 match op with
 | .add=>if k = .i64 then(if nq (a+b)then some (.val (.int .i64 (a+b)))else none)else some (.val (.int k (k.wrap (a+b))))
 | .sub=>if k = .i64 then(if nq (a-b)then some (.val (.int .i64 (a-b)))else none)else some (.val (.int k (k.wrap (a-b))))
 | .mul=>if k = .i64 then(if nq (a*b)then some (.val (.int .i64 (a*b)))else none)else some (.val (.int k (k.wrap (a*b))))
 | .quo=>if b=0 then none else some (.val (.int k (k.wrap (a.tdiv b))))
 | .rem=>if b=0 then none else some (.val (.int k (a.tmod b)))
 | .and | .or | .xor | .andNot=>some (.val (.int k (bits op k a b)))
 | .eql=>some (.val (.bool (a == b)))
 | .neq=>some (.val (.bool (a != b)))
 | .lss=>some (.val (.bool (decide (a<b))))
 | .leq=>some (.val (.bool (decide (a<=b))))
 | .gtr=>some (.val (.bool (decide (a>b))))
 | .geq=>some (.val (.bool (decide (a>=b))))
 | _=>none
def Rn(op:BinOp)(k:IntKind)(a b:Int):Option D:=
 match op with
 | .shl=>if 0<=b then some (.val (.int k (k.wrap (a*2 ^ (min b.toNat k.bits)))))else none
 | .shr=>if 0<=b then some (.val (.int k (a.fdiv (2 ^ (min b.toNat k.bits)))))else none
 | _=>none
def Dv(op:BinOp)(a b:ByteArray):Option D:=
 match op with
 | .eql=>some (.val (.bool (a.data.toList == b.data.toList)))
 | .neq=>some (.val (.bool (!(a.data.toList == b.data.toList))))
 | .add=>if pW ((a.size+b.size:Nat):Int) 9223372036854775807 then some (.val (.string (a++b)))else none
 | _=>none
def ky(op:BinOp)(x y:D):Option D:=
 match x,y with
 | .val (.int k a),.val (.int k' b)=>if o9 op then Rn op k a b else if k=k' then jx op k a b else none
 | .val (.string a),.val (.string b)=>Dv op a b
 | _,_=>none
def Dx(op:UnOp)(x:D):Option D:=
 match op,x with
 | .not,.val (.bool b)=>some (.val (.bool (!b)))
 | .neg,.val (.int .i64 n)=>if nq (-n)then some (.val (.int .i64 (-n)))else none
 | .xor,.val (.int k n)=>some (.val (.int k (bits .xor k (if k.signed then -1 else k.max) n)))
 | _,_=>none
def zT(c:Bool)(ls:List mg)(neg:Bool)(x y:D):Option D:=
 match c,x,y with
 | true,.agg a,.agg b=>match mb ls a b with
  | some r=>some (.val (.bool (if neg then !r else r)))
  | none=>none
 | false,x,y=>match mb ls [x] [y]with
  | some r=>some (.val (.bool (if neg then !r else r)))
  | none=>none
 | _,_,_=>none
def Bd(c a b:D):Option D:=
 match c with
 | .val (.bool x)=>some (if x then a else b)
 | _=>none
def vW(x:D)(H:U):Option D:=
 match x with
 | .ptr v g o=>match rowAt H v g with
  | some (_,cs)=>cs[o]?
  | none=>none
 | .fV cs=>cs[0]?
 | _=>none
def uW(n:Nat)(x:D)(H:U):Option D:=
 match x with
 | .ptr v g o=>match rowAt H v g with
  | some (_,cs)=>if o+n<=cs.length then some (.agg ((cs.drop o).take n))else none
  | none=>none
 | .fV cs=>if n<=cs.length then some (.agg (cs.take n))else none
 | _=>none
def Bs(a x:D)(H:U):R:=
 match a with
 | .ptr v g o=>match rowAt H v g with
  | some (_,cs)=>if o<cs.length/\one x=true then some (.any,.cells v o [x])else none
  | none=>none
 | _=>none
def Bt(n:Nat)(a x:D)(H:U):R:=
 match a,cellsOf x with
 | .ptr v g o,some xs=>match rowAt H v g with
  | some (_,cs)=>if xs.length=n/\o+n<=cs.length then some (.any,.cells v o xs)else none
  | none=>none
 | _,_=>none
def sB(t:TypeId)(x:D)(n:Nat):R:=
 match cellsOf x with
 | some cs=>some (.ptr n 0 0,.new (.row t 0 cs))
 | none=>none
def BY(env:gD)(z:List D)(ps:List (Nat×Nat×X)):Option D:=
 match partsOf env ps with
 | some l=>match lay l z with
  | some cs=>some (.agg cs)
  | none=>none
 | none=>none
def x9(env:gD)(t sz:Nat)(z:List D)(m:Nat)(ps:List (Nat×X))(n:Nat):R:=
 match partsOf env (ps.map λp=>(p.1*sz,sz,p.2))with
 | some l=>match lay l (List.replicate m z).flatten with
  | some cs=>some (.fy n 0 sz 0 m,.new (.row t 0 cs))
  | none=>none
 | none=>none
def EK(off:Nat)(x:D):Option D:=
 match x with
 | .ptr v g o=>some (.ptr v g (o+off))
 | .fV cs=>some (.fV (cs.drop off))
 | _=>none
def zZ(off n:Nat)(a:Bool)(x:D):Option D:=
 match x with
 | .agg cs=>if a then(if off+n<=cs.length then some (.agg ((cs.drop off).take n))else none)else cs[off]?
 | _=>none
def ma(sz:Nat)(x i:D):Option D:=
 match x,i with
 | .sl gE es,.val (.int _ n)=>if gE=sz/\0<=n/\n<es.length then some (.fV (es.getD n.toNat []))else none
 | .lD vs,.val (.int _ n)=>if 1=sz/\0<=n/\n<vs.length then some (.fV [.val (vs.getD n.toNat undef)])else none
 | .fy v g gE off len,.val (.int _ n)=>if gE=sz/\0<=n/\n<len then some (.ptr v g ((off+n.toNat)*sz))else none
 | _,_=>none
def FO(sz n:Nat)(x i:D):Option D:=
 match x,i with
 | .ptr v g o,.val (.int _ k)=>if 0<=k/\k<n then some (.ptr v g (o+k.toNat*sz))else none
 | .fV cs,.val (.int _ k)=>if 0<=k/\k<n then some (.fV (cs.drop (k.toNat*sz)))else none
 | _,_=>none
def LX(sz n:Nat)(a:Bool)(x i:D):Option D:=
 match x,i with
 | .agg cs,.val (.int _ k)=>if 0<=k/\k<n then zZ (k.toNat*sz) sz a (.agg cs)else none
 | _,_=>none
def P4(x i:D):Option D:=
 match x,i with
 | .val (.string s),.val (.int _ k)=>if 0<=k/\k<s.size then some (.val (.int .u8 ((s.data.toList.getD k.toNat 0).toNat)))else none
 | _,_=>none
def AZ(a:KK)(z:D)(ok:Bool)(m k:D)(H:U):Option D:=
 match m,keyOf k with
 | .gg v,some kv=>match kY H v with
  | some (kk,es)=>if kk=a/\kk.has kv=true then(match pY es kv with
    | some d=>some (if ok then .tup [d,.val (.bool true)]else d)
    | none=>some (if ok then .tup [z,.val (.bool false)]else z))else none
  | none=>none
 | _,_=>none
def y6(a:KK)(m k x:D)(H:U):R:=
 match m,keyOf k with
 | .gg v,some kv=>match kY H v with
  | some (kk,es)=>if kk=a/\kk.has kv=true then some (.any,.obj v (.map kk (lZ es kv x)))else none
  | none=>none
 | _,_=>none
def KV(x:D)(i:Nat):Option D:=
 match x with
 | .tup ds=>ds[i]?
 | _=>none
def C7(t sz bytes:Nat)(z:List D)(l c:D)(v:Nat):R:=
 match l,c with
 | .val (.int _ n),.val (.int _ m)=>if 0<=n/\n<=m/\pW m 9223372036854775807/\pW ((bytes:Int)*m) 281474976710656 then some (.fy v 0 sz 0 n.toNat,.new (.row t 0 (List.replicate m.toNat z).flatten))else none
 | _,_=>none
def tg(env:gD)(sz:Nat)(x:D)(lo hi:Option X):Option D:=
 match x with
 | .sl a es=>match gN env lo 0,gN env hi es.length with
  | some l,some h=>if a=sz/\0<=l/\l<=h/\h<=es.length then some (.sl sz ((es.drop l.toNat).take (h.toNat-l.toNat)))else none
  | _,_=>none
 | .fy v g a off len=>match gN env lo 0,gN env hi len with
  | some l,some h=>if a=sz/\0<=l/\l<=h/\h<=len then some (.fy v g sz (off+l.toNat) (h.toNat-l.toNat))else none
  | _,_=>none
 | .fJ=>match gN env lo 0,gN env hi 0 with
  | some l,some h=>if l=0/\h=0 then some .fJ else none
  | _,_=>none
 | _=>none
def xG(env:gD)(sz:Nat)(x:D)(lo:Option X)(hi mx:X):Option D:=
 match gN env lo 0,gN env (some hi) 0,gN env (some mx) 0 with
 | some l,some h,some m=>match x with
  | .sl a es=>if a=sz/\0<=l/\l<=h/\h=m/\m<=es.length then some (clip sz ((es.drop l.toNat).take (h.toNat-l.toNat)))else none
  | .fy v g a off len=>if a=sz/\0<=l/\l<=h/\h<=m/\m<=len then some (.fy v g sz (off+l.toNat) (h.toNat-l.toNat))else none
  | .fJ=>if l=0/\h=0/\m=0 then some .fJ else none
  | _=>none
 | _,_,_=>none
def zl(env:gD)(sz n:Nat)(x:D)(lo hi:Option X)(H:U):Option D:=
 match x,gN env lo 0,gN env hi n with
 | .fV cs,some l,some h=>if sz=1/\n<=cs.length/\n<=16777216/\0<=l/\l<=h/\h<=n then some (.sl 1 (((cs.drop l.toNat).take (h.toNat-l.toNat)).map λd=>[d]))else none
 | .ptr v g o,some l,some h=>match rowAt H v g with
  | some (_,cs)=>if o % sz=0/\o+n*sz<=cs.length/\n<=16777216/\0<=l/\l<=h/\h<=n then some (.fy v g sz (o / sz+l.toNat) (h.toNat-l.toNat))else none
  | none=>none
 | _,_,_=>none
def MS(env:gD)(x:D)(lo hi:Option X):Option D:=
 match x with
 | .val (.string s)=>match gN env lo 0,gN env hi s.size with
  | some l,some h=>if 0<=l/\l<=h/\h<=s.size then some (.val (.string (s.extract l.toNat h.toNat)))else none
  | _,_=>none
 | _=>none
def rN(t sz bytes:Nat)(x y:D)(H:U)(a:Nat):R:=
 match ko sz H y with
 | some (ys,n)=>match x with
  | .fy v g b off len=>match rowAt H v g with
   | some (t',cs)=>if b=sz/\t'=t/\(off+len)*sz<=cs.length/\(len+n)*bytes<=140737488355328/\len+n<=9223372036854775807 then
     some (.fy v (g+1) sz 0 (len+n),.obj v (.row t (g+1) ((cs.drop (off*sz)).take (len*sz)++ys)))else none
   | none=>none
  | .lD vs=>if n≠0/\sz=1/\(vs.length+n)*bytes<=140737488355328/\vs.length+n<=9223372036854775807 then some (.fy a 0 sz 0 (vs.length+n),.new (.row t 0 (vs.map .val++ys)))else none
  | .fJ=>if n=0 then some (.fJ,.no)else if n*bytes<=140737488355328/\n<=9223372036854775807 then some (.fy a 0 sz 0 n,.new (.row t 0 ys))else none
  | _=>none
 | none=>none
def yl(sz:Nat)(x y:D)(H:U):R:=
 match x,ko sz H y with
 | .fy v g gE off len,some (ys,n)=>match rowAt H v g with
  | some (t,cs)=>if gE=sz/\(off+len)*sz<=cs.length then
    some (.val (.int .i64 (min n len:Nat)),.obj v (.row t g (cs.take (off*sz)++ys.take (min n len*sz)++cs.drop (off*sz+min n len*sz))))else none
  | none=>none
 | .fJ,some _=>some (.val (.int .i64 0),.no)
 | _,_=>none
def mM(k:zy)(x:D)(H:U):Option D:=
 match k,x with
 | .slice,.sl _ es=>some (.val (.int .i64 es.length))
 | .slice,.fJ=>some (.val (.int .i64 0))
 | .slice,.lD vs=>some (.val (.int .i64 vs.length))
 | .slice,.fy _ _ _ _ len=>some (.val (.int .i64 len))
 | .string,.val (.string s)=>some (.val (.int .i64 s.size))
 | .map,.gg v=>match kY H v with
  | some (_,es)=>some (.val (.int .i64 es.length))
  | none=>none
 | _,_=>none
def C6(env:gD)(d:Bool)(xs:List X):Option D:=
 match qt env xs with
 | some [a,b]=>some (.val (.int .i64 (if d then max a b else min a b)))
 | some [a,b,c]=>some (.val (.int .i64 (if d then max (max a b) c else min (min a b) c)))
 | _=>none
def A5(x:D):Option D:=
 match x with
 | .ptr v g o=>some (.ptr v g o)
 | .fV cs=>some (.fV cs)
 | .fn (.func f) a b=>some (.fn (.func f) a b)
 | .iH v=>some (.iH v)
 | _=>none
def Kx(k:IntKind)(x:D):Option D:=
 match x with
 | .val (.int _ n)=>some (.val (.int k (k.wrap n)))
 | _=>none
def BW(x:D)(H:U):Option D:=
 match ko 1 H x with
 | some (ys,_)=>match bytesOf ys with
  | some a=>some (.val (.string (a.foldl (λr n=>r.push (UInt8.ofNat n.toNat)) ByteArray.empty)))
  | none=>none
 | none=>none
def lift:Option D->R
 | some d=>some (d,.no)
 | none=>none
def gv(env:gD)(H:U)(n:Nat):iu->R
 | .mv x=>lift (some (ev env x))
 | .pick c a b=>lift (Bd (ev env c) (ev env a) (ev env b))
 | .box t x=>sB t (ev env x) n
 | .alloc t z=>some (.ptr n 0 0,.new (.row t 0 z))
 | .build z ps=>lift (BY env z ps)
 | .buildSl t sz z m ps=>x9 env t sz z m ps n
 | .ld1 x=>lift (vW (ev env x) H)
 | .ldN m x=>lift (uW m (ev env x) H)
 | .st1 a x=>Bs (ev env a) (ev env x) H
 | .stN m a x=>Bt m (ev env a) (ev env x) H
 | .nilck x=>lift (A5 (ev env x))
 | .arith op x y=>lift (ky op (ev env x) (ev env y))
 | .eqS e ls neg x y=>lift (zT e ls neg (ev env x) (ev env y))
 | .un op x=>lift (Dx op (ev env x))
 | .conv k x=>lift (Kx k (ev env x))
 | .b2s x=>lift (BW (ev env x) H)
 | .mkfn f first cap=>lift (some (.fn f (first.map (ev env)) (cap.map (ev env))))
 | .mkmap kk=>some (.gg n,.new (.map kk []))
 | .mksl t sz bytes z l c=>C7 t sz bytes z (ev env l) (ev env c) n
 | .slc sz x lo hi=>lift (tg env sz (ev env x) lo hi)
 | .slcS x lo hi=>lift (MS env (ev env x) lo hi)
 | .slc3 sz x lo hi mx=>lift (xG env sz (ev env x) lo hi mx)
 | .slcArr sz n x lo hi=>lift (zl env sz n (ev env x) lo hi H)
 | .fieldA off x=>lift (EK off (ev env x))
 | .field off m e x=>lift (zZ off m e (ev env x))
 | .idxA sz x i=>lift (ma sz (ev env x) (ev env i))
 | .idxArr sz m x i=>lift (FO sz m (ev env x) (ev env i))
 | .idx sz m e x i=>lift (LX sz m e (ev env x) (ev env i))
 | .idxStr x i=>lift (P4 (ev env x) (ev env i))
 | .lookup kk z ok m k=>lift (AZ kk z ok (ev env m) (ev env k) H)
 | .mapUpd kk m k x=>y6 kk (ev env m) (ev env k) (ev env x) H
 | .ext x i=>lift (KV (ev env x) i)
 | .call _ _ | .callN _ _ | .callv _ _=>none
 | .app t sz bytes x y=>rN t sz bytes (ev env x) (ev env y) H n
 | .copy sz x y=>yl sz (ev env x) (ev env y) H
 | .len k x=>lift (mM k (ev env x) H)
 | .minmax d xs=>lift (C6 env d xs)
 | .nilS .. | .capE .. | .appZ .. | .clr .. | .rangeS .. | .nextS .. | .rangeM .. | .nextM .. | .entry .. | .mapEnt .. | .entSt .. => none
section
variable{env:gD}{H:U}{al:Al}{d:D}{δ:Dl}{K:ji}
theorem ajU{a b c:D}(h:Bd a b c=some d)(e:K d H):Gj a b c H K:=by unfold Bd at h;unfold Gj;(repeat' split at h)<;>simp_all
theorem aet{x:D}(h:vW x H=some d)(a:K d H):FV x H K:=by unfold vW at h;unfold FV;(repeat' split at h)<;>simp_all
theorem aeu{n:Nat}{x:D}(h:uW n x H=some d)(a:K d H):FX n x H K:=by unfold uW at h;unfold FX;(repeat' split at h)<;>simp_all
theorem ZL{z:List D}{ps:List (Nat×Nat×X)}(h:BY env z ps=some d)(a:K d H):zF env z ps H K:=by unfold BY at h;unfold zF;(repeat' split at h)<;>simp_all
theorem afb{x:D}(h:A5 x=some d)(a:K d H):Gb x H K:=by unfold A5 at h;unfold Gb;(repeat' split at h)<;>simp_all
theorem aly{op:UnOp}{x:D}(h:Dx op x=some d)(a:K d H):G6 op x H K:=by unfold Dx at h;unfold G6;(repeat' split at h)<;>simp_all
theorem aa6{b:Bool}{ls:List mg}{neg:Bool}{x y:D}(h:zT b ls neg x y=some d)(a:K d H):vz b ls neg x y H K:=by unfold zT at h;unfold vz;(repeat' split at h)<;>simp_all
theorem aaA{k:IntKind}{x:D}(h:Kx k x=some d)(a:K d H):Et k x H K:=by unfold Kx at h;unfold Et;(repeat' split at h)<;>simp_all
theorem Zx{x:D}(h:BW x H=some d)(a:K d H):Ea x H K:=by unfold BW at h;unfold Ea;(repeat' split at h)<;>simp_all
theorem ak5{sz:Nat}{x:D}{lo hi:Option X}(h:tg env sz x lo hi=some d)(a:K d H):GQ env sz x lo hi H K:=by unfold tg at h;unfold GQ;(repeat' split at h)<;>simp_all
theorem ak1{sz:Nat}{x:D}{lo:Option X}{hi mx:X}(h:xG env sz x lo hi mx=some d)(a:K d H):GN env sz x lo hi mx H K:=by unfold xG at h;unfold GN;(repeat' split at h)<;>simp_all<;>omega
theorem ak3{sz n:Nat}{x:D}{lo hi:Option X}(h:zl env sz n x lo hi H=some d)(a:K d H):GO env sz n x lo hi H K:=by unfold zl at h;unfold GO;(repeat' split at h)<;>simp_all
theorem ak4{x:D}{lo hi:Option X}(h:MS env x lo hi=some d)(a:K d H):Dq env x lo hi H K:=by unfold MS at h;unfold Dq;(repeat' split at h)<;>simp_all
theorem acy{off:Nat}{x:D}(h:EK off x=some d)(a:K d H):EJ off x H K:=by unfold EK at h;unfold EJ;(repeat' split at h)<;>simp_all
theorem Ue{off n:Nat}{b:Bool}{x:D}(h:zZ off n b x=some d)(a:K d H):zY off n b x H K:=by unfold zZ at h;unfold zY;(repeat' split at h)<;>simp_all
theorem ad2{sz:Nat}{x i:D}(h:ma sz x i=some d)(a:K d H):FM sz x i H K:=by unfold ma at h;unfold FM;(repeat' split at h)<;>simp_all
theorem ad4{sz n:Nat}{x i:D}(h:FO sz n x i=some d)(a:K d H):FN sz n x i H K:=by unfold FO at h;unfold FN;(repeat' split at h)<;>simp_all
theorem ad5{x i:D}(h:P4 x i=some d)(a:K d H):FQ x i H K:=by unfold P4 at h;unfold FQ;(repeat' split at h)<;>simp_all
theorem aeM{kk:KK}{z:D}{ok:Bool}{m k:D}(h:AZ kk z ok m k H=some d)(b:K d H):F1 kk z ok m k H K:=by
 unfold AZ at h;unfold F1;split at h
 .split at h
  .split at h
   .rename_i c;obtain⟨rfl,c⟩:=c;simp only[*,true_and];split at h
    .rename_i a;cases h;simp only[a];exact b
    .rename_i a;cases h;simp only[a];exact b
   .cases h
  .cases h
 .cases h
theorem aa8{x:D}{i:Nat}(h:KV x i=some d)(a:K d H):EG x i H K:=by unfold KV at h;unfold EG;(repeat' split at h)<;>simp_all
theorem aeD{k:zy}{x:D}(h:mM k x H=some d)(a:K d H):FY k x H K:=by unfold mM at h;unfold FY;(repeat' split at h)<;>simp_all
theorem ae3{b:Bool}{xs:List X}(h:C6 env b xs=some d)(a:K d H):F9 env b xs H K:=by unfold C6 at h;unfold F9;(repeat' split at h)<;>simp_all
theorem Zp{op:BinOp}{k:IntKind}{a b:Int}(h:jx op k a b=some d)(c:K d H):D9 op k a b H K:=by unfold jx at h;unfold D9;(repeat' split at h)<;>simp_all
theorem akZ{op:BinOp}{k:IntKind}{a b:Int}(h:Rn op k a b=some d)(c:K d H):GL op k a b H K:=by unfold Rn at h;unfold GL;(repeat' split at h)<;>simp_all
theorem alr{op:BinOp}{a b:ByteArray}(h:Dv op a b=some d)(c:K d H):MY op a b H K:=by unfold Dv at h;unfold MY;(repeat' split at h)<;>simp_all [pW]
theorem ZI{t:TypeId}{x:D}(h:sB t x al.1=some (d,δ))(a:K d (δ.app H al)):Ed t x al K:=by unfold sB at h;unfold Ed;(repeat' split at h)<;>cases h<;>simp_all [Dl.app]
theorem ZK{t sz:Nat}{z:List D}{m:Nat}{ps:List (Nat×X)}(h:x9 env t sz z m ps al.1=some (d,δ))(a:K d (δ.app H al)):Ee env t sz z m ps al K:=by unfold x9 at h;unfold Ee;(repeat' split at h)<;>cases h<;>simp_all [Dl.app]
theorem GC{v g:Nat}{x:TypeId×List D}(h:rowAt H v g=some x):H[v]? = some (.row x.1 g x.2):=by
 unfold rowAt at h;split at h
 .split at h
  .rename_i e;subst e;cases h;assumption
  .cases h
 .cases h
theorem alo{a x:D}(h:Bs a x H=some (d,δ))(c:K d (δ.app H al)):GV a x H K:=by
 unfold Bs at h;unfold GV;split at h
 .split at h
  .rename_i v g o _ t cs f;split at h
   .rename_i b;cases h;simp only[f];refine⟨b.1,b.2,?_⟩;simp only[Dl.app,GC f]at c
    have e:cs.set o x=cs.take o ++ [x]++cs.drop (o + [x].length):=by rw[cP,if_pos b.1];simp
    rw[e];exact c
   .cases h
  .cases h
 .cases h
theorem alp{n:Nat}{a x:D}(h:Bt n a x H=some (d,δ))(b:K d (δ.app H al)):GX n a x H K:=by
 unfold Bt at h;unfold GX;split at h
 .split at h
  .rename_i v g o xs _ _ t cs e;split at h
   .rename_i c;cases h;simp only[*];refine⟨trivial,trivial,?_⟩;simp only[Dl.app,GC e]at b;rw[c.1]at b;exact b
   .cases h
  .cases h
 .cases h
theorem ae5{t sz bytes:Nat}{z:List D}{l c:D}(h:C7 t sz bytes z l c al.1=some (d,δ))(a:K d (δ.app H al)):F' t sz bytes z l c al K:=by unfold C7 at h;unfold F';(repeat' split at h)<;>cases h<;>simp_all [Dl.app,pW]
theorem ae0{kk:KK}{m k x:D}(h:y6 kk m k x H=some (d,δ))(b:K d (δ.app H al)):F5 kk m k x H K:=by
 unfold y6 at h;unfold F5;split at h
 .split at h
  .split at h
   .rename_i a;obtain⟨rfl,a⟩:=a;cases h;simp only[*,true_and];exact b
   .cases h
  .cases h
 .cases h
theorem Zm{t sz bytes:Nat}{x y:D}(h:rN t sz bytes x y H al.1=some (d,δ))(a:K d (δ.app H al)):D8 t sz bytes x y H al K:=by unfold rN at h;unfold D8;(repeat' split at h)<;>cases h<;>simp_all [Dl.app]
theorem aaC{sz:Nat}{x y:D}(h:yl sz x y H=some (d,δ))(a:K d (δ.app H al)):Ez sz x y H K:=by unfold yl at h;unfold Ez;(repeat' split at h)<;>cases h<;>simp_all [Dl.app]
theorem ZE{op:BinOp}{x y:D}(h:ky op x y=some d)(a:K d H):Eb op x y H K:=by
 unfold ky at h;unfold Eb;split at h
 .split at h
  .rename_i hs;simp only[hs,if_true];exact akZ h a
  .rename_i hs;simp only[hs];split at h
   .rename_i e;exact⟨e,Zp h a⟩
   .cases h
 .exact alr h a
 .cases h
theorem ad6{sz n:Nat}{b:Bool}{x i:D}(h:LX sz n b x i=some d)(a:K d H):FP sz n b x i H K:=by
 unfold LX at h;unfold FP;split at h
 .split at h
  .rename_i c;exact⟨c,Ue h a⟩
  .cases h
 .cases h
theorem lY{o:Option D}(h:lift o=some (d,δ)):o=some d/\δ = .no:=by cases o<;>simp[lift]at h;exact⟨by rw[h.1],h.2.symm⟩
theorem SE{c:iu}(h:gv env H al.1 c=some (d,δ))(b:K d (δ.app H al)):D7 env H al K c:=by
 cases c<;>simp only[gv]at h<;>simp only[D7]
 case mv=>obtain⟨a,rfl⟩:=lY h;cases a;exact b
 case mkfn=>obtain⟨a,rfl⟩:=lY h;cases a;exact b
 case alloc=>cases h;exact b
 case mkmap=>cases h;exact b
 case call=>cases h
 case callN=>cases h
 case callv=>cases h
 case nilS=>cases h
 case capE=>cases h
 case appZ=>cases h
 case clr=>cases h
 case rangeS=>cases h
 case nextS=>cases h
 case rangeM=>cases h
 case nextM=>cases h
 case entry=>cases h
 case mapEnt=>cases h
 case entSt=>cases h
 case box=>exact ZI h b
 case buildSl=>exact ZK h b
 case st1=>exact alo h b
 case stN=>exact alp h b
 case mksl=>exact ae5 h b
 case mapUpd=>exact ae0 h b
 case app=>exact Zm h b
 case copy=>exact aaC h b
 case pick=>obtain⟨a,rfl⟩:=lY h;exact ajU a b
 case build=>obtain⟨a,rfl⟩:=lY h;exact ZL a b
 case ld1=>obtain⟨a,rfl⟩:=lY h;exact aet a b
 case ldN=>obtain⟨a,rfl⟩:=lY h;exact aeu a b
 case nilck=>obtain⟨a,rfl⟩:=lY h;exact afb a b
 case arith=>obtain⟨a,rfl⟩:=lY h;exact ZE a b
 case eqS=>obtain⟨a,rfl⟩:=lY h;exact aa6 a b
 case un=>obtain⟨a,rfl⟩:=lY h;exact aly a b
 case conv=>obtain⟨a,rfl⟩:=lY h;exact aaA a b
 case b2s=>obtain⟨a,rfl⟩:=lY h;exact Zx a b
 case slc=>obtain⟨a,rfl⟩:=lY h;exact ak5 a b
 case slc3=>obtain⟨a,rfl⟩:=lY h;exact ak1 a b
 case slcArr=>obtain⟨a,rfl⟩:=lY h;exact ak3 a b
 case slcS=>obtain⟨a,rfl⟩:=lY h;exact ak4 a b
 case fieldA=>obtain⟨a,rfl⟩:=lY h;exact acy a b
 case field=>obtain⟨a,rfl⟩:=lY h;exact Ue a b
 case idxA=>obtain⟨a,rfl⟩:=lY h;exact ad2 a b
 case idxArr=>obtain⟨a,rfl⟩:=lY h;exact ad4 a b
 case idx=>obtain⟨a,rfl⟩:=lY h;exact ad6 a b
 case idxStr=>obtain⟨a,rfl⟩:=lY h;exact ad5 a b
 case lookup=>obtain⟨a,rfl⟩:=lY h;exact aeM a b
 case ext=>obtain⟨a,rfl⟩:=lY h;exact aa8 a b
 case len=>obtain⟨a,rfl⟩:=lY h;exact aeD a b
 case minmax=>obtain⟨a,rfl⟩:=lY h;exact ae3 a b
end
end Go.AL
namespace Go.AL
open Go
mutual
def flat:D->Bool
 | .any | .val _ | .fJ=>true
 | .agg cs | .tup cs=>tB cs
 | .sl _ es=>es.isEmpty
 | _=>false
def tB:List D->Bool
 | []=>true
 | d::ds=>flat d&&tB ds
end
def chunks(sz:Nat):Nat->List D->List (List D)
 | 0,_=>[]
 | n+1,cs=>cs.take sz::chunks sz n (cs.drop sz)
def fL(ρ:Nat->Option Nat)(H:U):Nat->D->D
 | 0,d=>if closed d then d else .any
 | k+1,d=>if closed d then d else match d with
  | .agg cs=>.agg (cs.map (fL ρ H k))
  | .tup cs=>.tup (cs.map (fL ρ H k))
  | .sl sz es=>.sl sz (es.map (·.map (fL ρ H k)))
  | .fV cs=>.fV (cs.map (fL ρ H k))
  | .fn f a b=>.fn f (a.map (fL ρ H k)) (b.map (fL ρ H k))
  | .fy v g sz off len=>match ρ v with
   | some v'=>.fy v' g sz off len
   | none=>match rowAt H v g with
    | some (_,cs)=>if (off+len)*sz<=cs.length then .sl sz (chunks sz len ((cs.drop (off*sz)).map (fL ρ H k)))else .any
    | none=>.any
  | .ptr v g off=>match ρ v with
   | some v'=>.ptr v' g off
   | none=>match rowAt H v g with
    | some (_,cs)=>.fV ((cs.drop off).map (fL ρ H k))
    | none=>.any
  | .gg v=>match ρ v with
   | some v'=>.gg v'
   | none=>.any
  | .iH v=>match ρ v with
   | some v'=>.iH v'
   | none=>.any
  | d=>d
def oN(ρ:Nat->Option Nat)(H:U):Ob->Ob
 | .row t g cs=>.row t g (cs.map (fL ρ H 40))
 | .map kk es=>.map kk (es.map λx=>(x.1,fL ρ H 40 x.2))
 | .gV rf env st=>.gV rf (env.map λx=>(x.1,fL ρ H 40 x.2)) st
 | .rF s p=>.rF s p
 | .jb m since seen=>.jb (fL ρ H 40 m) since seen
 | .kD=>.kD
 | .dead=>.dead
 | .lu=>.dead
abbrev mP:=List (Nat×Bool)
def il(ks:mP)(v:Nat):Option Nat:=ks.findIdx? (λp=>p.2&&p.1 == v)
def p6(ks:mP)(H:U):U:=ks.map λp=>if p.2 then(match H[p.1]? with|some o=>oN (il ks) H o|none=>.dead)else .dead
def iT(n:Nat):D->List Nat
 | .fy v _ _ _ _=>if n<=v then [v]else []
 | .ptr v _ _=>if n<=v then [v]else []
 | .gg v=>if n<=v then [v]else []
 | .iH v=>if n<=v then [v]else []
 | _=>[]
def nZ(n:Nat):Ob->List Nat
 | .row _ _ cs=>(cs.map (iT n)).flatten
 | .map _ es=>(es.map λx=>iT n x.2).flatten
 | _=>[]
def dedup:List Nat->List Nat
 | []=>[]
 | x::r=>if x∈r then dedup r else x::dedup r
def iG(n:Nat)(K:List Nat):mP:=((List.range n).map λv=>(v,true))++K.map λv=>(v,true)
def forget(live:List Nat)(env:Env):Env:=live.map λk=>(k,env.get k)
structure St where
 env:Env
 H:U
 marks:List Nat:=[]
 ik:Bool:=false
 deriving Inhabited
def A6(live:List Nat):Bool:=match live with
 | k::_=>Nat.beq k 9999
 | []=>false
def cut(n:Nat)(live:List Nat)(s:St):St:=
 let env:=forget live s.env
 if s.H.length<=n\/A6 live=true then{ s with env:=env }else
 let K:=dedup (((env.map λp=>iT n p.2).flatten++((s.H.take n).map (nZ n)).flatten++s.marks.filter (n<=·)).filter (· < s.H.length))
 let ks:=iG n K
 { s with env:=env.map λp=>(p.1,fL (il ks) s.H 40 p.2),H:=p6 ks s.H,marks:=s.marks.map λv=>(il ks v).getD v }
def Db(n:Nat):D->List Nat
 | .fy v _ _ 0 _=>if n<=v then [v]else []
 | .tup ds=>(ds.map λd=>match d with | .fy v _ _ 0 _=>if n<=v then [v]else []|_=>[]).flatten
 | _=>[]
inductive IR where
 | skip
 | ops (l:List gI)
 | lF (jk:List (Nat×Nat)) (l:List gI)
 | mj (jk:List (Nat×Nat)) (l es:List gI)
 | seq (a b:IR)
 | cond (c:X) (a b:IR)
 | block (id:Nat) (live:List Nat) (a:IR)
 | loop (live:List Nat) (a:IR)
 | nv (rf:Nat) (live:List Nat) (x:X)
 | exit (id:Nat)
 | ret
 | bad
 | fz (S:List Nat) (a:IR)
 | uo (S:List Nat) (a b:List gI)
 deriving Inhabited
inductive tX where
 | tmp (t:Nat)
 | sD (t:Nat)
 | Ny (n t:Nat)
 deriving Inhabited
structure iP where
 ntmps:Nat
 body:IR
 results:List tX
 full:Bool:=false
 own:Nat:=0
 fz:Bool:=false
 deriving Inhabited
def Dh(s:St):tX->Option D
 | .tmp t=>some (s.env.get t)
 | .sD t=>vW (s.env.get t) s.H
 | .Ny n t=>uW n (s.env.get t) s.H
def tQ(s:St):List tX->Option (List D)
 | []=>some []
 | x::r=>match Dh s x,tQ s r with
  | some d,some l=>some (d::l)
  | _,_=>none
def results(fn:iP)(s:St):Option D:=match tQ s fn.results with
 | some [d]=>some d
 | some ds=>some (.tup ds)
 | none=>none
def s7(args:List D):Env:=args.zipIdx.map λp=>(p.2,p.1)
def tf:List Nat->List D->Env->Env
 | k::ks,d::ds,env=>tf ks ds ((k,d)::env)
 | _,_,env=>env
def kb(env:gD):iu->Option (FuncId×List D)
 | .call f args=>some (f,args.map (ev env))
 | .callN f args=>some (f,args.map (ev env))
 | .callv f args=>match ev env f with
  | .fn (.func k) first cap=>some (k,first++args.map (ev env)++cap)
  | _=>none
 | _=>none
def FR:iu->Bool
 | .call _ _ | .callN _ _ | .callv _ _=>true
 | _=>false
def guardOf(env:gD):Option (Nat×Bool)->Option Bool
 | none=>some true
 | some (s,want)=>match env s with
  | .val (.bool b)=>some (b == want)
  | .val (.tuple _)=>some false
  | _=>none
def xp(n:Nat):D->D
 | .fy v g sz off len=>.fy (v+n) g sz off len
 | d=>d
def j'(n:Nat):D->D
 | .fy v g sz off len=>.fy (v+n) g sz off len
 | .tup ds=>.tup (ds.map (xp n))
 | .agg ds=>.agg (ds.map (xp n))
 | d=>d
def nz:Ob->Bool
 | .row _ _ cs=>gh cs
 | _=>false
def oX:Ob->Bool
 | .row _ _ cs=>tB cs
 | _=>false
def xA(p:D->Bool):D->Bool
 | .fy .. => true
 | d=>p d
def vZ(p:D->Bool):D->Bool
 | .fy .. => true
 | .tup ds=>ds.all (xA p)
 | .agg ds=>ds.all (xA p)
 | d=>p d
def mq:D->Bool:=vZ closed
def n5:D->Bool:=vZ flat
def rowsOf(H:U)(v:Nat):Option (TypeId×Nat×List D):=match H[v]? with
 | some (.row t g cs)=>some (t,g,cs)
 | _=>none
def gZ(H:U):Nat->D->List Nat
 | 0,_=>[]
 | k+1,d=>if closed d then []else match d with
  | .agg cs | .tup cs | .fV cs=>(cs.map (gZ H k)).flatten
  | .sl _ es=>(es.map λe=>(e.map (gZ H k)).flatten).flatten
  | .fn _ a b=>(a.map (gZ H k)).flatten++(b.map (gZ H k)).flatten
  | .fy v _ _ _ _ | .ptr v _ _=>v::(match rowsOf H v with
   | some (_,_,cs)=>(cs.map (gZ H k)).flatten
   | none=>[])
  | .gg v | .iH v=>[v]
  | _=>[]
def leave(own:Nat)(n:Nat)(H:U)(d:D):D×U:=
 if H.length<=n\/own=4 then(d,H)else
 let K:=dedup (((match own with|0=>[]|1=>Db n d|3=>((gZ H 40 d).filter (n<=·)).take 1|_=>(gZ H 40 d).filter (n<=·))++((H.take n).map (nZ n)).flatten).filter (· < H.length))
 let ks:=iG n K
 (fL (il ks) H 40 d,p6 ks H)
def l6(H:U)(S:List Nat):mP:=(List.range H.length).map λv=>(v,!(S.contains v))
structure pJ where
 params:List Nat
 a:IR
 b:IR
 deriving Inhabited
structure ia where
 fn:FuncId->Option iP
 round:Nat->Option pJ:=λ_=>none
 sort:FuncId->Option Nat:=λ_=>none
 su:FuncId->Bool:=λ_=>false
 sE:FuncId->Bool:=λ_=>false
def after(s:St)(dst:Option Nat)(args:List D)(r:D)(Hn:U):Option St:=
 if (if gh args then mq r&&Hn.all nz else n5 r&&Hn.all oX)then
  some { s with env:=put s.env dst (j' s.H.length r),H:=s.H++Hn }else none
def lH(S:List Nat)(s:St):St:=
 let ks:=l6 s.H S
 { s with env:=s.env.map λp=>(p.1,fL (il ks) s.H 40 p.2),H:=p6 ks s.H }
end Go.AL
namespace Go.AL
open Go
theorem wL{ds:List D}(h:gh ds=true){i:Nat}{d:D}(a:ds[i]? = some d):closed d=true:=by
 induction ds generalizing i with
 | nil=>simp at a
 | cons x xs b=>
  simp only[gh,Bool.and_eq_true]at h
  cases i with
  | zero=>simp at a;subst a;exact h.1
  | succ i=>exact b h.2 (by simpa using a)
theorem aah{es:List (List D)}(h:B3 es=true){i:Nat}{e:List D}(a:es[i]? = some e):gh e=true:=by
 induction es generalizing i with
 | nil=>simp at a
 | cons x xs b=>
  simp only[B3,Bool.and_eq_true]at h
  cases i with
  | zero=>simp at a;subst a;exact h.1
  | succ i=>exact b h.2 (by simpa using a)
theorem fF.closed{c c':Ctx}{w:World}(A:∀b,c.F b->c'.F b){u:Value}{d:D}(h:fF c w u d)(l:closed d=true):fF c' w u d:=by
 induction h with
 | any v=>exact .any _
 | val v=>exact .val _
 | agg vs ds hl h1 h n=>exact .agg vs _ hl h1 λi v d m k=>n i v d m k (wL l k)
 | tup vs ds hl h n=>exact .tup vs _ hl λi v d m k=>n i v d m k (wL l k)
 | sl a len cap sz es g r G y H x q I n=>
  refine .sl a len cap sz _ g r G y H x ?_ λi e j d s k=>n i e j d s k (wL (aah l s) k);intro i e j d s k;obtain⟨b,o,z,p,t,h1⟩:=q i e j d s k;exact⟨b,o,z,A b p,t,h1⟩
 | fJ=>exact .fJ
 | lD a vs y x q=>
  refine .lD a vs y x ?_;intro i v m;obtain⟨b,o,z,p,t,h1⟩:=q i v m;exact⟨b,o,z,A b p,t,h1⟩
 | fy=>cases l
 | l3=>cases l
 | ptr=>cases l
 | fV b o cs g p q I n=>exact .fV b o _ g (A b p) q λj d k=>n j d k (wL l k)
 | gg=>cases l
 | fn f fs cs K L E F h1 J C B=>
  simp only[AL.closed,Bool.and_eq_true]at l;exact .fn f fs cs _ _ E F (λi v d m k=>C i v d m k (wL l.1 k)) (λi v d m k=>B i v d m k (wL l.2 k))
 | iH=>cases l
theorem Cf{ds:List D}(h:tB ds=true){i:Nat}{d:D}(a:ds[i]? = some d):flat d=true:=by
 induction ds generalizing i with
 | nil=>simp at a
 | cons x xs b=>
  simp only[tB,Bool.and_eq_true]at h
  cases i with
  | zero=>simp at a;subst a;exact h.1
  | succ i=>exact b h.2 (by simpa using a)
theorem fF.flat{c c':Ctx}{w:World}{u:Value}{d:D}(h:fF c w u d)(b:flat d=true):fF c' w u d:=by
 induction h with
 | any v=>exact .any _
 | val v=>exact .val _
 | agg vs ds hl h1 h j=>exact .agg vs _ hl h1 λi v d k f=>j i v d k f (Cf b f)
 | tup vs ds hl h j=>exact .tup vs _ hl λi v d k f=>j i v d k f (Cf b f)
 | sl a len cap sz es g e m n p l o q j=>
  simp only[AL.flat,dO]at b;subst b;exact .sl a len cap sz _ g e m n (by simp) l (by simp) (by simp)
 | fJ=>exact .fJ
 | lD=>cases b
 | fy=>cases b
 | l3=>cases b
 | ptr=>cases b
 | fV=>cases b
 | gg=>cases b
 | fn=>cases b
 | iH=>cases b
theorem S0(sz:Nat):∀(n:Nat) (cs:List D),(chunks sz n cs).length=n
 | 0,_=>rfl
 | n+1,cs=>by simp[chunks,S0 sz n]
theorem NB(sz:Nat):∀(n:Nat) (cs:List D) (i:Nat) (e:List D),(chunks sz n cs)[i]? = some e->i<n/\e=(cs.drop (i*sz)).take sz
 | 0,_,i,e,h=>by simp[chunks]at h
 | n+1,cs,0,e,h=>by simp[chunks]at h;subst h;simp
 | n+1,cs,i+1,e,h=>by simp only[chunks,cW]at h;obtain⟨h1,a⟩:=NB sz n _ i e h;refine⟨by omega,?_⟩;rw[a,bT];congr 2;rw[bh];omega
theorem ak0{c:Ctx}{w:World}{b o sz len cap:Nat}{vs:List Value}{ds:List D}(n:c.F b)(k:Cells c w vs ds)(hl:ds.length=len*sz)(l:len<=cap)(m:cap<=maxLen)
  (r:∀(j:Nat) (v:Value),vs[j]? = some v->w.cell? ⟨b,o+j,none⟩=some v):fF c w (.slice (some ⟨b,o,none⟩) len cap) (.sl sz (chunks sz len ds)):=by
 have h:∀(i:Nat) (e:List D) (j:Nat) (d:D),(chunks sz len ds)[i]? = some e->e[j]? = some d->ds[i*sz+j]? = some d/\j<sz:=by
  intro i e j d a f;obtain⟨_,rfl⟩:=NB sz len ds i e a;rw[aC]at f;split at f
  .grind
  .cases f
 refine .sl _ len cap sz _ (λi j=>vs.getD (i*sz+j) undef) (S0 _ _ _) l m ?_ (by simp) ?_ ?_
 .intro e a;obtain⟨i,hi⟩:=aA.1 a;obtain⟨h1,rfl⟩:=NB sz len ds i e hi;simp only[aJ,aR,hl];have:(i+1)*sz<=len*sz:=bk _ h1;rw[bh]at this;omega
 .intro i e j d a f;obtain⟨h1,_⟩:=h i e j d a f;obtain⟨v,g,q,_⟩:=k.get h1;refine⟨b,o,rfl,n,?_,?_⟩
  .grind
  .grind
 .intro i e j d a f;obtain⟨h1,_⟩:=h i e j d a f;obtain⟨v,g,_,p⟩:=k.get h1;simp only[List.getD,g,aP];exact p
theorem Cells.map{c c':Ctx}{w:World}{f:D->D}(g:∀v d,fF c w v d->fF c' w v (f d)){vs:List Value}{cs:List D}(h:Cells c w vs cs):Cells c' w vs (cs.map f):=
 ⟨by simpa using h.len,h.one,λi v d e a=>by
  simp only[ar,aj]at a;obtain⟨d0,b,rfl⟩:=a
  exact g _ _ (h.rep i v d0 e b)⟩
def Ctx.fL(c:Ctx)(ks:mP)(H:U):Ctx where
 ι:=λi g=>match ks[i]? with
  | some p=>c.ι p.1 g
  | none=>none
 F:=λb=>c.F b\/∃v L,lB c H v L/\il ks v=none/\L.jr=false/\L.b=b
 RT:=c.RT
theorem XZ{ks:mP}{v i:Nat}(h:il ks v=some i):ks[i]? = some (v,true):=by unfold il at h;rw[dH]at h;obtain⟨hi,a,_⟩:=h;simp only[Bool.and_eq_true,beq_iff_eq]at a;rw[List.getElem?_eq_getElem hi];congr 1;exact ew a.2 a.1
theorem XY{ks:mP}{v:Nat}(h:il ks v=none)(i:Nat):ks[i]?≠some (v,true):=by intro hi;unfold il at h;rw[dq]at h;have:=h _ (List.mem_of_getElem? hi);simp at this
section
variable{G:GT}{c:Ctx}{H:U}{w:World}{ks:mP}
theorem DF{v i g:Nat}(h:il ks v=some i):(c.fL ks H).ι i g=c.ι v g:=by simp[Ctx.fL,XZ h]
theorem BQ{b:Nat}(h:c.F b):(c.fL ks H).F b:=Or.inl h
theorem Sk{v:Nat}{L:Loc}(h1:lB c H v L)(b:il ks v=none)(a:L.jr=false):(c.fL ks H).F L.b:=Or.inr ⟨v,L,h1,b,a,rfl⟩
theorem ze(h:gf G c H w):∀(k:Nat) {u:Value} {d:D},fF c w u d->fF (c.fL ks H) w u (fL (il ks) H k d)
 | 0,u,d,q=>by
  unfold AL.fL;split
  .rename_i K;exact q.closed (λb M=>BQ M) K
  .exact .any _
 | k+1,u,d,q=>by
  have A:=λ{u:Value} {d:D} (q:fF c w u d)=>ze h k q;unfold AL.fL;split
  .rename_i K;exact q.closed (λb M=>BQ M) K
  .cases q with
   | any v=>exact .any _
   | val v=>exact .val _
   | agg vs ds hl h1 z=>
     refine .agg vs _ (by simpa using hl) h1 λi v d l y=>?_;simp only[ar,aj]at y;obtain⟨d0,C,rfl⟩:=y;exact A (z i v d0 l C)
   | tup vs ds hl z=>
     refine .tup vs _ (by simpa using hl) λi v d l y=>?_;simp only[ar,aj]at y;obtain⟨d0,C,rfl⟩:=y;exact A (z i v d0 l C)
   | sl a len cap sz es g s E F ij W R q=>
    refine .sl a len cap sz _ g (by simpa using s) E F ?_ W ?_ ?_
    .grind
    .intro i e j d S y;simp only[ar,aj]at S;obtain⟨e0,J,rfl⟩:=S;simp only[ar,aj]at y;obtain⟨d0,C,rfl⟩:=y;obtain⟨b,o,ha,I,U,h1⟩:=R i e0 j d0 J C;exact⟨b,o,ha,BQ I,U,h1⟩
    .grind
   | fJ=>exact .fJ
   | lD a vs h1 z T=>rename_i hn;exact absurd rfl hn
   | fy v g sz off len cap L p l E F V=>
    dsimp only;split
    .rename_i v' r;exact .fy v' g sz off len cap L (by rw[DF r];exact p) l E F V
    .rename_i Q;split
     .rename_i t cs O;split
      .rename_i mA;have B:=te O;obtain⟨P,h1,z,T,N⟩:=xD h B p l;have Z:=(((N.drop (off*sz)).map (λ_ _ q=>A q)).take (len*sz));have s:((cs.drop (off*sz)).map (AL.fL (il ks) H k)).length=(cs.length-off*sz):=by simp
       have O1:chunks sz len ((cs.drop (off*sz)).map (AL.fL (il ks) H k))=chunks sz len (((cs.drop (off*sz)).map (AL.fL (il ks) H k)).take (len*sz)):=by
        have key:∀(n:Nat) (xs:List D),chunks sz n xs=chunks sz n (xs.take (n*sz)):=by
         intro n
         induction n with
         | zero=>intro xs;rfl
         | succ n A=>
          intro xs;simp only[chunks];rw[dD,Nat.min_eq_left (by rw[bh];omega),A (xs.drop sz),List.drop_take,show(n+1)*sz-sz=n*sz by rw[bh];omega]
        exact key _ _
       rw[O1];refine ak0 (Sk ⟨_,B,rfl,p⟩ Q l) Z ?_ E F λj x m=>?_
       .grind
       .rw[aC]at m;split at m
        .rw[aH,aC]at m;split at m
         .rw[aH]at m;simp[World.cell?,h1];rw[aW];simpa using m
         .cases m
        .cases m
      .exact .any _
     .exact .any _
   | l3 v g sz off L p a=>
    dsimp only;split
    .rename_i v' r;exact .l3 v' g sz off L (by rw[DF r];exact p) a
    .split
     .split
      .exact .sl a 0 0 sz _ (λ_ _=>undef) rfl (Nat.le_refl _) (by unfold maxLen;omega) (by simp[chunks]) (λ_=>rfl) (by simp[chunks]) (by simp[chunks])
      .exact .any _
     .exact .any _
   | ptr v g off L p l=>
    dsimp only;split
    .rename_i v' r;exact .ptr v' g off L (by rw[DF r];exact p) l
    .rename_i Q;split
     .rename_i t cs O;have B:=te O;obtain⟨P,h1,z,T,N⟩:=xD h B p l;refine Oh (Sk ⟨_,B,rfl,p⟩ Q l) ⟨_,(N.drop off).map (λ_ _ q=>A q),λj x m=>?_⟩;rw[aH,aC]at m;split at m
      .rw[aH]at m;simp[World.cell?,h1];rw[aW];simpa using m
      .cases m
     .exact .any _
   | fV b o cs g I R q=>
    refine .fV b o _ g (BQ I) ?_ ?_
    .grind
    .grind
   | gg v L p l=>
    dsimp only;split
    .rename_i v' r;exact .gg v' L (by rw[DF r];exact p) l
    .exact .any _
   | fn f fs cs df dc X Y h1 z=>
    refine .fn f fs cs _ _ (by simpa using X) (by simpa using Y) ?_ ?_
    .grind
    .grind
   | iH v L p l=>
    dsimp only;split
    .rename_i v' r;exact .iH v' L (by rw[DF r];exact p) l
    .exact .any _
