/- Part 3 of DisputeTruth. -/
import Derived.Test.YtmehofoficaelaaGreatDoorV02
import Derived.ChangeKeysEq
set_option linter.all false
namespace Go.AL
open Go
section
variable{P:Program}{G:GT}{c:Ctx}{H:U}{w:World}{K:jx}{env:gL}{a:Act}
theorem RZ{x:D}{kv u:Value}(b:fR c w u x)(h:keyOf x=some kv):u=kv:=by
 unfold keyOf at h;split at h
 .cases h;cases b;rfl
 .cases h;cases b;rfl
 .cases h;cases b;rfl
 .rename_i cs;simp only[ak]at h;obtain⟨l,hl,rfl⟩:=h
  cases b with
  | agg vs _ a _ h1=>
   have key:∀(cs:List D) (vs l:List Value),Hl cs=some l->vs.length=cs.length->(∀(i:Nat) (v:Value) (d:D),vs[i]? = some v->cs[i]? = some d->fR c w v d)->vs=l:=by
    intro cs
    induction cs with
    | nil=>intro vs l hl a _;simp[Hl]at hl;subst hl;exact aZ (by simpa using a)
    | cons d cs j=>
     intro vs l hl a h1
     cases vs with
     | nil=>simp at a
     | cons v vs=>
      unfold Hl at hl;split at hl
      .grind
      .rename_i k n r e;cases e;simp only[ak]at hl;obtain⟨g,f,rfl⟩:=hl;have h0:=h1 0 v _ rfl rfl;cases h0;rw[j vs g f (by simpa using a) (λi v d m o=>h1 (i+1) v d (by simpa using m) (by simpa using o))]
      .cases hl
   rw[key cs vs l hl a h1]
 .cases h
def yA:List Value->List Value->Bool
 | .int k a::x,.int k' b::y=>k == k'&&a == b&&yA x y
 | [],[]=>true
 | _,_=>false
theorem abt{t:TypeId}{k:IntKind}(h:P.underlying t=some (.int k)):oQ P t=some false:=by simp[oQ,h]
theorem D1{k:IntKind}{ks:List IntKind}{vs:List Value}(h:sQ (k::ks) vs=true):∃n a,vs = .int k n::a/\sQ ks a=true:=by
 cases vs with
 | nil=>cases h
 | cons v a=>
  cases v<;>simp[sQ]at h;obtain⟨rfl,h⟩:=h;exact⟨_,_,rfl,h⟩
theorem SJ{t:TypeId}{k a:IntKind}(h:P.underlying t=some (.int k)){vs:List Value}{i:Nat}{n:Int}(b:vs[i]? = some (.int a n)):(part t vs.toArray i).run P w = .ok (.int a n) w:=by simp[part,B9 (abt h) w,b]
theorem VA(d:Nat){vs us:List Value}:∀(fs:List Field) (i:Nat) (ks:List IntKind),BH P i fs=some ks->sQ ks (vs.drop i)=true->sQ ks (us.drop i)=true ->
  (Op.eqFields (d+1) vs.toArray us.toArray fs).run P w = .ok (yA (vs.drop i) (us.drop i)) w
 | [],i,ks,h,hv,hu=>by
  cases h
  cases b:vs.drop i with
  | nil=>cases a:us.drop i with
   | nil=>rfl
   | cons y B=>rw[a]at hu;cases hu
  | cons x xr=>rw[b]at hv;cases hv
 | f::fs,i,ks,h,hv,hu=>by
  simp only[BH]at h;split at h
  .rename_i k s c p;split at h
   .rename_i r;obtain⟨z,u⟩:=r;cases h;obtain⟨n,l,b,q⟩:=D1 hv;obtain⟨m,o,a,t⟩:=D1 hu;have A:vs[i]? = some (.int k n):=by have:=congrArg (·[0]?) b;simpa using this
    have v:us[i]? = some (.int k m):=by have:=congrArg (·[0]?) a;simpa using this
    have e:vs.drop (i+1)=l:=by rw[<-bZ,b];rfl
    have j:us.drop (i+1)=o:=by rw[<-bZ,a];rfl
    have g:=VA d fs (i+1) s p (by rw[e];exact q) (by rw[j];exact t);rw[e,j]at g;rw[b,a];simp only[Op.eqFields,if_pos u,Sem.run_bind,z,SJ c A,SJ c v,Result.andThen_ok,run_equalIn_int w d f.type k k n m c,Sem.run_ite,g,yA];cases n == m<;>simp
   .cases h
  .cases h
theorem YB{l:List IntKind}:∀ {a b:List Value},sQ l a=true->sQ l b=true->nI (.agg a.toArray) (.agg b.toArray)=yA a b:=by
 induction l with
 | nil=>intro a b h1 c;cases a<;>cases b<;>simp[sQ]at h1 c;simp[nI,yA]
 | cons k ks d=>
  intro a b h1 c;obtain⟨n,i,rfl,f⟩:=D1 h1;obtain⟨m,g,rfl,e⟩:=D1 c;have h:=d f e;simp[nI,yA]at h ⊢;rw[<-h];cases n == m<;>cases i.length == g.length<;>simp
theorem abj:∀ {a b:List Value},yA a b=true->a=b
 | [],[],_=>rfl
 | .int k n::a,.int k' m::b,h=>by simp[yA]at h;obtain⟨⟨rfl,rfl⟩,h⟩:=h;rw[abj h]
 | [],_::_,h=>by simp[yA]at h
theorem aay(n:Nat):∀ {l:List IntKind} {a:List Value},sQ l a=true->(a.zip a).all (λ(x,y)=>Instr.sameBits n x y)=true
 | [],[],_=>rfl
 | k::l,v::a,h=>by obtain⟨m,r,e,h⟩:=D1 h;cases e;simp only[List.zip_cons_cons,List.all_cons,aay n h];cases n<;>simp[Instr.sameBits]
def KC(P:Program)(t:TypeId)(d:TypeDesc)(kk:KK):Prop:=(∃k,d = .int k/\kk = .int k)\/(d = .string/\kk = .str)\/(d = .bool/\kk = .bool)\/∃fs l,d = .struct fs/\kk = .ints l/\BH P 0 fs.toList=some l/\P.stoodInHeld t=false
theorem ON{t:TypeId}{kk:KK}(h:uD P t=some kk):∃d,P.underlying t=some d/\KC P t d kk:=by
 unfold uD at h;split at h
 .rename_i fs a;split at h
  .rename_i hs;obtain⟨l,hl,rfl⟩:=ak.1 h;exact⟨_,a,.inr (.inr (.inr ⟨fs,l,rfl,rfl,hl,hs⟩))⟩
  .cases h
 .rename_i k a;cases h;exact⟨_,a,.inl ⟨k,rfl,rfl⟩⟩
 .rename_i a;cases h;exact⟨_,a,.inr (.inl ⟨rfl,rfl⟩)⟩
 .rename_i a;cases h;exact⟨_,a,.inr (.inr (.inl ⟨rfl,rfl⟩))⟩
 .cases h
theorem ab2{t:TypeId}{k:IntKind}(h:P.underlying t=some (.int k))(b:Bool)(n:Nat)(m:Int):(Instr.checkKey b (n+1) t (.int k m)).run P w = .ok () w:=by unfold Instr.checkKey;simp only[Sem.run_bind,run_underlying h,Result.andThen_ok];rfl
theorem run_checkKey{t:TypeId}{kk:KK}(h:uD P t=some kk)(b:Bool){kv:Value}(c:kk.has kv=true)(w:World):(Instr.checkKey b 10000 t kv).run P w = .ok () w:=by
 obtain⟨d,e,g⟩:=ON h;unfold Instr.checkKey;rcases g with⟨k,rfl,rfl⟩|⟨rfl,rfl⟩|⟨rfl,rfl⟩|⟨fs,l,rfl,rfl,a,_⟩
 .simp only[Sem.run_bind,run_underlying e,Result.andThen_ok];rfl
 .simp only[Sem.run_bind,run_underlying e,Result.andThen_ok];rfl
 .simp only[Sem.run_bind,run_underlying e,Result.andThen_ok];rfl
 .cases kv<;>simp[KK.has]at c;rename_i cs;obtain⟨vs⟩:=cs;simp only[Sem.run_bind,run_underlying e,Result.andThen_ok];rw[<-Array.forIn_toList];have h0:sQ l (vs.drop 0)=true:=by simpa using c
  clear c h;obtain⟨i,hi⟩:∃i,i=0:=⟨_,rfl⟩;rw[<-hi]at a h0;clear hi e;generalize fs.toList=fl at a ⊢
  induction fl generalizing i l with
  | nil=>simp
  | cons f fl r=>
   simp only[BH]at a;split at a
   .rename_i k u c p;split at a
    .rename_i g;obtain⟨x,v⟩:=g;cases a;obtain⟨n,o,j,q⟩:=D1 h0;have y:vs[i]? = some (.int k n):=by have:=congrArg (·[0]?) j;simpa using this
     have m:vs.drop (i+1)=o:=by rw[<-bZ,j];rfl
     have s:=r u (i+1) (by rw[m];exact q) p;rw[List.forIn_cons];simp only[if_pos v,Sem.run_bind,x,SJ c y,Result.andThen_ok,ab2 c,Sem.run_pure];exact s
    .cases a
   .cases a
def nO(kv:Value):List MapEntry->Nat->Option (Nat×Value)
 | [],_=>none
 | e::es,i=>if nI kv e.key then some (i,e.val)else nO kv es (i+1)
theorem PZ{d:TypeDesc}{kk:KK}(f:(∃k,d = .int k/\kk = .int k)\/(d = .string/\kk = .str)\/(d = .bool/\kk = .bool)){kv:Value}(b:kk.has kv=true) :
  ∀(es:List MapEntry) (i:Nat),(∀e∈es,kk.has e.key=true)->Instr.findNow d kv es i=some (nO kv es i):=by
 intro es
 induction es with
 | nil=>intro i _;rfl
 | cons e es c=>
  intro i h;have a:=h e (by simp);have g:=c (i+1) (λe a=>h e (by simp[a]));unfold Instr.findNow nO
  have hs:Instr.sameNow d kv e.key=some (nI kv e.key):=by obtain⟨key,val,born⟩:=e;rcases f with⟨k,rfl,rfl⟩|⟨rfl,rfl⟩|⟨rfl,rfl⟩<;>cases kv<;>simp[KK.has]at b<;>cases key<;>simp[KK.has]at a<;>simp[Instr.sameNow,nI];subst b;subst a;simp
  rw[hs];cases nI kv e.key
  .grind
  .rfl
theorem V'{t:TypeId}{fs:Array Field}{l:List IntKind}(d:P.underlying t=some (.struct fs))(f:BH P 0 fs.toList=some l)(g:P.stoodInHeld t=false){kv:Value}(b:(KK.ints l).has kv=true)(w:World) :
  ∀(es:List MapEntry) (i:Nat),(∀e∈es,(KK.ints l).has e.key=true)->(Instr.findAsking t kv es i).run P w = .ok (nO kv es i) w
 | [],i,_=>rfl
 | e::es,i,h=>by
  have a:=h e (by simp);have k:=V' d f g b w es (i+1) λe a=>h e (by simp[a]);have m:P.underlying t=some (.struct (P.fieldsOf t)):=by unfold Program.fieldsOf;rw[d]
  have j:P.fieldsOf t=fs:=by unfold Program.fieldsOf;rw[d]
  obtain⟨key,val,born⟩:=e;cases kv<;>simp[KK.has]at b;cases key<;>simp[KK.has]at a;rename_i cs ds;obtain⟨vs⟩:=cs;obtain⟨us⟩:=ds;dsimp only at b a
  have c:(Op.equal t (.agg ⟨vs⟩) (.agg ⟨us⟩)).run P w = .ok (nI (.agg ⟨vs⟩) (.agg ⟨us⟩)) w:=by show(Op.equalIn 10000 t (.agg ⟨vs⟩) (.agg ⟨us⟩)).run P w=_;rw[run_equalIn_struct w 9999 t ⟨vs⟩ ⟨us⟩ m g,j,YB b a];exact VA 9998 (vs:=vs) (us:=us) fs.toList 0 l f (by simpa using b) (by simpa using a)
  unfold Instr.findAsking nO;simp only[Sem.run_bind,c,Result.andThen_ok,Sem.run_ite,k];cases nI (.agg ⟨vs⟩) (.agg ⟨us⟩)<;>simp
theorem run_findKey{t:TypeId}{kk:KK}(h:uD P t=some kk){kv:Value}(f:kk.has kv=true)(es:List MapEntry)(c:∀e∈es,kk.has e.key=true)(w:World) :
  (Instr.findKey t kv es).run P w = .ok (nO kv es 0) w:=by
 obtain⟨d,b,a⟩:=ON h;rcases a with a|a|a|⟨fs,l,rfl,rfl,g,j⟩
 .simp[Instr.findKey,run_underlying b,PZ (.inl a) f es 0 c]
 .simp[Instr.findKey,run_underlying b,PZ (.inr (.inl a)) f es 0 c]
 .simp[Instr.findKey,run_underlying b,PZ (.inr (.inr a)) f es 0 c]
 .cases es with
  | nil=>simp[Instr.findKey,run_underlying b,Instr.findNow,nO]
  | cons e es=>
   have i:Instr.findNow (.struct fs) kv (e::es) 0=none:=by unfold Instr.findNow;cases kv<;>cases e.key<;>simp[Instr.sameNow]
   simp only[Instr.findKey,Sem.run_bind,run_underlying b,Result.andThen_ok,i];exact V' b g j f w (e::es) 0 c
theorem Yd:∀ {l:List IntKind} {vs:List Value},sQ l vs=true->∀v∈vs,v.oneCell'=true
 | [],[],_,v,hv=>by cases hv
 | k::ks,.int k' n::vs,h,v,hv=>by
  simp only[sQ,Bool.and_eq_true]at h;rcases aw.1 hv with rfl|hv
  .rfl
  .exact Yd h.2 v hv
theorem Z'{kk:KK}{v:Value}(h:kk.has v=true):fR c w v (se v):=by
 unfold se;split
 .rename_i cs;cases kk<;>simp only[KK.has]at h<;>first|(cases h;done)|skip
  have:=fR.agg (c:=c) (w:=w) cs.toList (cs.toList.map .val) (by simp) (Yd h) (λi v d b a=>by
   simp only[av,b,aG,aq]at a;subst a
   exact .val _)
  simpa using this
 .exact .val _
theorem Sl{arr:Array MapEntry}{a:Nat}{es:List (Value×D)}(b:Fa c w arr a es){kk:KK}(d:∀x∈es,kk.has x.1=true):∀e∈arr.toList,kk.has e.key=true:=by
 intro e f;obtain⟨i,hi⟩:=aC.1 f;have hl:i<es.length:=by rw[<-b.1];have:=(ae.1 hi).1;simpa using this
 obtain⟨h1,_⟩:=b.2.1 i e es[i] (by simpa using hi) (by simp[hl]);rw[h1];exact d _ (bP hl)
theorem F0(kv:Value):∀(l:List MapEntry) (es:List (Value×D)) (i:Nat),l.length=es.length ->
  (∀(j:Nat) (e:MapEntry) (x:Value×D),l[j]? = some e->es[j]? = some x->e.key=x.1/\fR c w e.val x.2) ->
  (nO kv l i=none/\qm es kv=none/\∀y,mg es kv y=es ++ [(kv,y)]) \/
  (∃j v d,nO kv l i=some (i+j,v)/\qm es kv=some d/\fR c w v d/\j<l.length/\(∀y,mg es kv y=es.set j (kv,y))/\∃e,l[j]? = some e/\nI kv e.key=true)
 | [],[],i,_,_=>.inl ⟨rfl,rfl,λ_=>rfl⟩
 | e::l,(k,d)::es,i,hl,h=>by
  obtain⟨f,n⟩:=h 0 e (k,d) rfl rfl;dsimp only at f n
  by_cases a:nI kv e.key=true
  .refine .inr ⟨0,e.val,d,by simp[nO,a],by simp[qm,<-f,a],n,by simp,λy=>by simp[mg,<-f,a],e,rfl,a⟩
  .have b:nI kv k=false:=by rw[<-f];simpa using a
   rcases F0 kv l es (i+1) (by simpa using hl) (λj e x a o=>h (j+1) e x (by simpa using a) (by simpa using o))with⟨h1,m,g⟩|⟨j,v,d',h1,m,g,t,r,s,q,p⟩
   .exact .inl ⟨by simp[nO,a,h1],by simp[qm,b,m],λy=>by simp[mg,b,g]⟩
   .exact .inr ⟨j+1,v,d',by simp[nO,a,h1];omega,by simp[qm,b,m],g,by simp;omega,λy=>by simp[mg,b,r],s,by simpa using q,p⟩
theorem alN(h:gv G c H w){t k e:TypeId}{kk:KK}{z:D}(S:P.underlying t=some (.map k e))(F:uD P k=some kk)(s:EI P e=some z)(ok:Bool){m x:D}{u v:Value}(h1:fR c w u m)(V:fR c w v x)
  (g:Hu kk z ok m x H K):∃r,(Instr.lookup t u v ok).run P w = .ok r w/\ja G c H w K r w:=by
 have o:∃n,(zeroValue e).run P w = .ok n w/\fR c w n z:=by
  unfold EI at s
  cases hi:P.info? e with
  | none=>simp[hi]at s
  | some i=>
   simp only[hi,Option.bind_some]at s
   cases C:i.zero with
   | none=>simp[C]at s
   | some n=>
    simp only[C,Option.bind_some]at s;exact⟨n,by simp[zeroValue,run_typeInfo hi,C],S0 s⟩
 obtain⟨n,J,I⟩:=o;unfold Hu at g;split at g
 .rename_i v0 kv X;split at g
  .rename_i Z es Q;obtain⟨rfl,E,g⟩:=g;have f:=RZ V X;subst f
   cases h1 with
   | gx _ L W ic=>
    have A:=h.ob v0 _ (tI Q);simp only[Ob.gen]at A;rw[W]at A;simp only[gV]at A;obtain⟨_,M,arr,q,T,B⟩:=A;have Y:=run_findKey F E arr.toList (Sl B M) w;have N:=run_checkKey (w:=w) F arr.isEmpty E
    have y:(Instr.lookup t (.map (some L.b)) v ok).run P w=((match nO v arr.toList 0 with
      | some (_,v)=>Result.ok (v,true) w
      | none=>Result.ok (n,false) w:Result (Value×Bool)).andThen λp w=>.ok (if ok then .tuple #[p.1,.bool p.2]else p.1) w):=by
     have O:(getObj L.b).run P w = .ok (.map arr q) w:=by simp[getObj,Sem.run,T]
     simp only[Instr.lookup,Sem.run_bind,run_underlying S,Result.andThen_ok,O,Sem.run_pure,N,Y]
     cases nO v arr.toList 0 with
     | none=>simp[J]
     | some p=>obtain⟨_,_⟩:=p;simp
    rcases F0 (c:=c) (w:=w) v arr.toList es 0 (by simpa using B.1) (λj e x U R=>let ⟨a,b,_⟩:=B.2.1 j e x (by simpa using U) R;⟨a,b⟩)with⟨f1,f2,_⟩|⟨j,val,d,f1,f2,f3,_⟩
    .rw[f1]at y;rw[f2]at g;refine⟨_,y,.plain h g ?_⟩;cases ok
     .exact I
     .exact .tup [n,.bool false] [z,.val (.bool false)] rfl (λi v d f l=>by
       match i with
       | 0=>simp at f l;subst f;subst l;exact I
       | 1=>simp at f l;subst f;subst l;exact .val _
       | i+2=>simp at f)
    .rw[f1]at y;rw[f2]at g;refine⟨_,y,.plain h g ?_⟩;cases ok
     .exact f3
     .exact .tup [val,.bool true] [d,.val (.bool true)] rfl (λi v d' f l=>by
       match i with
       | 0=>simp at f l;subst f;subst l;exact f3
       | 1=>simp at f l;subst f;subst l;exact .val _
       | i+2=>simp at f)
  .exact g.elim
 .grind
theorem am7{kk:KK}(a:kk = .str\/kk = .bool\/∃k,kk = .int k){old new:Value}(h1:kk.has new=true)(b:kk.has old=true)(h:nI new old=true):Instr.sameBits 10000 old new=true:=by
 rcases a with rfl|rfl|⟨k,rfl⟩<;>cases new<;>simp[KK.has]at h1<;>cases old<;>simp[KK.has]at b<;>simp[nI]at h<;>simp[Instr.sameBits]
 .rename_i x y;obtain⟨x⟩:=x;obtain⟨y⟩:=y;have c:(x == y)=true:=h;have e:=eq_of_beq c;subst e;exact h
 .exact h.symm
 .grind
theorem aax{kk:KK}(b:(kk = .str\/kk = .bool\/∃k,kk = .int k)\/∃l,kk = .ints l){old new:Value}(h1:kk.has new=true)(a:kk.has old=true)(h:nI new old=true):Instr.sameBits 10000 old new=true:=by
 rcases b with b|⟨l,rfl⟩
 .exact am7 b h1 a h
 .cases new<;>simp[KK.has]at h1;cases old<;>simp[KK.has]at a;rename_i cs ds;obtain⟨vs⟩:=cs;obtain⟨us⟩:=ds;dsimp only at h1 a;have e:=abj ((YB h1 a).symm.trans h);subst e;have:=aay 9999 h1;simp only[Instr.sameBits,beq_self_eq_true,dZ];exact this
theorem Am{G:GT}{c:Ctx}{H:U}{w:World}(h:gv G c H w){v:Nat}{ob ob':Ob}(e:H[v]? = some ob)(f:ob.alive=true)(i:ob'.alive=true)(m:ob'.gen=ob.gen){L:Loc}(g:c.ι v ob.gen=some L)(a:L.jG=false)(o':Obj)
  (k:∀w',w'.heap[L.b]? = some o'->(∀u d,fR c w u d->fR c w' u d)->gV c w' (some L) ob') :
  gv G c (H.set v ob') { w with heap:=w.heap.setIfInBounds L.b o' }/\Step H.length c H w c (H.set v ob') { w with heap:=w.heap.setIfInBounds L.b o' }:=by
 have l:=h.lt _ ⟨v,L,⟨ob,e,f,g⟩,a,rfl⟩;refine abd (w':={ w with heap:=w.heap.setIfInBounds L.b o' }) h e f i m g a ⟨rfl,Nat.le_refl _⟩ rfl rfl (by simp) (λb j=>?_) (k _ (by simp[l]));rw[cJ (cu j)]
theorem Y8{es:List (Value×D)}{kv:Value}{y:D}:∀x∈mg es kv y,x∈es\/x=(kv,y):=by
 induction es with
 | nil=>intro x a;simp[mg]at a;exact .inr a
 | cons e es b=>
  intro x a;obtain⟨k,d⟩:=e;simp only[mg]at a;split at a
  .grind
  .grind
theorem Zy(h:gv G c H w){t k e:TypeId}{kk:KK}(V:P.underlying t=some (.map k e))(O:uD P k=some kk){m x y:D}{u v z:Value}(h1:fR c w u m)(h2:fR c w v x)(W:fR c w z y)
  (s:Hx kk m x y H K):∃w',(Instr.mapUpdate t u v z).run P w = .ok () w'/\ja G c H w K undef w':=by
 have Rn:(kk = .str\/kk = .bool\/∃k,kk = .int k)\/∃l,kk = .ints l:=by
  obtain⟨d,_,hc⟩:=ON O;rcases hc with⟨k,_,rfl⟩|⟨_,rfl⟩|⟨_,rfl⟩|⟨_,l,_,rfl,_⟩
  .grind
  .grind
  .grind
  .grind
 unfold Hx at s;split at s
 .rename_i v0 kv Gt;split at s
  .rename_i C es Q;obtain⟨rfl,B,s⟩:=s;have hv:=RZ h2 Gt;subst hv
   cases h1 with
   | gx _ L S E=>
    have I:=h.ob v0 _ (tI Q);simp only[Ob.gen]at I;rw[S]at I;simp only[gV]at I;obtain⟨_,tt,arr,f,F,n⟩:=I;have Y:=Sl n tt;have Z:=run_findKey O B arr.toList Y w;have U:=run_checkKey (w:=w) O false B
    have X:∀T,∀x∈mg es v T,C.has x.1=true:=λT x g=>by
     rcases Y8 x g with h|rfl
     .grind
     .exact B
    rcases F0 (c:=c) (w:=w) v arr.toList es 0 (by simpa using n.1) (λj e x o g=>let ⟨a,b,_⟩:=n.2.1 j e x (by simpa using o) g;⟨a,b⟩)with⟨f1,f2,f3⟩|⟨j,val,d,f1,f2,_,f4,f5,J,f6,f7⟩
    .have R:(Instr.mapUpdate t (.map (some L.b)) v z).run P w = .ok () { w with heap:=w.heap.setIfInBounds L.b (.map (arr.push { key:=v,val:=z,born:=f }) (f+1)) }:=by
      have N:(getObj L.b).run P w = .ok (.map arr f) w:=by simp[getObj,Sem.run,F]
      simp only[Instr.mapUpdate,Sem.run_bind,run_underlying V,Result.andThen_ok,N,U,Z,f1];simp[setObj,Sem.run,F]
     obtain⟨m1,m2⟩:=Am h (tI Q) rfl rfl rfl S E (.map (arr.push { key:=v,val:=z,born:=f }) (f+1)) (ob':=.map C (mg es v y)) (by
      intro w' M A;simp only[gV];refine⟨E,X y,_,_,M,?_⟩;rw[f3];refine⟨by simp[n.1],λi e x o g=>?_,by simp[n.2.2]⟩;rw[eE]at o;split at o
      .rename_i hi;cases o;rw[ai (by rw[hi,n.1];exact Nat.le_refl _),hi,n.1]at g;simp at g;subst g;exact⟨rfl,A _ _ W,by rw[hi,n.1,n.2.2]⟩
      .have hi:i<es.length:=by rw[<-n.1];exact(aP.1 o).1
       rw[ah hi]at g;obtain⟨p,q,r⟩:=n.2.1 i e x o g
       exact⟨p,A _ _ q,r⟩)
     exact⟨_,R,.any,_,c,s,m1,.any _,m2⟩
    .have ni:j<arr.size:=by simpa using f4
     have vi:arr[j]? = some J:=by simpa using f6
     have Q2:C.has J.key=true:=Y J (List.mem_of_getElem? f6)
     have Rx:(Instr.keyThatStays J.key v).run P w = .ok v w:=by simp[Instr.keyThatStays,aax Rn B Q2 f7]
     have R:(Instr.mapUpdate t (.map (some L.b)) v z).run P w = .ok () { w with heap:=w.heap.setIfInBounds L.b (.map (arr.modify j λe=>{ e with key:=v,val:=z }) f) }:=by
      have N:(getObj L.b).run P w = .ok (.map arr f) w:=by simp[getObj,Sem.run,F]
      simp only[Instr.mapUpdate,Sem.run_bind,run_underlying V,Result.andThen_ok,N,U,Z,f1,aQ,vi,aG,aW,Rx];simp[setObj,Sem.run,F]
     obtain⟨m1,m2⟩:=Am h (tI Q) rfl rfl rfl S E (.map (arr.modify j λe=>{ e with key:=v,val:=z }) f) (ob':=.map C (mg es v y)) (by
      intro w' M A;simp only[gV];refine⟨E,X y,_,_,M,?_⟩;rw[f5];refine⟨by simp[n.1],λi e x o g=>?_,by simp[n.2.2]⟩
      .rw[bf]at o;rw[bS]at g;split at o
       .rename_i hi;subst hi;rw[if_pos rfl]at g;simp only[ak]at o;obtain⟨e0,h0,rfl⟩:=o;split at g
        .cases g;have hj:j<es.length:=by rw[<-n.1];exact ni
         exact⟨rfl,A _ _ W,(n.2.1 j e0 es[j] h0 (by simp[hj])).2.2⟩
        .cases g
       .rename_i hi;rw[if_neg hi]at g;obtain⟨p,q,r⟩:=n.2.1 i e x o g
        exact⟨p,A _ _ q,r⟩)
     exact⟨_,R,.any,_,c,s,m1,.any _,m2⟩
  .exact s.elim
 .exact s.elim
end
end Go.AL
namespace Go.AL
open Go
section
variable{P:Program}{G:GT}{c:Ctx}{H:U}{w:World}{K:jx}{env:gL}{a:Act}
theorem YJ{t:TypeId}{l:mq}(hl:ya P t=some l)(d:Nat){x y:D}{u v:Value}(h1:fR c w u x)(b:fR c w v y){r:Bool}(h:uc l x y=some r):(Op.equalIn (d+1) t u v).run P w = .ok r w:=by
 unfold uc at h;split at h
 .rename_i k m f n;cases h1;cases b;split at h
  .rename_i e;subst e;cases h;unfold ya at hl;split at hl
   .rename_i k0 a;exact run_equalIn_int w d t k k0 m n a
   .cases hl
   .cases hl
   .cases hl
  .cases h
 .cases h1;cases b;cases h;unfold ya at hl;split at hl
  .cases hl
  .cases hl
  .rename_i a;exact run_equalIn_bool' w d t _ _ a
  .cases hl
 .cases h1;cases b;cases h;rename_i p q;unfold ya at hl;split at hl
  .cases hl
  .rename_i a;have:=run_equalIn_string (P:=P) w d t p q a;rw[ByteArray.toList_eq,ByteArray.toList_eq]at this;exact this
  .cases hl
  .cases hl
 .cases h
theorem YI{t:TypeId}{l:mq}(hl:ya P t=some l):oQ P t=some false:=by unfold ya at hl;unfold oQ;split at hl<;>first|(rename_i a;simp[a])|(rename_i k a;simp[a])|cases hl
theorem VC(d:Nat){vs us:List Value}{xs a:List D}(k:Cells c w vs xs)(j:Cells c w us a):∀(fs:List Field) (i:Nat) (ls:List mq) (r:Bool),Mq P i fs=some ls->mr ls (xs.drop i) (a.drop i)=some r ->
  (Op.eqFields (d+1) vs.toArray us.toArray fs).run P w = .ok r w
 | [],i,ls,r,he,hc=>by
  cases he;unfold mr at hc;split at hc
  .cases hc;rfl
  .grind
  .cases hc
 | f::fs,i,ls,r,he,hc=>by
  simp only[Mq]at he;split at he
  .rename_i l g hl t;split at he
   .rename_i B;obtain⟨n,J⟩:=B;cases he
    cases b:xs.drop i with
    | nil=>rw[b]at hc;simp[mr]at hc
    | cons x xr=>
     cases e:a.drop i with
     | nil=>rw[b,e]at hc;simp[mr]at hc
     | cons y s=>
      rw[b,e]at hc;simp only[mr]at hc;split at hc
      .rename_i p q H G;cases hc;have N:xs[i]? = some x:=by have:=congrArg (·[0]?) b;simpa using this
       have K:a[i]? = some y:=by have:=congrArg (·[0]?) e;simpa using this
       have o:xs.drop (i+1)=xr:=by rw[<-bZ,b];rfl
       have M:a.drop (i+1)=s:=by rw[<-bZ,e];rfl
       obtain⟨u,F,_,I⟩:=k.get N;obtain⟨v,E,_,L⟩:=j.get K;have C:=VC d k j fs (i+1) g q t (by rw[o,M];exact G);have h:=YJ (w:=w) hl d I L H;have m:=B9 (YI hl) w;have z:(part f.type vs.toArray f.offset).run P w = .ok u w:=by simp[part,m,n,F]
       have A:(part f.type us.toArray f.offset).run P w = .ok v w:=by simp[part,m,n,E]
       simp only[Op.eqFields,if_pos J,Sem.run_bind,z,A,Result.andThen_ok,h,Sem.run_ite,C];cases p<;>simp
      .cases hc
   .cases he
  .cases he
theorem VE{e:TypeId}{l:mq}(hl:ya P e=some l)(d:Nat){vs us:List Value}{xs a:List D}(j:Cells c w vs xs)(h:Cells c w us a):∀(n i:Nat) (r:Bool),mr (List.replicate n l) (xs.drop i) (a.drop i)=some r ->
  (Op.eqItems (d+1) e 1 vs.toArray us.toArray (List.range' i n)).run P w = .ok r w
 | 0,i,r,hc=>by
  unfold mr at hc;split at hc
  .cases hc;rfl
  .grind
  .cases hc
 | n+1,i,r,hc=>by
  rw[bn]at hc
  cases b:xs.drop i with
  | nil=>rw[b]at hc;simp[mr]at hc
  | cons x xr=>
   cases f:a.drop i with
   | nil=>rw[b,f]at hc;simp[mr]at hc
   | cons y o=>
    rw[b,f]at hc;simp only[mr]at hc;split at hc
    .rename_i p q E C;cases hc;have J:xs[i]? = some x:=by have:=congrArg (·[0]?) b;simpa using this
     have G:a[i]? = some y:=by have:=congrArg (·[0]?) f;simpa using this
     have m:xs.drop (i+1)=xr:=by rw[<-bZ,b];rfl
     have I:a.drop (i+1)=o:=by rw[<-bZ,f];rfl
     obtain⟨u,B,_,F⟩:=j.get J;obtain⟨v,A,_,H⟩:=h.get G;have z:=VE hl d j h n (i+1) q (by rw[m,I];exact C);have g:=YJ (w:=w) hl d F H E;have k:=B9 (YI hl) w;have s:(part e vs.toArray (i*1)).run P w = .ok u w:=by simp[part,k,B]
     have t:(part e us.toArray (i*1)).run P w = .ok v w:=by simp[part,k,A]
     rw[cH];simp only[Op.eqItems,Sem.run_bind,s,t,Result.andThen_ok,g,Sem.run_ite,z];cases p<;>simp
    .cases hc
theorem Zx(h:gv G c H w){t:TypeId}{ls:List mq}(d:Mr P t=some ls)(neg:Bool){x y:D}{u v:Value}(h1:fR c w u x)(E:fR c w v y)(a:wz true ls neg x y H K)(xo f:Operand) :
  ∃r,(do eqGuard (if neg then .neq else .eql) t xo f u v;binOp (if neg then .neq else .eql) t u v).run P w = .ok r w/\ja G c H w K r w:=by
 unfold Mr at d;split at d
 .rename_i fs i;split at d
  .rename_i g;have J:P.underlying t=some (.struct (P.fieldsOf t)):=by unfold Program.fieldsOf;rw[i]
   have F:P.fieldsOf t=fs:=by unfold Program.fieldsOf;rw[i]
   have o:∃cs ds,x = .agg cs/\y = .agg ds:=by
    unfold wz at a;split at a
    .grind
    .contradiction
    .exact a.elim
   obtain⟨cs,ds,rfl,rfl⟩:=o;simp only[wz]at a;split at a
   .rename_i r p
    cases h1 with
    | agg vs _ k C z=>
     cases E with
     | agg us _ j s q=>
      have B:Cells c w vs cs:=⟨k,C,z⟩;have A:Cells c w us ds:=⟨j,s,q⟩;have m:=VC (P:=P) 9998 B A fs.toList 0 ls r d (by simpa using p)
      have b:(Op.equalIn 10000 t (.agg vs.toArray) (.agg us.toArray)).run P w = .ok r w:=by rw[run_equalIn_struct w 9999 t vs.toArray us.toArray J g.1,F];exact m
      cases neg
      .simp only[bz,if_false,Sem.run_bind,run_eqGuard_agg w .eql t xo f vs.toArray us.toArray g.2,Result.andThen_ok,run_eql_struct,b];exact⟨_,rfl,.val h (by simpa using a)⟩
      .simp only[if_true,Sem.run_bind,run_eqGuard_agg w .neq t xo f vs.toArray us.toArray g.2,Result.andThen_ok,run_neq_struct,b];exact⟨_,rfl,.val h (by simpa using a)⟩
   .exact a.elim
  .cases d
 .rename_i n e i;split at d
  .rename_i g;obtain⟨hg,L,hi⟩:=g;obtain⟨I,hi⟩:=c8.1 hi;obtain⟨l,hl,rfl⟩:=ak.1 d
   have o:∃cs ds,x = .agg cs/\y = .agg ds:=by
    unfold wz at a;split at a
    .grind
    .contradiction
    .exact a.elim
   obtain⟨cs,ds,rfl,rfl⟩:=o;simp only[wz]at a;split at a
   .rename_i r p
    cases h1 with
    | agg vs _ k C z=>
     cases E with
     | agg us _ j s q=>
      have B:Cells c w vs cs:=⟨k,C,z⟩;have A:Cells c w us ds:=⟨j,s,q⟩;have m:=VE (P:=P) (w:=w) hl 9998 B A n 0 r (by simpa using p)
      have b:(Op.equalIn 10000 t (.agg vs.toArray) (.agg us.toArray)).run P w = .ok r w:=by rw[run_equalIn_array (w:=w) 9999 vs.toArray us.toArray i hi,L,cK];exact m
      cases neg
      .simp only[bz,if_false,Sem.run_bind,run_eqGuard_agg w .eql t xo f vs.toArray us.toArray hg,Result.andThen_ok,run_eql_struct,b];exact⟨_,rfl,.val h (by simpa using a)⟩
      .simp only[if_true,Sem.run_bind,run_eqGuard_agg w .neq t xo f vs.toArray us.toArray hg,Result.andThen_ok,run_neq_struct,b];exact⟨_,rfl,.val h (by simpa using a)⟩
   .exact a.elim
  .cases d
 .cases d
theorem Zv(h:gv G c H w){t:TypeId}(k:P.underlying t=some .bool)(neg:Bool){x y:D}{u v:Value}(h1:fR c w u x)(m:fR c w v y)(f:wz false [.bool] neg x y H K)(xo j:Operand) :
  ∃r,(do eqGuard (if neg then .neq else .eql) t xo j u v;binOp (if neg then .neq else .eql) t u v).run P w = .ok r w/\ja G c H w K r w:=by
 simp only[wz]at f;split at f
 .rename_i r d;simp only[mr]at d;split at d
  .rename_i p q e l;cases l;cases d;unfold uc at e;split at e
   .contradiction
   .cases h1;cases m;cases e;rename_i b g _;have a:=run_equalIn_bool' (P:=P) w 9999 t b g k;have i:Op.equal t (.bool b) (.bool g)=Op.equalIn 10000 t (.bool b) (.bool g):=rfl;cases neg
    .exact⟨_,by simp[eqGuard,binOp,i,a]<;>rfl,.val h (by simpa using f)⟩
    .exact⟨_,by simp[eqGuard,binOp,i,a]<;>rfl,.val h (by simpa using f)⟩
   .contradiction
   .cases e
  .cases d
 .grind
theorem Ol{f:FuncId}(h:sF P f=true)(args:Array Value)(w:World):(callFunc f args).run P w = .ok (.enter f args) w:=by
 unfold sF at h;split at h
 .rename_i fn b;simp only[Bool.and_eq_true,bne_iff_ne,ne_eq]at h;have a:fn.body.isNone=false:=by cases a:fn.body<;>simp[a]at h ⊢
  simp[callFunc,b,h.1];intro e;rw[e]at a;cases a
 .cases h
end
end Go.AL
namespace Go.AL
open Go
section
variable{P:Program}{G:GT}{c:Ctx}{H:U}{w:World}{K:jx}{env:gL}{a:Act}
def CO(r:Result Next)(v:Value)(w':World):Prop:=r = .ok (.value v) w'\/(r = .ok .skip w'/\v=undef)
theorem jA{s:Sem Value}{v:Value}{w':World}(h:s.run P w = .ok v w'):CO ((do pure (.value (<-s)):Sem Next).run P w) v w':=.inl (by simp[h])
theorem II{s:Sem Unit}{w':World}(h:s.run P w = .ok () w'):CO ((do s;pure .skip:Sem Next).run P w) undef w':=.inr ⟨by simp[h],rfl⟩
theorem alA(h:gv G c H w){s d:TypeId}{sd:TypeDesc}{k:IntKind}(hs:P.underlying s=some sd)(b:P.underlying d=some (.int k)){x:D}{u:Value}(h1:fR c w u x)
  (a:FJ k x H K):∃r,(convert s d u).run P w = .ok r w/\ja G c H w K r w:=by
 unfold FJ at a;split at a
 .rename_i f n;cases h1;have e:P.intKind d=k:=by simp[Program.intKind,b]
  have:=run_convert_int (P:=P) w s d f n (by rw[hs];rfl) (by rw[e];exact b);rw[e]at this;exact⟨_,this,.val h a⟩
 .exact a.elim
theorem alT(h:gv G c H w){o:Oper}{x:Operand}(l:o.op = .nilCheck x){d:D}(h1:fR c w (a.eval x) d)
  (g:HE d H K):∃v w',CO ((execOp a.eval o).run P w) v w'/\ja G c H w K v w':=by
 have key:∀v,a.eval x=v->(match v with | .pointer (some _)=>True | .func (.func _) _ _=>True | .func (.yield _) _ _=>True|_=>False)->CO ((execOp a.eval o).run P w) v w:=by intro v i m;refine .inl ?_;simp only[execOp,l,i];split at m<;>simp_all
 generalize i:a.eval x=v at h1;unfold HE at g;split at g
 .cases h1 with
  | ptr _ _ _ L k j=>exact⟨_,w,key _ i trivial,.plain h g (.ptr _ _ _ L k j)⟩
 .obtain⟨b,p,e,u,t⟩:=yV h1;subst e;exact⟨_,w,key _ i trivial,.plain h g h1⟩
 .cases h1 with
  | fn f fs cs y z s r q n=>exact⟨_,w,key _ i trivial,.plain h g (.fn _ fs cs _ _ s r q n)⟩
 .cases h1 with
  | iP _ L k j=>exact⟨_,w,key _ i trivial,.plain h g (.iP _ L k j)⟩
 .exact g.elim
theorem S1{l:Array Operand}{xs:List D}(h:ju c w (l.toList.map a.eval) xs):∃vs:List Value,l.map a.eval=vs.toArray/\ju c w vs xs:=
 ⟨_,by cases l;simp,h⟩
theorem w8{o:Oper}{cl:Call}(c:o.op = .call cl){b:Builtin}(d:cl.callee = .builtin b):(execOp a.eval o).run P w=(builtin b cl.argTypes o.type (cl.args.map λ| .const _=>true|_=>false) (cl.args.map a.eval)).run P w:=by simp only[execOp,c,resolve,d,Sem.run_bind,Sem.run_pure,Result.andThen_ok,invoke];rfl
theorem ZQ(h:gv G c H w)(B:kK c w env a){al:Al}(ib:mW H al){o:Oper}{io:iD}(g:nz P G o=some io)(A:Fg env H al K io) :
  ∃v w',CO ((execOp a.eval o).run P w) v w'/\ja G c H w K v w':=by
 unfold nz at g
 cases p:o.op with
 | move x=>
  simp only[p,aA,ag,aD,aq]at g;obtain⟨X,hX,rfl⟩:=g;exact⟨_,w,.inl (by simp only[execOp,p];rfl),.plain h A (iE h B hX)⟩
 | assign x=>
  simp only[p,aA,ag,aD,aq]at g;obtain⟨X,hX,rfl⟩:=g;exact⟨_,w,.inl (by simp only[execOp,p];rfl),.plain h A (iE h B hX)⟩
 | pick x y z=>
  simp only[p,aA,ag,aD,aq]at g;obtain⟨X,hX,Y,F,Z,hZ,rfl⟩:=g;obtain⟨b,J,j⟩:=alU h (iE h B hX) (iE h B F) (iE h B hZ) A;exact⟨_,w,.inl (by simp[execOp,p,J];rfl),j⟩
 | box e x=>
  simp only[p,aA,ag,aD,aq]at g;obtain⟨X,hX,rfl⟩:=g;obtain⟨r,w',U,j⟩:=alu (P:=P) h ib e (iE h B hX) A;exact⟨r,w',by simp only[execOp,p];exact jA U,j⟩
 | alloc e=>
  simp only[p,aA,ag,aD,aq]at g;obtain⟨z,O,rfl⟩:=g;obtain⟨r,w',U,j⟩:=alo (P:=P) h ib O A;exact⟨r,w',by simp only[execOp,p];exact jA U,j⟩
 | build t ps=>
  simp only[p,aA,ag]at g;obtain⟨z,O,l,hl,g⟩:=g;split at g
  .rename_i fs C;split at g
   .rename_i hf;simp only[ag,aD,aq]at g;obtain⟨qs,hq,rfl⟩:=g;obtain⟨r,U,j⟩:=alv h B O hl C hf hq A;exact⟨r,w,by simp only[execOp,p];exact jA U,j⟩
   .cases g
  .rename_i n e C;simp only[ag,aD,aq]at g;obtain⟨sz,hs,rfl⟩:=g;obtain⟨r,U,j⟩:=alw h B O hl C hs A;exact⟨r,w,by simp only[execOp,p];exact jA U,j⟩
  .cases g
 | buildSlice t n ps=>
  simp only[p,aA,ag]at g;obtain⟨S,C,g⟩:=g;split at g
  .rename_i e;simp only[ag]at g;obtain⟨z,O,sz,hs,l,hl,g⟩:=g;split at g
   .rename_i T;cases g;obtain⟨r,w',U,j⟩:=alx (P:=P) h ib B C O hs hl T.1 T.2.1 T.2.2 A;exact⟨r,w',by simp only[execOp,p];exact jA U,j⟩
   .cases g
  .cases g
 | load t x=>
  simp only[p,aA,ag]at g;obtain⟨X,hX,n,E,b,J,g⟩:=g;cases b
  .cases g;obtain⟨v,q,j⟩:=alL h J (iE h B hX) A;exact⟨v,w,by simp only[execOp,p];exact jA q,j⟩
  .cases g;obtain⟨v,q,j⟩:=alM h J E (iE h B hX) A;exact⟨v,w,by simp only[execOp,p];exact jA q,j⟩
 | store t x y=>
  simp only[p,aA,ag]at g;obtain⟨X,hX,Y,F,n,E,b,J,g⟩:=g;cases b
  .simp only[bz,if_false]at g;split at g
   .rename_i e;subst e;cases g;obtain⟨w',q,j⟩:=al0 h E (iE h B hX) (iE h B F) A;exact⟨_,w',by simp only[execOp,p];exact II q,j⟩
   .cases g
  .cases g;obtain⟨w',q,j⟩:=al1 h E (iE h B hX) (iE h B F) A;exact⟨_,w',by simp only[execOp,p];exact II q,j⟩
 | nilCheck x=>
  simp only[p,aA,ag,aD,aq]at g;obtain⟨X,hX,rfl⟩:=g;exact alT h p (iE h B hX) A
 | binOp op t x y yt=>
  simp only[p,aA,ag]at g;obtain⟨X,hX,Y,F,g⟩:=g;have I:=iE h B hX;have Q:=iE h B F;split at g
  .split at g
   .rename_i J;cases g;obtain⟨v,q,j⟩:=Zv (P:=P) h (by unfold LP at J;split at J<;>first|assumption|cases J) false I Q A x y;exact⟨v,w,by simp only[execOp,p];exact jA q,j⟩
   .split at g
    .cases g;obtain⟨v,q,j⟩:=SE (P:=P) h I Q A t x y;exact⟨v,w,by simp only[execOp,p];exact jA q,j⟩
    .simp only[ag,aD,aq]at g;obtain⟨ls,xS,rfl⟩:=g;obtain⟨v,q,j⟩:=Zx (P:=P) h xS false I Q A x y;exact⟨v,w,by simp only[execOp,p];exact jA q,j⟩
  .split at g
   .rename_i J;cases g;obtain⟨v,q,j⟩:=Zv (P:=P) h (by unfold LP at J;split at J<;>first|assumption|cases J) true I Q A x y;exact⟨v,w,by simp only[execOp,p];exact jA q,j⟩
   .split at g
    .cases g;obtain⟨v,q,j⟩:=SE (P:=P) h I Q A t x y;exact⟨v,w,by simp only[execOp,p];exact jA q,j⟩
    .simp only[ag,aD,aq]at g;obtain⟨ls,xS,rfl⟩:=g;obtain⟨v,q,j⟩:=Zx (P:=P) h xS true I Q A x y;exact⟨v,w,by simp only[execOp,p];exact jA q,j⟩
  .cases g;obtain⟨v,q,j⟩:=SE (P:=P) h I Q A t x y;exact⟨v,w,by simp only[execOp,p];exact jA q,j⟩
 | unOp op t x=>
  simp only[p,aA,ag,aD,aq]at g;obtain⟨X,hX,rfl⟩:=g;obtain⟨v,q,j⟩:=al2 (P:=P) h (iE h B hX) A;exact⟨v,w,by simp only[execOp,p];exact jA q,j⟩
 | convert s d x=>
  simp only[p,aA,ag]at g;obtain⟨X,hX,sd,hs,g⟩:=g;split at g
  .rename_i k hd;cases g;obtain⟨v,q,j⟩:=alA (P:=P) h hs hd (iE h B hX) A;exact⟨v,w,by simp only[execOp,p];exact jA q,j⟩
  .rename_i hd;simp only[ag]at g;obtain⟨b5,lN,g⟩:=g;split at g
   .rename_i e;simp only[ag]at g;obtain⟨ed,b',g⟩:=g;split at g
    .cases g;obtain⟨v,q,j⟩:=als (P:=P) h lN b' hd (iE h B hX) A;exact⟨v,w,by simp only[execOp,p];exact jA q,j⟩
    .cases g
   .cases g
  .cases g
 | makeFunc f first cap=>
  simp only[p,aA,ag,aD,aq]at g;obtain⟨X,hX,Y,F,rfl⟩:=g;exact⟨_,w,.inl (by simp[execOp,p,Instr.makeFunc]),alP h B hX F A⟩
 | makeMap t r=>
  cases r with
  | some r=>simp[p]at g
  | none=>
   simp only[p,aA,ag]at g;obtain⟨S,C,g⟩:=g;split at g
   .simp only[ag,aD,aq]at g;obtain⟨kk,lg,rfl⟩:=g;obtain⟨v,w',q,j⟩:=alQ (P:=P) h ib t kk A;exact⟨v,w',by simp only[execOp,p];exact jA q,j⟩
   .cases g
 | lookup t x i ok=>
  simp only[p,aA,ag]at g;obtain⟨S,C,g⟩:=g;split at g
  .simp only[ag,aD,aq]at g;obtain⟨z,O,kk,lg,X,hX,Y,F,rfl⟩:=g;obtain⟨v,q,j⟩:=alN (P:=P) h C lg O ok (iE h B hX) (iE h B F) A;exact⟨v,w,by simp only[execOp,p];exact jA q,j⟩
  .cases g
 | mapUpdate t m k x=>
  simp only[p,aA,ag]at g;obtain⟨S,C,g⟩:=g;split at g
  .simp only[ag,aD,aq]at g;obtain⟨kk,lg,X,hX,Y,F,Z,hZ,rfl⟩:=g;obtain⟨w',q,j⟩:=Zy (P:=P) h C lg (iE h B hX) (iE h B F) (iE h B hZ) A;exact⟨_,w',by simp only[execOp,p];exact II q,j⟩
  .cases g
 | insert t m k x=>
  simp only[p,aA,ag]at g;obtain⟨S,C,g⟩:=g;split at g
  .simp only[ag,aD,aq]at g;obtain⟨kk,lg,X,hX,Y,F,Z,hZ,rfl⟩:=g;obtain⟨w',q,j⟩:=Zy (P:=P) h C lg (iE h B hX) (iE h B F) (iE h B hZ) A;exact⟨_,w',by simp only[execOp,p];exact II q,j⟩
  .cases g
 | makeSlice t l m=>
  simp only[p,aA,ag]at g;obtain⟨S,C,g⟩:=g;split at g
  .simp only[ag]at g;obtain⟨z,O,i,hi,g⟩:=g;split at g
   .rename_i T;simp only[ag,aD,aq]at g;obtain⟨X,hX,Y,F,rfl⟩:=g;obtain⟨v,w',q,j⟩:=alR (P:=P) h ib C hi O T.1 T.2 (iE h B hX) (iE h B F) A;exact⟨_,w',by simp only[execOp,p];exact jA q,j⟩
   .cases g
  .cases g
 | slice t x lo hi mx=>
  cases mx with
  | some r=>
   cases hi with
   | none=>simp[p]at g
   | some hi=>
    simp only[p,aA,ag]at g;obtain⟨X,hX,L,hL,M,hM,N,hN,S,C,g⟩:=g;split at g
    .simp only[ag,aD,aq]at g;obtain⟨n,E,rfl⟩:=g;obtain⟨v,q,j⟩:=alW (P:=P) h B C E hL hM hN (iE h B hX) A;exact⟨v,w,by simp only[execOp,p];exact jA q,j⟩
    .cases g
  | none=>
   simp only[p,aA,ag]at g;obtain⟨X,hX,L,hL,M,hM,g⟩:=g;have I:=iE h B hX;split at g
   .rename_i e C;simp only[ag,aD,aq]at g;obtain⟨n,E,rfl⟩:=g;obtain⟨v,q,j⟩:=alY (P:=P) h B C E hL hM I A;exact⟨v,w,by simp only[execOp,p];exact jA q,j⟩
   .rename_i C;cases g
    have hs:∃s,ev env X = .val (.string s):=by
     simp only[Fg]at A;unfold Et at A;split at A
     .rename_i s e;exact⟨s,e⟩
     .exact A.elim
    obtain⟨s,hs⟩:=hs;simp only[Fg]at A;rw[hs]at A I
    have DT:a.eval x = .string s:=by generalize a.eval x=u at I;cases I;rfl
    obtain⟨v,q,j⟩:=alZ (P:=P) h B C hL hM A;exact⟨v,w,by simp only[execOp,p,DT];exact jA q,j⟩
   .rename_i m e C;simp only[ag,aD,aq]at g;obtain⟨n,E,rfl⟩:=g;obtain⟨v,q,j⟩:=alX (P:=P) h B C E hL hM I A;exact⟨v,w,by simp only[execOp,p];exact jA q,j⟩
   .cases g
 | fieldAddr t x f=>
  simp only[p,aA,ag]at g;obtain⟨X,hX,S,C,g⟩:=g;split at g
  .simp only[ag]at g;obtain⟨fd,hf,n,E,g⟩:=g;split at g
   .rename_i kb;cases g;obtain⟨v,q,j⟩:=alG (P:=P) h C hf E kb (iE h B hX) A;exact⟨v,w,by simp only[execOp,p];exact jA q,j⟩
   .cases g
  .cases g
 | field t x f=>
  simp only[p,aA,ag]at g;obtain⟨X,hX,S,C,g⟩:=g;split at g
  .simp only[ag,aD,aq]at g;obtain⟨fd,hf,n,E,b,J,rfl⟩:=g;obtain⟨v,q,j⟩:=alF (P:=P) h C hf J E (iE h B hX) A;exact⟨v,w,by simp only[execOp,p];exact jA q,j⟩
  .cases g
 | indexAddr t x i=>
  simp only[p,aA,ag]at g;obtain⟨X,hX,Y,F,g⟩:=g;split at g
  .rename_i e C;simp only[ag]at g;obtain⟨n,E,g⟩:=g;split at g
   .rename_i kb;cases g;obtain⟨v,q,j⟩:=alI (P:=P) h C E kb (iE h B hX) (iE h B F) A;exact⟨v,w,by simp only[execOp,p];exact jA q,j⟩
   .cases g
  .rename_i m e C;simp only[ag,aD,aq]at g;obtain⟨n,E,rfl⟩:=g;obtain⟨v,q,j⟩:=alJ (P:=P) h C E (iE h B hX) (iE h B F) A;exact⟨v,w,by simp only[execOp,p];exact jA q,j⟩
  .cases g
 | index t x i=>
  simp only[p,aA,ag]at g;obtain⟨X,hX,Y,F,g⟩:=g;split at g
  .rename_i m e C;simp only[ag,aD,aq]at g;obtain⟨n,E,b,J,rfl⟩:=g;obtain⟨v,q,j⟩:=alH (P:=P) h C E J (iE h B hX) (iE h B F) A;exact⟨v,w,by simp only[execOp,p];exact jA q,j⟩
  .rename_i C;cases g;obtain⟨v,q,j⟩:=alK (P:=P) h C (iE h B hX) (iE h B F) A;exact⟨v,w,by simp only[execOp,p];exact jA q,j⟩
  .cases g
 | extract x i=>
  simp only[p,aA,ag,aD,aq]at g;obtain⟨X,hX,rfl⟩:=g;obtain⟨v,q,j⟩:=alE (P:=P) h (iE h B hX) A;exact⟨v,w,by simp only[execOp,p];exact jA q,j⟩
 | call cl=>
  simp only[p,aA,ag]at g;obtain⟨args,te,g⟩:=g;have D:=Ay h B cl.args.toList te;split at g
  .split at g
   .cases g;split at A<;>exact(show False from A).elim
   .cases g
  .simp only[ag,aD,aq]at g;obtain⟨X,hX,rfl⟩:=g;exact(show False from A).elim
  .rename_i R;split at g
   .rename_i t u x y kP;have V:cl.argTypes = #[t,u]:=by rw[<-bL (xs:=cl.argTypes),kP]
    obtain⟨vs,W,D⟩:=S1 D;simp only[List.map_cons,List.map_nil]at D
    cases D with|cons I D=>cases D with|cons Q D=>cases D with|nil=>
    simp only[ag]at g;obtain⟨S,C,g⟩:=g;split at g
    .simp only[ag]at g;obtain⟨i,hi,z,O,ud,Ns,g⟩:=g;split at g
     .split at g
      .rename_i T;cases g;obtain⟨v,w',q,j⟩:=alp (P:=P) (ty:=o.type) h ib C ⟨_,Ns⟩ hi O T.1 T.2 I Q A;exact⟨v,w',by rw[w8 p R,W,V];exact jA q,j⟩
      .cases g
     .cases g
    .cases g
   .cases g
  .rename_i R;split at g
   .rename_i t u x y kP;have V:cl.argTypes = #[t,u]:=by rw[<-bL (xs:=cl.argTypes),kP]
    obtain⟨vs,W,D⟩:=S1 D;simp only[List.map_cons,List.map_nil]at D
    cases D with|cons I D=>cases D with|cons Q D=>cases D with|nil=>
    simp only[ag]at g;obtain⟨S,C,g⟩:=g;split at g
    .simp only[ag]at g;obtain⟨ud,Ns,g⟩:=g;split at g
     .simp only[ag]at g;obtain⟨n,E,g⟩:=g;split at g
      .rename_i kb;cases g;obtain⟨v,w',q,j⟩:=alB (P:=P) (u:=u) (ty:=o.type) h C E kb I Q A;exact⟨v,w',by rw[w8 p R,W,V];exact jA q,j⟩
      .cases g
     .cases g
    .cases g
   .cases g
  .rename_i R;split at g
   .rename_i t x kP;have V:cl.argTypes = #[t]:=by rw[<-bL (xs:=cl.argTypes),kP]
    obtain⟨vs,W,D⟩:=S1 D;simp only[List.map_cons,List.map_nil]at D
    cases D with|cons I D=>cases D with|nil=>
    split at g
    .rename_i e C;cases g;obtain⟨v,q,j⟩:=SF (P:=P) (ty:=o.type) (k:=.slice) h C ⟨e,rfl⟩ I A;exact⟨v,w,by rw[w8 p R,W,V];exact jA q,j⟩
    .rename_i C;cases g;obtain⟨v,q,j⟩:=SF (P:=P) (ty:=o.type) (k:=.string) h C rfl I A;exact⟨v,w,by rw[w8 p R,W,V];exact jA q,j⟩
    .rename_i k e C;cases g;obtain⟨v,q,j⟩:=SF (P:=P) (ty:=o.type) (k:=.map) h C ⟨k,e,rfl⟩ I A;exact⟨v,w,by rw[w8 p R,W,V];exact jA q,j⟩
    .cases g
   .cases g
  .rename_i R;cases g;obtain⟨v,q,j⟩:=Zz (P:=P) h B te true cl.argTypes o.type A;exact⟨v,w,by rw[w8 p R];exact jA (by simpa using q),j⟩
  .rename_i R;cases g;obtain⟨v,q,j⟩:=Zz (P:=P) h B te false cl.argTypes o.type A;exact⟨v,w,by rw[w8 p R];exact jA (by simpa using q),j⟩
  .cases g
 | _=>simp[p]at g
end
end Go.AL
namespace Go.AL
open Go
def Nx:Int->Bool
 | .ofNat m=>Nat.ble m 9223372036854775807
 | .negSucc m=>Nat.ble m 9223372036854775807
theorem afZ(n:Int):Nx n=true↔nU n:=by
 unfold nU
 cases n with
 | ofNat m=>
  have e:Nx (.ofNat m)=Nat.ble m 9223372036854775807:=rfl;rw[e,Nat.ble_eq];have:(Int.ofNat m)=(m:Int):=rfl;omega
 | negSucc m=>
  have e:Nx (.negSucc m)=Nat.ble m 9223372036854775807:=rfl;rw[e,Nat.ble_eq];have:Int.negSucc m = -((m:Int)+1):=Int.negSucc_eq m;omega
instance(n:Int):Decidable (nU n):=decidable_of_iff (Nx n=true) (afZ n)
def ND(k:Nat):Int->Bool
 | .ofNat m=>Nat.ble m k
 | .negSucc _=>true
def qj(n:Int)(k:Nat):Prop:=n<=(k:Int)
theorem agw(n:Int)(k:Nat):ND k n=true↔qj n k:=by
 unfold qj
 cases n with
 | ofNat m=>
  have e:ND k (.ofNat m)=Nat.ble m k:=rfl;rw[e,Nat.ble_eq];have:(Int.ofNat m)=(m:Int):=rfl;omega
 | negSucc m=>
  have e:ND k (.negSucc m)=true:=rfl;rw[e];have:Int.negSucc m = -((m:Int)+1):=Int.negSucc_eq m;simp only[true_iff];omega
instance(n:Int)(k:Nat):Decidable (qj n k):=decidable_of_iff (ND k n=true) (agw n k)
inductive Dl where
 | no
 | cells (v o:Nat) (xs:List D)
 | obj (v:Nat) (ob:Ob)
 | new (ob:Ob)
 deriving Inhabited
def Dl.app(H:U)(al:Al):Dl->U
 | .no=>H
 | .cells v o xs=>match H[v]? with
  | some (.row t g cs)=>H.set v (.row t g (cs.take o++xs++cs.drop (o+xs.length)))
  | _=>H
 | .obj v ob=>H.set v ob
 | .new ob=>al.2 ob
abbrev R:=Option (D×Dl)
def ret(d:D):R:=some (d,.no)
def jN(op:BinOp)(k:IntKind)(a b:Int):Option D:=
 match op with
 | .add=>if k = .i64 then(if nU (a+b)then some (.val (.int .i64 (a+b)))else none)else some (.val (.int k (k.wrap (a+b))))
 | .sub=>if k = .i64 then(if nU (a-b)then some (.val (.int .i64 (a-b)))else none)else some (.val (.int k (k.wrap (a-b))))
 | .mul=>if k = .i64 then(if nU (a*b)then some (.val (.int .i64 (a*b)))else none)else some (.val (.int k (k.wrap (a*b))))
 | .quo=>if b=0 then none else some (.val (.int k (k.wrap (a.tdiv b))))
 | .rem=>if b=0 then none else some (.val (.int k (a.tmod b)))
 | .and | .or | .xor | .andNot=>some (.val (.int k (bits op k a b)))
 | .eql=>some (.val (.bool (a == b)))
 | .neq=>some (.val (.bool (a != b)))
 | .lss=>some (.val (.bool (decide (a<b))))
 | .leq=>some (.val (.bool (decide (a<=b))))
 | .gtr=>some (.val (.bool (decide (a>b))))
 | .geq=>some (.val (.bool (decide (a>=b))))
 | _=>none
def Tk(op:BinOp)(k:IntKind)(a b:Int):Option D:=
 match op with
 | .shl=>if 0<=b then some (.val (.int k (k.wrap (a*2 ^ (min b.toNat k.bits)))))else none
 | .shr=>if 0<=b then some (.val (.int k (a.fdiv (2 ^ (min b.toNat k.bits)))))else none
 | _=>none
def EB(op:BinOp)(a b:ByteArray):Option D:=
 match op with
 | .eql=>some (.val (.bool (a.data.toList == b.data.toList)))
 | .neq=>some (.val (.bool (!(a.data.toList == b.data.toList))))
 | .add=>if qj ((a.size+b.size:Nat):Int) 9223372036854775807 then some (.val (.string (a++b)))else none
 | _=>none
def kN(op:BinOp)(x y:D):Option D:=
 match x,y with
 | .val (.int k a),.val (.int k' b)=>if pF op then Tk op k a b else if k=k' then jN op k a b else none
 | .val (.string a),.val (.string b)=>EB op a b
 | _,_=>none
def ED(op:UnOp)(x:D):Option D:=
 match op,x with
 | .not,.val (.bool b)=>some (.val (.bool (!b)))
 | .neg,.val (.int .i64 n)=>if nU (-n)then some (.val (.int .i64 (-n)))else none
 | .xor,.val (.int k n)=>some (.val (.int k (bits .xor k (if k.signed then -1 else k.max) n)))
 | _,_=>none
def AN(c:Bool)(ls:List mq)(neg:Bool)(x y:D):Option D:=
 match c,x,y with
 | true,.agg a,.agg b=>match mr ls a b with
  | some r=>some (.val (.bool (if neg then !r else r)))
  | none=>none
 | false,x,y=>match mr ls [x] [y]with
  | some r=>some (.val (.bool (if neg then !r else r)))
  | none=>none
 | _,_,_=>none
def BX(c a b:D):Option D:=
 match c with
 | .val (.bool x)=>some (if x then a else b)
 | _=>none
def wW(x:D)(H:U):Option D:=
 match x with
 | .ptr v g o=>match rowAt H v g with
  | some (_,cs)=>cs[o]?
  | none=>none
 | .gi cs=>cs[0]?
 | _=>none
def vI(n:Nat)(x:D)(H:U):Option D:=
 match x with
 | .ptr v g o=>match rowAt H v g with
  | some (_,cs)=>if o+n<=cs.length then some (.agg ((cs.drop o).take n))else none
  | none=>none
 | .gi cs=>if n<=cs.length then some (.agg (cs.take n))else none
 | _=>none
def Ce(a x:D)(H:U):R:=
 match a with
 | .ptr v g o=>match rowAt H v g with
  | some (_,cs)=>if o<cs.length/\one x=true then some (.any,.cells v o [x])else none
  | none=>none
 | _=>none
def Ch(n:Nat)(a x:D)(H:U):R:=
 match a,cellsOf x with
 | .ptr v g o,some xs=>match rowAt H v g with
  | some (_,cs)=>if xs.length=n/\o+n<=cs.length then some (.any,.cells v o xs)else none
  | none=>none
 | _,_=>none
def sA(t:TypeId)(x:D)(n:Nat):R:=
 match cellsOf x with
 | some cs=>some (.ptr n 0 0,.new (.row t 0 cs))
 | none=>none
def CT(env:gL)(z:List D)(ps:List (Nat×Nat×X)):Option D:=
 match partsOf env ps with
 | some l=>match lay l z with
  | some cs=>some (.agg cs)
  | none=>none
 | none=>none
def yT(env:gL)(t sz:Nat)(z:List D)(m:Nat)(ps:List (Nat×X))(n:Nat):R:=
 match partsOf env (ps.map λp=>(p.1*sz,sz,p.2))with
 | some l=>match lay l (List.replicate m z).flatten with
  | some cs=>some (.fM n 0 sz 0 m,.new (.row t 0 cs))
  | none=>none
 | none=>none
def FZ(off:Nat)(x:D):Option D:=
 match x with
 | .ptr v g o=>some (.ptr v g (o+off))
 | .gi cs=>some (.gi (cs.drop off))
 | _=>none
def AU(off n:Nat)(a:Bool)(x:D):Option D:=
 match x with
 | .agg cs=>if a then(if off+n<=cs.length then some (.agg ((cs.drop off).take n))else none)else cs[off]?
 | _=>none
def mB(sz:Nat)(x i:D):Option D:=
 match x,i with
 | .sl gM es,.val (.int _ n)=>if gM=sz/\0<=n/\n<es.length then some (.gi (es.getD n.toNat []))else none
 | .lS vs,.val (.int _ n)=>if 1=sz/\0<=n/\n<vs.length then some (.gi [.val (vs.getD n.toNat undef)])else none
 | .fM v g gM off len,.val (.int _ n)=>if gM=sz/\0<=n/\n<len then some (.ptr v g ((off+n.toNat)*sz))else none
 | _,_=>none
def G9(sz n:Nat)(x i:D):Option D:=
 match x,i with
 | .ptr v g o,.val (.int _ k)=>if 0<=k/\k<n then some (.ptr v g (o+k.toNat*sz))else none
 | .gi cs,.val (.int _ k)=>if 0<=k/\k<n then some (.gi (cs.drop (k.toNat*sz)))else none
 | _,_=>none
def Ny(sz n:Nat)(a:Bool)(x i:D):Option D:=
 match x,i with
 | .agg cs,.val (.int _ k)=>if 0<=k/\k<n then AU (k.toNat*sz) sz a (.agg cs)else none
 | _,_=>none
def RU(x i:D):Option D:=
 match x,i with
 | .val (.string s),.val (.int _ k)=>if 0<=k/\k<s.size then some (.val (.int .u8 ((s.data.toList.getD k.toNat 0).toNat)))else none
 | _,_=>none
def BJ(a:KK)(z:D)(ok:Bool)(m k:D)(H:U):Option D:=
 match m,keyOf k with
 | .gx v,some kv=>match lD H v with
  | some (kk,es)=>if kk=a/\kk.has kv=true then(match qm es kv with
    | some d=>some (if ok then .tup [d,.val (.bool true)]else d)
    | none=>some (if ok then .tup [z,.val (.bool false)]else z))else none
  | none=>none
 | _,_=>none
def zS(a:KK)(m k x:D)(H:U):R:=
 match m,keyOf k with
 | .gx v,some kv=>match lD H v with
  | some (kk,es)=>if kk=a/\kk.has kv=true then some (.any,.obj v (.map kk (mg es kv x)))else none
  | none=>none
 | _,_=>none
def Mv(x:D)(i:Nat):Option D:=
 match x with
 | .tup ds=>ds[i]?
 | _=>none
def D7(t sz bytes:Nat)(z:List D)(l c:D)(v:Nat):R:=
 match l,c with
 | .val (.int _ n),.val (.int _ m)=>if 0<=n/\n<=m/\qj m 9223372036854775807/\qj ((bytes:Int)*m) 281474976710656 then some (.fM v 0 sz 0 n.toNat,.new (.row t 0 (List.replicate m.toNat z).flatten))else none
 | _,_=>none
def tS(env:gL)(sz:Nat)(x:D)(lo hi:Option X):Option D:=
 match x with
 | .sl a es=>match gY env lo 0,gY env hi es.length with
  | some l,some h=>if a=sz/\0<=l/\l<=h/\h<=es.length then some (.sl sz ((es.drop l.toNat).take (h.toNat-l.toNat)))else none
  | _,_=>none
 | .fM v g a off len=>match gY env lo 0,gY env hi len with
  | some l,some h=>if a=sz/\0<=l/\l<=h/\h<=len then some (.fM v g sz (off+l.toNat) (h.toNat-l.toNat))else none
  | _,_=>none
 | .fX=>match gY env lo 0,gY env hi 0 with
  | some l,some h=>if l=0/\h=0 then some .fX else none
  | _,_=>none
 | _=>none
def yw(env:gL)(sz:Nat)(x:D)(lo:Option X)(hi mx:X):Option D:=
 match gY env lo 0,gY env (some hi) 0,gY env (some mx) 0 with
 | some l,some h,some m=>match x with
  | .sl a es=>if a=sz/\0<=l/\l<=h/\h=m/\m<=es.length then some (clip sz ((es.drop l.toNat).take (h.toNat-l.toNat)))else none
  | .fM v g a off len=>if a=sz/\0<=l/\l<=h/\h<=m/\m<=len then some (.fM v g sz (off+l.toNat) (h.toNat-l.toNat))else none
  | .fX=>if l=0/\h=0/\m=0 then some .fX else none
  | _=>none
 | _,_,_=>none
def Ah(env:gL)(sz n:Nat)(x:D)(lo hi:Option X)(H:U):Option D:=
 match x,gY env lo 0,gY env hi n with
 | .gi cs,some l,some h=>if sz=1/\n<=cs.length/\n<=16777216/\0<=l/\l<=h/\h<=n then some (.sl 1 (((cs.drop l.toNat).take (h.toNat-l.toNat)).map λd=>[d]))else none
 | .ptr v g o,some l,some h=>match rowAt H v g with
  | some (_,cs)=>if o % sz=0/\o+n*sz<=cs.length/\n<=16777216/\0<=l/\l<=h/\h<=n then some (.fM v g sz (o / sz+l.toNat) (h.toNat-l.toNat))else none
  | none=>none
 | _,_,_=>none
def Ov(env:gL)(x:D)(lo hi:Option X):Option D:=
 match x with
 | .val (.string s)=>match gY env lo 0,gY env hi s.size with
  | some l,some h=>if 0<=l/\l<=h/\h<=s.size then some (.val (.string (s.extract l.toNat h.toNat)))else none
  | _,_=>none
 | _=>none
def sy(t sz bytes:Nat)(x y:D)(H:U)(a:Nat):R:=
 match kR sz H y with
 | some (ys,n)=>match x with
  | .fM v g b off len=>match rowAt H v g with
   | some (t',cs)=>if b=sz/\t'=t/\(off+len)*sz<=cs.length/\(len+n)*bytes<=140737488355328/\len+n<=9223372036854775807 then
     some (.fM v (g+1) sz 0 (len+n),.obj v (.row t (g+1) ((cs.drop (off*sz)).take (len*sz)++ys)))else none
   | none=>none
  | .lS vs=>if n≠0/\sz=1/\(vs.length+n)*bytes<=140737488355328/\vs.length+n<=9223372036854775807 then some (.fM a 0 sz 0 (vs.length+n),.new (.row t 0 (vs.map .val++ys)))else none
  | .fX=>if n=0 then some (.fX,.no)else if n*bytes<=140737488355328/\n<=9223372036854775807 then some (.fM a 0 sz 0 n,.new (.row t 0 ys))else none
  | _=>none
 | none=>none
def y5(sz:Nat)(x y:D)(H:U):R:=
 match x,kR sz H y with
 | .fM v g gM off len,some (ys,n)=>match rowAt H v g with
  | some (t,cs)=>if gM=sz/\(off+len)*sz<=cs.length then
    some (.val (.int .i64 (min n len:Nat)),.obj v (.row t g (cs.take (off*sz)++ys.take (min n len*sz)++cs.drop (off*sz+min n len*sz))))else none
  | none=>none
 | .fX,some _=>some (.val (.int .i64 0),.no)
 | _,_=>none
def mK(k:Ar)(x:D)(H:U):Option D:=
 match k,x with
 | .slice,.sl _ es=>some (.val (.int .i64 es.length))
 | .slice,.fX=>some (.val (.int .i64 0))
 | .slice,.lS vs=>some (.val (.int .i64 vs.length))
 | .slice,.fM _ _ _ _ len=>some (.val (.int .i64 len))
 | .string,.val (.string s)=>some (.val (.int .i64 s.size))
 | .map,.gx v=>match lD H v with
  | some (_,es)=>some (.val (.int .i64 es.length))
  | none=>none
 | _,_=>none
def D6(env:gL)(d:Bool)(xs:List X):Option D:=
 match rE env xs with
 | some [a,b]=>some (.val (.int .i64 (if d then max a b else min a b)))
 | some [a,b,c]=>some (.val (.int .i64 (if d then max (max a b) c else min (min a b) c)))
 | _=>none
def BQ(x:D):Option D:=
 match x with
 | .ptr v g o=>some (.ptr v g o)
 | .gi cs=>some (.gi cs)
 | .fn (.func f) a b=>some (.fn (.func f) a b)
 | .iP v=>some (.iP v)
 | _=>none
def Mb(k:IntKind)(x:D):Option D:=
 match x with
 | .val (.int _ n)=>some (.val (.int k (k.wrap n)))
 | _=>none
def CR(x:D)(H:U):Option D:=
 match kR 1 H x with
 | some (ys,_)=>match bytesOf ys with
  | some a=>some (.val (.string (a.foldl (λr n=>r.push (UInt8.ofNat n.toNat)) ByteArray.empty)))
  | none=>none
 | none=>none
def lift:Option D->R
 | some d=>some (d,.no)
 | none=>none
def gH(env:gL)(H:U)(n:Nat):iD->R
 | .mv x=>lift (some (ev env x))
 | .pick c a b=>lift (BX (ev env c) (ev env a) (ev env b))
 | .box t x=>sA t (ev env x) n
 | .alloc t z=>some (.ptr n 0 0,.new (.row t 0 z))
 | .build z ps=>lift (CT env z ps)
 | .buildSl t sz z m ps=>yT env t sz z m ps n
 | .ld1 x=>lift (wW (ev env x) H)
 | .ldN m x=>lift (vI m (ev env x) H)
 | .st1 a x=>Ce (ev env a) (ev env x) H
 | .stN m a x=>Ch m (ev env a) (ev env x) H
 | .nilck x=>lift (BQ (ev env x))
 | .arith op x y=>lift (kN op (ev env x) (ev env y))
 | .eqS e ls neg x y=>lift (AN e ls neg (ev env x) (ev env y))
 | .un op x=>lift (ED op (ev env x))
 | .conv k x=>lift (Mb k (ev env x))
 | .b2s x=>lift (CR (ev env x) H)
 | .mkfn f first cap=>lift (some (.fn f (first.map (ev env)) (cap.map (ev env))))
 | .mkmap kk=>some (.gx n,.new (.map kk []))
 | .mksl t sz bytes z l c=>D7 t sz bytes z (ev env l) (ev env c) n
 | .slc sz x lo hi=>lift (tS env sz (ev env x) lo hi)
 | .slcS x lo hi=>lift (Ov env (ev env x) lo hi)
 | .slc3 sz x lo hi mx=>lift (yw env sz (ev env x) lo hi mx)
 | .slcArr sz n x lo hi=>lift (Ah env sz n (ev env x) lo hi H)
 | .fieldA off x=>lift (FZ off (ev env x))
 | .field off m e x=>lift (AU off m e (ev env x))
 | .idxA sz x i=>lift (mB sz (ev env x) (ev env i))
 | .idxArr sz m x i=>lift (G9 sz m (ev env x) (ev env i))
 | .idx sz m e x i=>lift (Ny sz m e (ev env x) (ev env i))
 | .idxStr x i=>lift (RU (ev env x) (ev env i))
 | .lookup kk z ok m k=>lift (BJ kk z ok (ev env m) (ev env k) H)
 | .mapUpd kk m k x=>zS kk (ev env m) (ev env k) (ev env x) H
 | .ext x i=>lift (Mv (ev env x) i)
 | .call _ _ | .callN _ _ | .callv _ _=>none
 | .app t sz bytes x y=>sy t sz bytes (ev env x) (ev env y) H n
 | .copy sz x y=>y5 sz (ev env x) (ev env y) H
 | .len k x=>lift (mK k (ev env x) H)
 | .minmax d xs=>lift (D6 env d xs)
 | .nilS .. | .capE .. | .appZ .. | .clr .. | .rangeS .. | .nextS .. | .rangeM .. | .nextM .. | .entry .. | .mapEnt .. | .entSt .. => none
section
variable{env:gL}{H:U}{al:Al}{d:D}{δ:Dl}{K:jx}
theorem amc{a b c:D}(h:BX a b c=some d)(e:K d H):HN a b c H K:=by unfold BX at h;unfold HN;(repeat' split at h)<;>simp_all
theorem agt{x:D}(h:wW x H=some d)(a:K d H):Hm x H K:=by unfold wW at h;unfold Hm;(repeat' split at h)<;>simp_all
theorem agu{n:Nat}{x:D}(h:vI n x H=some d)(a:K d H):Ho n x H K:=by unfold vI at h;unfold Ho;(repeat' split at h)<;>simp_all
theorem abU{z:List D}{ps:List (Nat×Nat×X)}(h:CT env z ps=some d)(a:K d H):Aw env z ps H K:=by unfold CT at h;unfold Aw;(repeat' split at h)<;>simp_all
theorem ahg{x:D}(h:BQ x=some d)(a:K d H):HE x H K:=by unfold BQ at h;unfold HE;(repeat' split at h)<;>simp_all
theorem anV{op:UnOp}{x:D}(h:ED op x=some d)(a:K d H):IC op x H K:=by unfold ED at h;unfold IC;(repeat' split at h)<;>simp_all
theorem ac9{b:Bool}{ls:List mq}{neg:Bool}{x y:D}(h:AN b ls neg x y=some d)(a:K d H):wz b ls neg x y H K:=by unfold AN at h;unfold wz;(repeat' split at h)<;>simp_all
theorem acF{k:IntKind}{x:D}(h:Mb k x=some d)(a:K d H):FJ k x H K:=by unfold Mb at h;unfold FJ;(repeat' split at h)<;>simp_all
theorem abJ{x:D}(h:CR x H=some d)(a:K d H):Fq x H K:=by unfold CR at h;unfold Fq;(repeat' split at h)<;>simp_all
theorem anr{sz:Nat}{x:D}{lo hi:Option X}(h:tS env sz x lo hi=some d)(a:K d H):Ik env sz x lo hi H K:=by unfold tS at h;unfold Ik;(repeat' split at h)<;>simp_all
theorem ann{sz:Nat}{x:D}{lo:Option X}{hi mx:X}(h:yw env sz x lo hi mx=some d)(a:K d H):Ii env sz x lo hi mx H K:=by unfold yw at h;unfold Ii;(repeat' split at h)<;>simp_all<;>omega
theorem anp{sz n:Nat}{x:D}{lo hi:Option X}(h:Ah env sz n x lo hi H=some d)(a:K d H):Ij env sz n x lo hi H K:=by unfold Ah at h;unfold Ij;(repeat' split at h)<;>simp_all
theorem anq{x:D}{lo hi:Option X}(h:Ov env x lo hi=some d)(a:K d H):Et env x lo hi H K:=by unfold Ov at h;unfold Et;(repeat' split at h)<;>simp_all
theorem aeB{off:Nat}{x:D}(h:FZ off x=some d)(a:K d H):FY off x H K:=by unfold FZ at h;unfold FY;(repeat' split at h)<;>simp_all
theorem V7{off n:Nat}{b:Bool}{x:D}(h:AU off n b x=some d)(a:K d H):AT off n b x H K:=by unfold AU at h;unfold AT;(repeat' split at h)<;>simp_all
theorem af0{sz:Nat}{x i:D}(h:mB sz x i=some d)(a:K d H):G7 sz x i H K:=by unfold mB at h;unfold G7;(repeat' split at h)<;>simp_all
theorem af2{sz n:Nat}{x i:D}(h:G9 sz n x i=some d)(a:K d H):G8 sz n x i H K:=by unfold G9 at h;unfold G8;(repeat' split at h)<;>simp_all
theorem af3{x i:D}(h:RU x i=some d)(a:K d H):Hf x i H K:=by unfold RU at h;unfold Hf;(repeat' split at h)<;>simp_all
theorem agP{kk:KK}{z:D}{ok:Bool}{m k:D}(h:BJ kk z ok m k H=some d)(b:K d H):Hu kk z ok m k H K:=by
 unfold BJ at h;unfold Hu;split at h
 .split at h
  .split at h
   .rename_i c;obtain⟨rfl,c⟩:=c;simp only[*,true_and];split at h
    .rename_i a;cases h;simp only[a];exact b
    .rename_i a;cases h;simp only[a];exact b
   .cases h
  .cases h
 .cases h
theorem adb{x:D}{i:Nat}(h:Mv x i=some d)(a:K d H):FT x i H K:=by unfold Mv at h;unfold FT;(repeat' split at h)<;>simp_all
theorem agD{k:Ar}{x:D}(h:mK k x H=some d)(a:K d H):Hq k x H K:=by unfold mK at h;unfold Hq;(repeat' split at h)<;>simp_all
theorem ag7{b:Bool}{xs:List X}(h:D6 env b xs=some d)(a:K d H):HA env b xs H K:=by unfold D6 at h;unfold HA;(repeat' split at h)<;>simp_all
theorem abC{op:BinOp}{k:IntKind}{a b:Int}(h:jN op k a b=some d)(c:K d H):Fi op k a b H K:=by unfold jN at h;unfold Fi;(repeat' split at h)<;>simp_all
theorem anl{op:BinOp}{k:IntKind}{a b:Int}(h:Tk op k a b=some d)(c:K d H):Ih op k a b H K:=by unfold Tk at h;unfold Ih;(repeat' split at h)<;>simp_all
theorem anP{op:BinOp}{a b:ByteArray}(h:EB op a b=some d)(c:K d H):OB op a b H K:=by unfold EB at h;unfold OB;(repeat' split at h)<;>simp_all [qj]
theorem abR{t:TypeId}{x:D}(h:sA t x al.1=some (d,δ))(a:K d (δ.app H al)):Fu t x al K:=by unfold sA at h;unfold Fu;(repeat' split at h)<;>cases h<;>simp_all [Dl.app]
theorem abT{t sz:Nat}{z:List D}{m:Nat}{ps:List (Nat×X)}(h:yT env t sz z m ps al.1=some (d,δ))(a:K d (δ.app H al)):Fv env t sz z m ps al K:=by unfold yT at h;unfold Fv;(repeat' split at h)<;>cases h<;>simp_all [Dl.app]
theorem H9{v g:Nat}{x:TypeId×List D}(h:rowAt H v g=some x):H[v]? = some (.row x.1 g x.2):=by
 unfold rowAt at h;split at h
 .split at h
  .rename_i e;subst e;cases h;assumption
  .cases h
 .cases h
theorem anK{a x:D}(h:Ce a x H=some (d,δ))(c:K d (δ.app H al)):Ip a x H K:=by
 unfold Ce at h;unfold Ip;split at h
 .split at h
  .rename_i v g o _ t cs f;split at h
   .rename_i b;cases h;simp only[f];refine⟨b.1,b.2,?_⟩;simp only[Dl.app,H9 f]at c
    have e:cs.set o x=cs.take o ++ [x]++cs.drop (o + [x].length):=by rw[cE,if_pos b.1];simp
    rw[e];exact c
   .cases h
  .cases h
 .cases h
theorem anL{n:Nat}{a x:D}(h:Ch n a x H=some (d,δ))(b:K d (δ.app H al)):Iq n a x H K:=by
 unfold Ch at h;unfold Iq;split at h
 .split at h
  .rename_i v g o xs _ _ t cs e;split at h
   .rename_i c;cases h;simp only[*];refine⟨trivial,trivial,?_⟩;simp only[Dl.app,H9 e]at b;rw[c.1]at b;exact b
   .cases h
  .cases h
 .cases h
theorem ag9{t sz bytes:Nat}{z:List D}{l c:D}(h:D7 t sz bytes z l c al.1=some (d,δ))(a:K d (δ.app H al)):HB t sz bytes z l c al K:=by unfold D7 at h;unfold HB;(repeat' split at h)<;>cases h<;>simp_all [Dl.app,qj]
theorem ag4{kk:KK}{m k x:D}(h:zS kk m k x H=some (d,δ))(b:K d (δ.app H al)):Hx kk m k x H K:=by
 unfold zS at h;unfold Hx;split at h
 .split at h
  .split at h
   .rename_i a;obtain⟨rfl,a⟩:=a;cases h;simp only[*,true_and];exact b
   .cases h
  .cases h
 .cases h
theorem abz{t sz bytes:Nat}{x y:D}(h:sy t sz bytes x y H al.1=some (d,δ))(a:K d (δ.app H al)):Fh t sz bytes x y H al K:=by unfold sy at h;unfold Fh;(repeat' split at h)<;>cases h<;>simp_all [Dl.app]
theorem acH{sz:Nat}{x y:D}(h:y5 sz x y H=some (d,δ))(a:K d (δ.app H al)):FM sz x y H K:=by unfold y5 at h;unfold FM;(repeat' split at h)<;>cases h<;>simp_all [Dl.app]
theorem abO{op:BinOp}{x y:D}(h:kN op x y=some d)(a:K d H):Fs op x y H K:=by
 unfold kN at h;unfold Fs;split at h
 .split at h
  .rename_i hs;simp only[hs,if_true];exact anl h a
  .rename_i hs;simp only[hs];split at h
   .rename_i e;exact⟨e,abC h a⟩
   .cases h
 .exact anP h a
 .cases h
theorem af4{sz n:Nat}{b:Bool}{x i:D}(h:Ny sz n b x i=some d)(a:K d H):Ha sz n b x i H K:=by
 unfold Ny at h;unfold Ha;split at h
 .split at h
  .rename_i c;exact⟨c,V7 h a⟩
  .cases h
 .cases h
theorem mf{o:Option D}(h:lift o=some (d,δ)):o=some d/\δ = .no:=by cases o<;>simp[lift]at h;exact⟨by rw[h.1],h.2.symm⟩
theorem Uy{c:iD}(h:gH env H al.1 c=some (d,δ))(b:K d (δ.app H al)):Fg env H al K c:=by
 cases c<;>simp only[gH]at h<;>simp only[Fg]
 case mv=>obtain⟨a,rfl⟩:=mf h;cases a;exact b
 case mkfn=>obtain⟨a,rfl⟩:=mf h;cases a;exact b
 case alloc=>cases h;exact b
 case mkmap=>cases h;exact b
 case call=>cases h
 case callN=>cases h
 case callv=>cases h
 case nilS=>cases h
 case capE=>cases h
 case appZ=>cases h
 case clr=>cases h
 case rangeS=>cases h
 case nextS=>cases h
 case rangeM=>cases h
 case nextM=>cases h
 case entry=>cases h
 case mapEnt=>cases h
 case entSt=>cases h
 case box=>exact abR h b
 case buildSl=>exact abT h b
 case st1=>exact anK h b
 case stN=>exact anL h b
 case mksl=>exact ag9 h b
 case mapUpd=>exact ag4 h b
 case app=>exact abz h b
 case copy=>exact acH h b
 case pick=>obtain⟨a,rfl⟩:=mf h;exact amc a b
 case build=>obtain⟨a,rfl⟩:=mf h;exact abU a b
 case ld1=>obtain⟨a,rfl⟩:=mf h;exact agt a b
 case ldN=>obtain⟨a,rfl⟩:=mf h;exact agu a b
 case nilck=>obtain⟨a,rfl⟩:=mf h;exact ahg a b
 case arith=>obtain⟨a,rfl⟩:=mf h;exact abO a b
 case eqS=>obtain⟨a,rfl⟩:=mf h;exact ac9 a b
 case un=>obtain⟨a,rfl⟩:=mf h;exact anV a b
 case conv=>obtain⟨a,rfl⟩:=mf h;exact acF a b
 case b2s=>obtain⟨a,rfl⟩:=mf h;exact abJ a b
 case slc=>obtain⟨a,rfl⟩:=mf h;exact anr a b
 case slc3=>obtain⟨a,rfl⟩:=mf h;exact ann a b
 case slcArr=>obtain⟨a,rfl⟩:=mf h;exact anp a b
 case slcS=>obtain⟨a,rfl⟩:=mf h;exact anq a b
 case fieldA=>obtain⟨a,rfl⟩:=mf h;exact aeB a b
 case field=>obtain⟨a,rfl⟩:=mf h;exact V7 a b
 case idxA=>obtain⟨a,rfl⟩:=mf h;exact af0 a b
 case idxArr=>obtain⟨a,rfl⟩:=mf h;exact af2 a b
 case idx=>obtain⟨a,rfl⟩:=mf h;exact af4 a b
 case idxStr=>obtain⟨a,rfl⟩:=mf h;exact af3 a b
 case lookup=>obtain⟨a,rfl⟩:=mf h;exact agP a b
 case ext=>obtain⟨a,rfl⟩:=mf h;exact adb a b
 case len=>obtain⟨a,rfl⟩:=mf h;exact agD a b
 case minmax=>obtain⟨a,rfl⟩:=mf h;exact ag7 a b
end
end Go.AL
namespace Go.AL
open Go
mutual
def flat:D->Bool
 | .any | .val _ | .fX=>true
 | .agg cs | .tup cs=>tb cs
 | .sl _ es=>es.isEmpty
 | _=>false
def tb:List D->Bool
 | []=>true
 | d::ds=>flat d&&tb ds
end
def chunks(sz:Nat):Nat->List D->List (List D)
 | 0,_=>[]
 | n+1,cs=>cs.take sz::chunks sz n (cs.drop sz)
def gd(ρ:Nat->Option Nat)(H:U):Nat->D->D
 | 0,d=>if closed d then d else .any
 | k+1,d=>if closed d then d else match d with
  | .agg cs=>.agg (cs.map (gd ρ H k))
  | .tup cs=>.tup (cs.map (gd ρ H k))
  | .sl sz es=>.sl sz (es.map (·.map (gd ρ H k)))
  | .gi cs=>.gi (cs.map (gd ρ H k))
  | .fn f a b=>.fn f (a.map (gd ρ H k)) (b.map (gd ρ H k))
  | .fM v g sz off len=>match ρ v with
   | some v'=>.fM v' g sz off len
   | none=>match rowAt H v g with
    | some (_,cs)=>if (off+len)*sz<=cs.length then .sl sz (chunks sz len ((cs.drop (off*sz)).map (gd ρ H k)))else .any
    | none=>.any
  | .ptr v g off=>match ρ v with
   | some v'=>.ptr v' g off
   | none=>match rowAt H v g with
    | some (_,cs)=>.gi ((cs.drop off).map (gd ρ H k))
    | none=>.any
  | .gx v=>match ρ v with
   | some v'=>.gx v'
   | none=>.any
  | .iP v=>match ρ v with
   | some v'=>.iP v'
   | none=>.any
  | d=>d
def pb(ρ:Nat->Option Nat)(H:U):Ob->Ob
 | .row t g cs=>.row t g (cs.map (gd ρ H 40))
 | .map kk es=>.map kk (es.map λx=>(x.1,gd ρ H 40 x.2))
 | .ia rf env st=>.ia rf (env.map λx=>(x.1,gd ρ H 40 x.2)) st
 | .sn s p=>.sn s p
 | .iX m since seen=>.iX (gd ρ H 40 m) since seen
 | .jv=>.jv
 | .dead=>.dead
 | .lL=>.dead
abbrev ny:=List (Nat×Bool)
def iB(ks:ny)(v:Nat):Option Nat:=ks.findIdx? (λp=>p.2&&p.1 == v)
def qq(ks:ny)(H:U):U:=ks.map λp=>if p.2 then(match H[p.1]? with|some o=>pb (iB ks) H o|none=>.dead)else .dead
def ji(n:Nat):D->List Nat
 | .fM v _ _ _ _=>if n<=v then [v]else []
 | .ptr v _ _=>if n<=v then [v]else []
 | .gx v=>if n<=v then [v]else []
 | .iP v=>if n<=v then [v]else []
 | _=>[]
def oG(n:Nat):Ob->List Nat
 | .row _ _ cs=>(cs.map (ji n)).flatten
 | .map _ es=>(es.map λx=>ji n x.2).flatten
 | _=>[]
def dedup:List Nat->List Nat
 | []=>[]
 | x::r=>if x∈r then dedup r else x::dedup r
def iV(n:Nat)(K:List Nat):ny:=((List.range n).map λv=>(v,true))++K.map λv=>(v,true)
def forget(live:List Nat)(env:Env):Env:=live.map λk=>(k,env.get k)
structure St where
 env:Env
 H:U
 marks:List Nat:=[]
 iq:Bool:=false
 deriving Inhabited
def BR(live:List Nat):Bool:=match live with
 | k::_=>Nat.beq k 9999
 | []=>false
def cut(n:Nat)(live:List Nat)(s:St):St:=
 let env:=forget live s.env
 if s.H.length<=n\/BR live=true then{ s with env:=env }else
 let K:=dedup (((env.map λp=>ji n p.2).flatten++((s.H.take n).map (oG n)).flatten++s.marks.filter (n<=·)).filter (· < s.H.length))
 let ks:=iV n K
 { s with env:=env.map λp=>(p.1,gd (iB ks) s.H 40 p.2),H:=qq ks s.H,marks:=s.marks.map λv=>(iB ks v).getD v }
def Ec(n:Nat):D->List Nat
 | .fM v _ _ 0 _=>if n<=v then [v]else []
 | .tup ds=>(ds.map λd=>match d with | .fM v _ _ 0 _=>if n<=v then [v]else []|_=>[]).flatten
 | _=>[]
inductive IR where
 | skip
 | ops (l:List gR)
 | lU (jz:List (Nat×Nat)) (l:List gR)
 | mF (jz:List (Nat×Nat)) (l es:List gR)
 | seq (a b:IR)
 | cond (c:X) (a b:IR)
 | block (id:Nat) (live:List Nat) (a:IR)
 | loop (live:List Nat) (a:IR)
 | nW (rf:Nat) (live:List Nat) (x:X)
 | exit (id:Nat)
 | ret
 | bad
 | fz (S:List Nat) (a:IR)
 | u5 (S:List Nat) (a b:List gR)
 deriving Inhabited
inductive uR where
 | tmp (t:Nat)
 | s6 (t:Nat)
 | Pe (n t:Nat)
 deriving Inhabited
structure je where
 ntmps:Nat
 body:IR
 results:List uR
 full:Bool:=false
 own:Nat:=0
 fz:Bool:=false
 deriving Inhabited
def Ej(s:St):uR->Option D
 | .tmp t=>some (s.env.get t)
 | .s6 t=>wW (s.env.get t) s.H
 | .Pe n t=>vI n (s.env.get t) s.H
def uJ(s:St):List uR->Option (List D)
 | []=>some []
 | x::r=>match Ej s x,uJ s r with
  | some d,some l=>some (d::l)
  | _,_=>none
def results(fn:je)(s:St):Option D:=match uJ s fn.results with
 | some [d]=>some d
 | some ds=>some (.tup ds)
 | none=>none
def tJ(args:List D):Env:=args.zipIdx.map λp=>(p.2,p.1)
def tR:List Nat->List D->Env->Env
 | k::ks,d::ds,env=>tR ks ds ((k,d)::env)
 | _,_,env=>env
def kA(env:gL):iD->Option (FuncId×List D)
 | .call f args=>some (f,args.map (ev env))
 | .callN f args=>some (f,args.map (ev env))
 | .callv f args=>match ev env f with
  | .fn (.func k) first cap=>some (k,first++args.map (ev env)++cap)
  | _=>none
 | _=>none
def Hh:iD->Bool
 | .call _ _ | .callN _ _ | .callv _ _=>true
 | _=>false
def guardOf(env:gL):Option (Nat×Bool)->Option Bool
 | none=>some true
 | some (s,want)=>match env s with
  | .val (.bool b)=>some (b == want)
  | .val (.tuple _)=>some false
  | _=>none
def ye(n:Nat):D->D
 | .fM v g sz off len=>.fM (v+n) g sz off len
 | d=>d
def ku(n:Nat):D->D
 | .fM v g sz off len=>.fM (v+n) g sz off len
 | .tup ds=>.tup (ds.map (ye n))
 | .agg ds=>.agg (ds.map (ye n))
 | d=>d
def nY:Ob->Bool
 | .row _ _ cs=>gw cs
 | _=>false
def pn:Ob->Bool
 | .row _ _ cs=>tb cs
 | _=>false
def yl(p:D->Bool):D->Bool
 | .fM .. => true
 | d=>p d
def w5(p:D->Bool):D->Bool
 | .fM .. => true
 | .tup ds=>ds.all (yl p)
 | .agg ds=>ds.all (yl p)
 | d=>p d
def mL:D->Bool:=w5 closed
def oH:D->Bool:=w5 flat
def rowsOf(H:U)(v:Nat):Option (TypeId×Nat×List D):=match H[v]? with
 | some (.row t g cs)=>some (t,g,cs)
 | _=>none
def iv(H:U):Nat->D->List Nat
 | 0,_=>[]
 | k+1,d=>if closed d then []else match d with
  | .agg cs | .tup cs | .gi cs=>(cs.map (iv H k)).flatten
  | .sl _ es=>(es.map λe=>(e.map (iv H k)).flatten).flatten
  | .fn _ a b=>(a.map (iv H k)).flatten++(b.map (iv H k)).flatten
  | .fM v _ _ _ _ | .ptr v _ _=>v::(match rowsOf H v with
   | some (_,_,cs)=>(cs.map (iv H k)).flatten
   | none=>[])
  | .gx v | .iP v=>[v]
  | _=>[]
def leave(own:Nat)(n:Nat)(H:U)(d:D):D×U:=
 if H.length<=n\/own=4 then(d,H)else
 let K:=dedup (((match own with|0=>[]|1=>Ec n d|3=>((iv H 40 d).filter (n<=·)).take 1|_=>(iv H 40 d).filter (n<=·))++((H.take n).map (oG n)).flatten).filter (· < H.length))
 let ks:=iV n K
 (gd (iB ks) H 40 d,qq ks H)
def mm(H:U)(S:List Nat):ny:=(List.range H.length).map λv=>(v,!(S.contains v))
structure qb where
 params:List Nat
 a:IR
 b:IR
 deriving Inhabited
structure il where
 fn:FuncId->Option je
 round:Nat->Option qb:=λ_=>none
 sort:FuncId->Option Nat:=λ_=>none
 sV:FuncId->Bool:=λ_=>false
 sD:FuncId->Bool:=λ_=>false
def after(s:St)(dst:Option Nat)(args:List D)(r:D)(Hn:U):Option St:=
 if (if gw args then mL r&&Hn.all nY else oH r&&Hn.all pn)then
  some { s with env:=put s.env dst (ku s.H.length r),H:=s.H++Hn }else none
def lW(S:List Nat)(s:St):St:=
 let ks:=mm s.H S
 { s with env:=s.env.map λp=>(p.1,gd (iB ks) s.H 40 p.2),H:=qq ks s.H }
end Go.AL
namespace Go.AL
open Go
theorem xA{ds:List D}(h:gw ds=true){i:Nat}{d:D}(a:ds[i]? = some d):closed d=true:=by
 induction ds generalizing i with
 | nil=>simp at a
 | cons x xs b=>
  simp only[gw,Bool.and_eq_true]at h
  cases i with
  | zero=>simp at a;subst a;exact h.1
  | succ i=>exact b h.2 (by simpa using a)
theorem ack{es:List (List D)}(h:CZ es=true){i:Nat}{e:List D}(a:es[i]? = some e):gw e=true:=by
 induction es generalizing i with
 | nil=>simp at a
 | cons x xs b=>
  simp only[CZ,Bool.and_eq_true]at h
  cases i with
  | zero=>simp at a;subst a;exact h.1
  | succ i=>exact b h.2 (by simpa using a)
theorem fR.closed{c c':Ctx}{w:World}(A:∀b,c.F b->c'.F b){u:Value}{d:D}(h:fR c w u d)(l:closed d=true):fR c' w u d:=by
 induction h with
 | any v=>exact .any _
 | val v=>exact .val _
 | agg vs ds hl h1 h n=>exact .agg vs _ hl h1 λi v d m k=>n i v d m k (xA l k)
 | tup vs ds hl h n=>exact .tup vs _ hl λi v d m k=>n i v d m k (xA l k)
 | sl a len cap sz es g r F y H x p I n=>
  refine .sl a len cap sz _ g r F y H x ?_ λi e j d s k=>n i e j d s k (xA (ack l s) k);intro i e j d s k;obtain⟨b,o,z,q,t,h1⟩:=p i e j d s k;exact⟨b,o,z,A b q,t,h1⟩
 | fX=>exact .fX
 | lS a vs y x p=>
  refine .lS a vs y x ?_;intro i v m;obtain⟨b,o,z,q,t,h1⟩:=p i v m;exact⟨b,o,z,A b q,t,h1⟩
 | fM=>cases l
 | mh=>cases l
 | ptr=>cases l
 | gi b o cs g q p I n=>exact .gi b o _ g (A b q) p λj d k=>n j d k (xA l k)
 | gx=>cases l
 | fn f fs cs K L G E h1 J C B=>
  simp only[AL.closed,Bool.and_eq_true]at l;exact .fn f fs cs _ _ G E (λi v d m k=>C i v d m k (xA l.1 k)) (λi v d m k=>B i v d m k (xA l.2 k))
 | iP=>cases l
theorem C9{ds:List D}(h:tb ds=true){i:Nat}{d:D}(a:ds[i]? = some d):flat d=true:=by
 induction ds generalizing i with
 | nil=>simp at a
 | cons x xs b=>
  simp only[tb,Bool.and_eq_true]at h
  cases i with
  | zero=>simp at a;subst a;exact h.1
  | succ i=>exact b h.2 (by simpa using a)
theorem fR.flat{c c':Ctx}{w:World}{u:Value}{d:D}(h:fR c w u d)(b:flat d=true):fR c' w u d:=by
 induction h with
 | any v=>exact .any _
 | val v=>exact .val _
 | agg vs ds hl h1 h j=>exact .agg vs _ hl h1 λi v d k f=>j i v d k f (C9 b f)
 | tup vs ds hl h j=>exact .tup vs _ hl λi v d k f=>j i v d k f (C9 b f)
 | sl a len cap sz es g e m n p l o q j=>
  simp only[AL.flat,ea]at b;subst b;exact .sl a len cap sz _ g e m n (by simp) l (by simp) (by simp)
 | fX=>exact .fX
 | lS=>cases b
 | fM=>cases b
 | mh=>cases b
 | ptr=>cases b
 | gi=>cases b
 | gx=>cases b
 | fn=>cases b
 | iP=>cases b
theorem UO(sz:Nat):∀(n:Nat) (cs:List D),(chunks sz n cs).length=n
 | 0,_=>rfl
 | n+1,cs=>by simp[chunks,UO sz n]
theorem Pj(sz:Nat):∀(n:Nat) (cs:List D) (i:Nat) (e:List D),(chunks sz n cs)[i]? = some e->i<n/\e=(cs.drop (i*sz)).take sz
 | 0,_,i,e,h=>by simp[chunks]at h
 | n+1,cs,0,e,h=>by simp[chunks]at h;subst h;simp
 | n+1,cs,i+1,e,h=>by simp only[chunks,db]at h;obtain⟨h1,a⟩:=Pj sz n _ i e h;refine⟨by omega,?_⟩;rw[a,bZ];congr 2;rw[bk];omega
theorem anm{c:Ctx}{w:World}{b o sz len cap:Nat}{vs:List Value}{ds:List D}(n:c.F b)(k:Cells c w vs ds)(hl:ds.length=len*sz)(l:len<=cap)(m:cap<=maxLen)
  (r:∀(j:Nat) (v:Value),vs[j]? = some v->w.cell? ⟨b,o+j,none⟩=some v):fR c w (.slice (some ⟨b,o,none⟩) len cap) (.sl sz (chunks sz len ds)):=by
 have h:∀(i:Nat) (e:List D) (j:Nat) (d:D),(chunks sz len ds)[i]? = some e->e[j]? = some d->ds[i*sz+j]? = some d/\j<sz:=by
  intro i e j d a f;obtain⟨_,rfl⟩:=Pj sz len ds i e a;rw[aF]at f;split at f
  .grind
  .cases f
 refine .sl _ len cap sz _ (λi j=>vs.getD (i*sz+j) undef) (UO _ _ _) l m ?_ (by simp) ?_ ?_
 .intro e a;obtain⟨i,hi⟩:=aC.1 a;obtain⟨h1,rfl⟩:=Pj sz len ds i e hi;simp only[aK,aR,hl];have:(i+1)*sz<=len*sz:=br _ h1;rw[bk]at this;omega
 .intro i e j d a f;obtain⟨h1,_⟩:=h i e j d a f;obtain⟨v,g,q,_⟩:=k.get h1;refine⟨b,o,rfl,n,?_,?_⟩
  .grind
  .grind
 .intro i e j d a f;obtain⟨h1,_⟩:=h i e j d a f;obtain⟨v,g,_,p⟩:=k.get h1;simp only[List.getD,g,aW];exact p
theorem Cells.map{c c':Ctx}{w:World}{f:D->D}(g:∀v d,fR c w v d->fR c' w v (f d)){vs:List Value}{cs:List D}(h:Cells c w vs cs):Cells c' w vs (cs.map f):=
 ⟨by simpa using h.len,h.one,λi v d e a=>by
  simp only[av,ak]at a;obtain⟨d0,b,rfl⟩:=a
  exact g _ _ (h.rep i v d0 e b)⟩
def Ctx.gd(c:Ctx)(ks:ny)(H:U):Ctx where
 ι:=λi g=>match ks[i]? with
  | some p=>c.ι p.1 g
  | none=>none
 F:=λb=>c.F b\/∃v L,lQ c H v L/\iB ks v=none/\L.jG=false/\L.b=b
 RT:=c.RT
theorem aae{ks:ny}{v i:Nat}(h:iB ks v=some i):ks[i]? = some (v,true):=by unfold iB at h;rw[dT]at h;obtain⟨hi,a,_⟩:=h;simp only[Bool.and_eq_true,beq_iff_eq]at a;rw[List.getElem?_eq_getElem hi];congr 1;exact cO a.2 a.1
theorem aad{ks:ny}{v:Nat}(h:iB ks v=none)(i:Nat):ks[i]?≠some (v,true):=by intro hi;unfold iB at h;rw[dC]at h;have:=h _ (List.mem_of_getElem? hi);simp at this
section
variable{G:GT}{c:Ctx}{H:U}{w:World}{ks:ny}
theorem EK{v i g:Nat}(h:iB ks v=some i):(c.gd ks H).ι i g=c.ι v g:=by simp[Ctx.gd,aae h]
theorem CI{b:Nat}(h:c.F b):(c.gd ks H).F b:=Or.inl h
theorem Uk{v:Nat}{L:Loc}(h1:lQ c H v L)(b:iB ks v=none)(a:L.jG=false):(c.gd ks H).F L.b:=Or.inr ⟨v,L,h1,b,a,rfl⟩
theorem z8(h:gv G c H w):∀(k:Nat) {u:Value} {d:D},fR c w u d->fR (c.gd ks H) w u (gd (iB ks) H k d)
 | 0,u,d,q=>by
  unfold AL.gd;split
  .rename_i K;exact q.closed (λb M=>CI M) K
  .exact .any _
 | k+1,u,d,q=>by
  have A:=λ{u:Value} {d:D} (q:fR c w u d)=>z8 h k q;unfold AL.gd;split
  .rename_i K;exact q.closed (λb M=>CI M) K
  .cases q with
   | any v=>exact .any _
   | val v=>exact .val _
   | agg vs ds hl h1 z=>
     refine .agg vs _ (by simpa using hl) h1 λi v d l y=>?_;simp only[av,ak]at y;obtain⟨d0,C,rfl⟩:=y;exact A (z i v d0 l C)
   | tup vs ds hl z=>
     refine .tup vs _ (by simpa using hl) λi v d l y=>?_;simp only[av,ak]at y;obtain⟨d0,C,rfl⟩:=y;exact A (z i v d0 l C)
   | sl a len cap sz es g s E F iA V Q q=>
    refine .sl a len cap sz _ g (by simpa using s) E F ?_ V ?_ ?_
    .grind
    .intro i e j d R y;simp only[av,ak]at R;obtain⟨e0,J,rfl⟩:=R;simp only[av,ak]at y;obtain⟨d0,C,rfl⟩:=y;obtain⟨b,o,ha,I,T,h1⟩:=Q i e0 j d0 J C;exact⟨b,o,ha,CI I,T,h1⟩
    .grind
   | fX=>exact .fX
   | lS a vs h1 z S=>rename_i Z;exact absurd rfl Z
   | fM v g sz off len cap L p l E F U=>
    dsimp only;split
    .rename_i v' r;exact .fM v' g sz off len cap L (by rw[EK r];exact p) l E F U
    .rename_i P;split
     .rename_i t cs O;split
      .rename_i mR;have B:=tQ O;obtain⟨arr,h1,z,S,N⟩:=yq h B p l;have X:=(((N.drop (off*sz)).map (λ_ _ q=>A q)).take (len*sz));have s:((cs.drop (off*sz)).map (AL.gd (iB ks) H k)).length=(cs.length-off*sz):=by simp
       have QL:chunks sz len ((cs.drop (off*sz)).map (AL.gd (iB ks) H k))=chunks sz len (((cs.drop (off*sz)).map (AL.gd (iB ks) H k)).take (len*sz)):=by
        have key:∀(n:Nat) (xs:List D),chunks sz n xs=chunks sz n (xs.take (n*sz)):=by
         intro n
         induction n with
         | zero=>intro xs;rfl
         | succ n A=>
          intro xs;simp only[chunks];rw[dR,Nat.min_eq_left (by rw[bk];omega),A (xs.drop sz),List.drop_take,show(n+1)*sz-sz=n*sz by rw[bk];omega]
        exact key _ _
       rw[QL];refine anm (Uk ⟨_,B,rfl,p⟩ P l) X ?_ E F λj x m=>?_
       .grind
       .rw[aF]at m;split at m
        .rw[aI,aF]at m;split at m
         .rw[aI]at m;simp[World.cell?,h1];rw[a7];simpa using m
         .cases m
        .cases m
      .exact .any _
     .exact .any _
   | mh v g sz off L p a=>
    dsimp only;split
    .rename_i v' r;exact .mh v' g sz off L (by rw[EK r];exact p) a
    .split
     .split
      .exact .sl a 0 0 sz _ (λ_ _=>undef) rfl (Nat.le_refl _) (by unfold maxLen;omega) (by simp[chunks]) (λ_=>rfl) (by simp[chunks]) (by simp[chunks])
      .exact .any _
     .exact .any _
   | ptr v g off L p l=>
    dsimp only;split
    .rename_i v' r;exact .ptr v' g off L (by rw[EK r];exact p) l
    .rename_i P;split
     .rename_i t cs O;have B:=tQ O;obtain⟨arr,h1,z,S,N⟩:=yq h B p l;refine P3 (Uk ⟨_,B,rfl,p⟩ P l) ⟨_,(N.drop off).map (λ_ _ q=>A q),λj x m=>?_⟩;rw[aI,aF]at m;split at m
      .rw[aI]at m;simp[World.cell?,h1];rw[a7];simpa using m
      .cases m
     .exact .any _
   | gi b o cs g I Q q=>
    refine .gi b o _ g (CI I) ?_ ?_
    .grind
    .grind
   | gx v L p l=>
    dsimp only;split
    .rename_i v' r;exact .gx v' L (by rw[EK r];exact p) l
    .exact .any _
   | fn f fs cs df dc Y W h1 z=>
    refine .fn f fs cs _ _ (by simpa using Y) (by simpa using W) ?_ ?_
    .grind
    .grind
   | iP v L p l=>
    dsimp only;split
    .rename_i v' r;exact .iP v' L (by rw[EK r];exact p) l
    .exact .any _
