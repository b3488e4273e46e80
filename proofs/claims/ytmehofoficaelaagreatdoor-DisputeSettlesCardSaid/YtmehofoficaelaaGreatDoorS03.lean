/- Part 3 of DisputeSettles. -/
import Derived.Test.YtmehofoficaelaaGreatDoorS02
import Derived.ChangeKeysEq
set_option linter.all false
namespace Go.AL
open Go
section
variable{P:Program}{G:GT}{c:Ctx}{H:U}{w:World}{K:jG}{env:gT}{a:Act}
theorem Td{x:D}{kv u:Value}(b:gh c w u x)(h:keyOf x=some kv):u=kv:=by
 unfold keyOf at h;split at h
 .cases h;cases b;rfl
 .cases h;cases b;rfl
 .cases h;cases b;rfl
 .rename_i cs;simp only[ak]at h;obtain⟨l,hl,rfl⟩:=h
  cases b with
  | agg vs _ a _ h1=>
   have key:∀(cs:List D) (vs l:List Value),IB cs=some l->vs.length=cs.length->(∀(i:Nat) (v:Value) (d:D),vs[i]? = some v->cs[i]? = some d->gh c w v d)->vs=l:=by
    intro cs
    induction cs with
    | nil=>intro vs l hl a _;simp[IB]at hl;subst hl;exact bg (by simpa using a)
    | cons d cs j=>
     intro vs l hl a h1
     cases vs with
     | nil=>simp at a
     | cons v vs=>
      unfold IB at hl;split at hl
      .grind
      .rename_i k n r e;cases e;simp only[ak]at hl;obtain⟨g,f,rfl⟩:=hl;have h0:=h1 0 v _ rfl rfl;cases h0;rw[j vs g f (by simpa using a) (λi v d m o=>h1 (i+1) v d (by simpa using m) (by simpa using o))]
      .cases hl
   rw[key cs vs l hl a h1]
 .cases h
def zc:List Value->List Value->Bool
 | .int k a::x,.int k' b::y=>k == k'&&a == b&&zc x y
 | [],[]=>true
 | _,_=>false
theorem acH{t:TypeId}{k:IntKind}(h:P.underlying t=some (.int k)):pa P t=some false:=by simp[pa,h]
theorem EN{k:IntKind}{ks:List IntKind}{vs:List Value}(h:tt (k::ks) vs=true):∃n a,vs = .int k n::a/\tt ks a=true:=by
 cases vs with
 | nil=>cases h
 | cons v a=>
  cases v<;>simp[tt]at h;obtain⟨rfl,h⟩:=h;exact⟨_,_,rfl,h⟩
theorem TV{t:TypeId}{k a:IntKind}(h:P.underlying t=some (.int k)){vs:List Value}{i:Nat}{n:Int}(b:vs[i]? = some (.int a n)):(part t vs.toArray i).run P w = .ok (.int a n) w:=by simp[part,CX (acH h) w,b]
theorem WR(d:Nat){vs us:List Value}:∀(fs:List Field) (i:Nat) (ks:List IntKind),Cs P i fs=some ks->tt ks (vs.drop i)=true->tt ks (us.drop i)=true ->
  (Op.eqFields (d+1) vs.toArray us.toArray fs).run P w = .ok (zc (vs.drop i) (us.drop i)) w
 | [],i,ks,h,hv,hu=>by
  cases h
  cases b:vs.drop i with
  | nil=>cases a:us.drop i with
   | nil=>rfl
   | cons y B=>rw[a]at hu;cases hu
  | cons x xr=>rw[b]at hv;cases hv
 | f::fs,i,ks,h,hv,hu=>by
  simp only[Cs]at h;split at h
  .rename_i k s c p;split at h
   .rename_i r;obtain⟨z,v⟩:=r;cases h;obtain⟨n,l,b,q⟩:=EN hv;obtain⟨m,o,a,t⟩:=EN hu;have A:vs[i]? = some (.int k n):=by have:=congrArg (·[0]?) b;simpa using this
    have u:us[i]? = some (.int k m):=by have:=congrArg (·[0]?) a;simpa using this
    have j:vs.drop (i+1)=l:=by rw[<-bZ,b];rfl
    have g:us.drop (i+1)=o:=by rw[<-bZ,a];rfl
    have e:=WR d fs (i+1) s p (by rw[j];exact q) (by rw[g];exact t);rw[j,g]at e;rw[b,a];simp only[Op.eqFields,if_pos v,Sem.run_bind,z,TV c A,TV c u,Result.andThen_ok,run_equalIn_int w d f.type k k n m c,Sem.run_ite,e,zc];cases n == m<;>simp
   .cases h
  .cases h
theorem ZT{l:List IntKind}:∀ {a b:List Value},tt l a=true->tt l b=true->nW (.agg a.toArray) (.agg b.toArray)=zc a b:=by
 induction l with
 | nil=>intro a b h1 c;cases a<;>cases b<;>simp[tt]at h1 c;simp[nW,zc]
 | cons k ks d=>
  intro a b h1 c;obtain⟨n,i,rfl,f⟩:=EN h1;obtain⟨m,g,rfl,e⟩:=EN c;have h:=d f e;simp[nW,zc]at h ⊢;rw[<-h];cases n == m<;>cases i.length == g.length<;>simp
theorem acv:∀ {a b:List Value},zc a b=true->a=b
 | [],[],_=>rfl
 | .int k n::a,.int k' m::b,h=>by simp[zc]at h;obtain⟨⟨rfl,rfl⟩,h⟩:=h;rw[acv h]
 | [],_::_,h=>by simp[zc]at h
theorem abE(n:Nat):∀ {l:List IntKind} {a:List Value},tt l a=true->(a.zip a).all (λ(x,y)=>Instr.sameBits n x y)=true
 | [],[],_=>rfl
 | k::l,v::a,h=>by obtain⟨m,r,e,h⟩:=EN h;cases e;simp only[List.zip_cons_cons,List.all_cons,abE n h];cases n<;>simp[Instr.sameBits]
def KC(P:Program)(t:TypeId)(d:TypeDesc)(kk:KK):Prop:=(∃k,d = .int k/\kk = .int k)\/(d = .string/\kk = .str)\/(d = .bool/\kk = .bool)\/∃fs l,d = .struct fs/\kk = .ints l/\Cs P 0 fs.toList=some l/\P.stoodInHeld t=false
theorem P4{t:TypeId}{kk:KK}(h:ve P t=some kk):∃d,P.underlying t=some d/\KC P t d kk:=by
 unfold ve at h;split at h
 .rename_i fs a;split at h
  .rename_i hs;obtain⟨l,hl,rfl⟩:=ak.1 h;exact⟨_,a,.inr (.inr (.inr ⟨fs,l,rfl,rfl,hl,hs⟩))⟩
  .cases h
 .rename_i k a;cases h;exact⟨_,a,.inl ⟨k,rfl,rfl⟩⟩
 .rename_i a;cases h;exact⟨_,a,.inr (.inl ⟨rfl,rfl⟩)⟩
 .rename_i a;cases h;exact⟨_,a,.inr (.inr (.inl ⟨rfl,rfl⟩))⟩
 .cases h
theorem adn{t:TypeId}{k:IntKind}(h:P.underlying t=some (.int k))(b:Bool)(n:Nat)(m:Int):(Instr.checkKey b (n+1) t (.int k m)).run P w = .ok () w:=by unfold Instr.checkKey;simp only[Sem.run_bind,run_underlying h,Result.andThen_ok];rfl
theorem run_checkKey{t:TypeId}{kk:KK}(h:ve P t=some kk)(b:Bool){kv:Value}(c:kk.has kv=true)(w:World):(Instr.checkKey b 10000 t kv).run P w = .ok () w:=by
 obtain⟨d,e,g⟩:=P4 h;unfold Instr.checkKey;rcases g with⟨k,rfl,rfl⟩|⟨rfl,rfl⟩|⟨rfl,rfl⟩|⟨fs,l,rfl,rfl,a,_⟩
 .simp only[Sem.run_bind,run_underlying e,Result.andThen_ok];rfl
 .simp only[Sem.run_bind,run_underlying e,Result.andThen_ok];rfl
 .simp only[Sem.run_bind,run_underlying e,Result.andThen_ok];rfl
 .cases kv<;>simp[KK.has]at c;rename_i cs;obtain⟨vs⟩:=cs;simp only[Sem.run_bind,run_underlying e,Result.andThen_ok];rw[<-Array.forIn_toList];have h0:tt l (vs.drop 0)=true:=by simpa using c
  clear c h;obtain⟨i,hi⟩:∃i,i=0:=⟨_,rfl⟩;rw[<-hi]at a h0;clear hi e;generalize fs.toList=fl at a ⊢
  induction fl generalizing i l with
  | nil=>simp
  | cons f fl q=>
   simp only[Cs]at a;split at a
   .rename_i k r c o;split at a
    .rename_i g;obtain⟨v,u⟩:=g;cases a;obtain⟨n,m,j,p⟩:=EN h0;have x:vs[i]? = some (.int k n):=by have:=congrArg (·[0]?) j;simpa using this
     have y:vs.drop (i+1)=m:=by rw[<-bZ,j];rfl
     have s:=q r (i+1) (by rw[y];exact p) o;rw[List.forIn_cons];simp only[if_pos u,Sem.run_bind,v,TV c x,Result.andThen_ok,adn c,Sem.run_pure];exact s
    .cases a
   .cases a
def oa(kv:Value):List MapEntry->Nat->Option (Nat×Value)
 | [],_=>none
 | e::es,i=>if nW kv e.key then some (i,e.val)else oa kv es (i+1)
theorem Q9{d:TypeDesc}{kk:KK}(f:(∃k,d = .int k/\kk = .int k)\/(d = .string/\kk = .str)\/(d = .bool/\kk = .bool)){kv:Value}(b:kk.has kv=true) :
  ∀(es:List MapEntry) (i:Nat),(∀e∈es,kk.has e.key=true)->Instr.findNow d kv es i=some (oa kv es i):=by
 intro es
 induction es with
 | nil=>intro i _;rfl
 | cons e es c=>
  intro i h;have a:=h e (by simp);have g:=c (i+1) (λe a=>h e (by simp[a]));unfold Instr.findNow oa
  have hs:Instr.sameNow d kv e.key=some (nW kv e.key):=by obtain⟨key,val,born⟩:=e;rcases f with⟨k,rfl,rfl⟩|⟨rfl,rfl⟩|⟨rfl,rfl⟩<;>cases kv<;>simp[KK.has]at b<;>cases key<;>simp[KK.has]at a<;>simp[Instr.sameNow,nW];subst b;subst a;simp
  rw[hs];cases nW kv e.key
  .grind
  .rfl
theorem Xq{t:TypeId}{fs:Array Field}{l:List IntKind}(d:P.underlying t=some (.struct fs))(f:Cs P 0 fs.toList=some l)(g:P.stoodInHeld t=false){kv:Value}(b:(KK.ints l).has kv=true)(w:World) :
  ∀(es:List MapEntry) (i:Nat),(∀e∈es,(KK.ints l).has e.key=true)->(Instr.findAsking t kv es i).run P w = .ok (oa kv es i) w
 | [],i,_=>rfl
 | e::es,i,h=>by
  have a:=h e (by simp);have k:=Xq d f g b w es (i+1) λe a=>h e (by simp[a]);have m:P.underlying t=some (.struct (P.fieldsOf t)):=by unfold Program.fieldsOf;rw[d]
  have j:P.fieldsOf t=fs:=by unfold Program.fieldsOf;rw[d]
  obtain⟨key,val,born⟩:=e;cases kv<;>simp[KK.has]at b;cases key<;>simp[KK.has]at a;rename_i cs ds;obtain⟨vs⟩:=cs;obtain⟨us⟩:=ds;dsimp only at b a
  have c:(Op.equal t (.agg ⟨vs⟩) (.agg ⟨us⟩)).run P w = .ok (nW (.agg ⟨vs⟩) (.agg ⟨us⟩)) w:=by show(Op.equalIn 10000 t (.agg ⟨vs⟩) (.agg ⟨us⟩)).run P w=_;rw[run_equalIn_struct w 9999 t ⟨vs⟩ ⟨us⟩ m g,j,ZT b a];exact WR 9998 (vs:=vs) (us:=us) fs.toList 0 l f (by simpa using b) (by simpa using a)
  unfold Instr.findAsking oa;simp only[Sem.run_bind,c,Result.andThen_ok,Sem.run_ite,k];cases nW (.agg ⟨vs⟩) (.agg ⟨us⟩)<;>simp
theorem run_findKey{t:TypeId}{kk:KK}(h:ve P t=some kk){kv:Value}(f:kk.has kv=true)(es:List MapEntry)(c:∀e∈es,kk.has e.key=true)(w:World) :
  (Instr.findKey t kv es).run P w = .ok (oa kv es 0) w:=by
 obtain⟨d,b,a⟩:=P4 h;rcases a with a|a|a|⟨fs,l,rfl,rfl,g,j⟩
 .simp[Instr.findKey,run_underlying b,Q9 (.inl a) f es 0 c]
 .simp[Instr.findKey,run_underlying b,Q9 (.inr (.inl a)) f es 0 c]
 .simp[Instr.findKey,run_underlying b,Q9 (.inr (.inr a)) f es 0 c]
 .cases es with
  | nil=>simp[Instr.findKey,run_underlying b,Instr.findNow,oa]
  | cons e es=>
   have i:Instr.findNow (.struct fs) kv (e::es) 0=none:=by unfold Instr.findNow;cases kv<;>cases e.key<;>simp[Instr.sameNow]
   simp only[Instr.findKey,Sem.run_bind,run_underlying b,Result.andThen_ok,i];exact Xq b g j f w (e::es) 0 c
theorem ZC:∀ {l:List IntKind} {vs:List Value},tt l vs=true->∀v∈vs,v.oneCell'=true
 | [],[],_,v,hv=>by cases hv
 | k::ks,.int k' n::vs,h,v,hv=>by
  simp only[tt,Bool.and_eq_true]at h;rcases ao.1 hv with rfl|hv
  .rfl
  .exact ZC h.2 v hv
theorem abg{kk:KK}{v:Value}(h:kk.has v=true):gh c w v (sJ v):=by
 unfold sJ;split
 .rename_i cs;cases kk<;>simp only[KK.has]at h<;>first|(cases h;done)|skip
  have:=gh.agg (c:=c) (w:=w) cs.toList (cs.toList.map .val) (by simp) (ZC h) (λi v d b a=>by
   simp only[au,b,aF,av]at a;subst a
   exact .val _)
  simpa using this
 .exact .val _
theorem TA{arr:Array MapEntry}{a:Nat}{es:List (Value×D)}(b:F7 c w arr a es){kk:KK}(d:∀x∈es,kk.has x.1=true):∀e∈arr.toList,kk.has e.key=true:=by
 intro e f;obtain⟨i,hi⟩:=aB.1 f;have hl:i<es.length:=by rw[<-b.1];have:=(ae.1 hi).1;simpa using this
 obtain⟨h1,_⟩:=b.2.1 i e es[i] (by simpa using hi) (by simp[hl]);rw[h1];exact d _ (bV hl)
theorem G1(kv:Value):∀(l:List MapEntry) (es:List (Value×D)) (i:Nat),l.length=es.length ->
  (∀(j:Nat) (e:MapEntry) (x:Value×D),l[j]? = some e->es[j]? = some x->e.key=x.1/\gh c w e.val x.2) ->
  (oa kv l i=none/\rr es kv=none/\∀y,mz es kv y=es ++ [(kv,y)]) \/
  (∃j v d,oa kv l i=some (i+j,v)/\rr es kv=some d/\gh c w v d/\j<l.length/\(∀y,mz es kv y=es.set j (kv,y))/\∃e,l[j]? = some e/\nW kv e.key=true)
 | [],[],i,_,_=>.inl ⟨rfl,rfl,λ_=>rfl⟩
 | e::l,(k,d)::es,i,hl,h=>by
  obtain⟨f,n⟩:=h 0 e (k,d) rfl rfl;dsimp only at f n
  by_cases a:nW kv e.key=true
  .refine .inr ⟨0,e.val,d,by simp[oa,a],by simp[rr,<-f,a],n,by simp,λy=>by simp[mz,<-f,a],e,rfl,a⟩
  .have b:nW kv k=false:=by rw[<-f];simpa using a
   rcases G1 kv l es (i+1) (by simpa using hl) (λj e x a o=>h (j+1) e x (by simpa using a) (by simpa using o))with⟨h1,m,g⟩|⟨j,v,d',h1,m,g,t,r,s,q,p⟩
   .exact .inl ⟨by simp[oa,a,h1],by simp[rr,b,m],λy=>by simp[mz,b,g]⟩
   .exact .inr ⟨j+1,v,d',by simp[oa,a,h1];omega,by simp[rr,b,m],g,by simp;omega,λy=>by simp[mz,b,r],s,by simpa using q,p⟩
theorem anh(h:gE G c H w){t k e:TypeId}{kk:KK}{z:D}(S:P.underlying t=some (.map k e))(F:ve P k=some kk)(s:FD P e=some z)(ok:Bool){m x:D}{u v:Value}(h1:gh c w u m)(V:gh c w v x)
  (g:IH kk z ok m x H K):∃r,(Instr.lookup t u v ok).run P w = .ok r w/\jl G c H w K r w:=by
 have o:∃n,(zeroValue e).run P w = .ok n w/\gh c w n z:=by
  unfold FD at s
  cases hi:P.info? e with
  | none=>simp[hi]at s
  | some i=>
   simp only[hi,Option.bind_some]at s
   cases C:i.zero with
   | none=>simp[C]at s
   | some n=>
    simp only[C,Option.bind_some]at s;exact⟨n,by simp[zeroValue,run_typeInfo hi,C],Ua s⟩
 obtain⟨n,J,I⟩:=o;unfold IH at g;split at g
 .rename_i v0 kv X;split at g
  .rename_i Z es Q;obtain⟨rfl,E,g⟩:=g;have f:=Td V X;subst f
   cases h1 with
   | gH _ L W iu=>
    have y:=h.ob v0 _ (uk Q);simp only[Ob.gen]at y;rw[W]at y;simp only[ie]at y;obtain⟨_,M,arr,q,T,B⟩:=y;have Y:=run_findKey F E arr.toList (TA B M) w;have O:=run_checkKey (w:=w) F arr.isEmpty E
    have A:(Instr.lookup t (.map (some L.b)) v ok).run P w=((match oa v arr.toList 0 with
      | some (_,v)=>Result.ok (v,true) w
      | none=>Result.ok (n,false) w:Result (Value×Bool)).andThen λp w=>.ok (if ok then .tuple #[p.1,.bool p.2]else p.1) w):=by
     have N:(getObj L.b).run P w = .ok (.map arr q) w:=by simp[getObj,Sem.run,T]
     simp only[Instr.lookup,Sem.run_bind,run_underlying S,Result.andThen_ok,N,Sem.run_pure,O,Y]
     cases oa v arr.toList 0 with
     | none=>simp[J]
     | some p=>obtain⟨_,_⟩:=p;simp
    rcases G1 (c:=c) (w:=w) v arr.toList es 0 (by simpa using B.1) (λj e x U R=>let ⟨a,b,_⟩:=B.2.1 j e x (by simpa using U) R;⟨a,b⟩)with⟨f1,f2,_⟩|⟨j,val,d,f1,f2,f3,_⟩
    .rw[f1]at A;rw[f2]at g;refine⟨_,A,.plain h g ?_⟩;cases ok
     .exact I
     .exact .tup [n,.bool false] [z,.val (.bool false)] rfl (λi v d f l=>by
       match i with
       | 0=>simp at f l;subst f;subst l;exact I
       | 1=>simp at f l;subst f;subst l;exact .val _
       | i+2=>simp at f)
    .rw[f1]at A;rw[f2]at g;refine⟨_,A,.plain h g ?_⟩;cases ok
     .exact f3
     .exact .tup [val,.bool true] [d,.val (.bool true)] rfl (λi v d' f l=>by
       match i with
       | 0=>simp at f l;subst f;subst l;exact f3
       | 1=>simp at f l;subst f;subst l;exact .val _
       | i+2=>simp at f)
  .exact g.elim
 .grind
theorem aoE{kk:KK}(a:kk = .str\/kk = .bool\/∃k,kk = .int k){old new:Value}(h1:kk.has new=true)(b:kk.has old=true)(h:nW new old=true):Instr.sameBits 10000 old new=true:=by
 rcases a with rfl|rfl|⟨k,rfl⟩<;>cases new<;>simp[KK.has]at h1<;>cases old<;>simp[KK.has]at b<;>simp[nW]at h<;>simp[Instr.sameBits]
 .rename_i x y;obtain⟨x⟩:=x;obtain⟨y⟩:=y;have c:(x == y)=true:=h;have e:=eq_of_beq c;subst e;exact h
 .exact h.symm
 .grind
theorem abD{kk:KK}(b:(kk = .str\/kk = .bool\/∃k,kk = .int k)\/∃l,kk = .ints l){old new:Value}(h1:kk.has new=true)(a:kk.has old=true)(h:nW new old=true):Instr.sameBits 10000 old new=true:=by
 rcases b with b|⟨l,rfl⟩
 .exact aoE b h1 a h
 .cases new<;>simp[KK.has]at h1;cases old<;>simp[KK.has]at a;rename_i cs ds;obtain⟨vs⟩:=cs;obtain⟨us⟩:=ds;dsimp only at h1 a;have e:=acv ((ZT h1 a).symm.trans h);subst e;have:=abE 9999 h1;simp only[Instr.sameBits,beq_self_eq_true,eA];exact this
theorem A4{G:GT}{c:Ctx}{H:U}{w:World}(h:gE G c H w){v:Nat}{ob ob':Ob}(e:H[v]? = some ob)(f:ob.alive=true)(i:ob'.alive=true)(m:ob'.gen=ob.gen){L:Loc}(g:c.ι v ob.gen=some L)(a:L.jN=false)(o':Obj)
  (j:∀w',w'.heap[L.b]? = some o'->(∀u d,gh c w u d->gh c w' u d)->ie c w' (some L) ob') :
  gE G c (H.set v ob') { w with heap:=w.heap.setIfInBounds L.b o' }/\Step H.length c H w c (H.set v ob') { w with heap:=w.heap.setIfInBounds L.b o' }:=by
 have l:=h.lt _ ⟨v,L,⟨ob,e,f,g⟩,a,rfl⟩;refine aco (w':={ w with heap:=w.heap.setIfInBounds L.b o' }) h e f i m g a ⟨rfl,Nat.le_refl _⟩ rfl rfl (by simp) (λb k=>?_) (j _ (by simp[l]));rw[cN (cA k)]
theorem aao{es:List (Value×D)}{kv:Value}{y:D}:∀x∈mz es kv y,x∈es\/x=(kv,y):=by
 induction es with
 | nil=>intro x a;simp[mz]at a;exact .inr a
 | cons e es b=>
  intro x a;obtain⟨k,d⟩:=e;simp only[mz]at a;split at a
  .grind
  .grind
theorem aaK(h:gE G c H w){t k e:TypeId}{kk:KK}(V:P.underlying t=some (.map k e))(O:ve P k=some kk){m x y:D}{u v z:Value}(h1:gh c w u m)(h2:gh c w v x)(W:gh c w z y)
  (s:IK kk m x y H K):∃w',(Instr.mapUpdate t u v z).run P w = .ok () w'/\jl G c H w K undef w':=by
 have SB:(kk = .str\/kk = .bool\/∃k,kk = .int k)\/∃l,kk = .ints l:=by
  obtain⟨d,_,hc⟩:=P4 O;rcases hc with⟨k,_,rfl⟩|⟨_,rfl⟩|⟨_,rfl⟩|⟨_,l,_,rfl,_⟩
  .grind
  .grind
  .grind
  .grind
 unfold IK at s;split at s
 .rename_i v0 kv HE;split at s
  .rename_i C es Q;obtain⟨rfl,B,s⟩:=s;have hv:=Td h2 HE;subst hv
   cases h1 with
   | gH _ L S E=>
    have F:=h.ob v0 _ (uk Q);simp only[Ob.gen]at F;rw[S]at F;simp only[ie]at F;obtain⟨_,tW,arr,f,I,n⟩:=F;have X:=TA n tW;have Z:=run_findKey O B arr.toList X w;have U:=run_checkKey (w:=w) O false B
    have Y:∀T,∀x∈mz es v T,C.has x.1=true:=λT x g=>by
     rcases aao x g with h|rfl
     .grind
     .exact B
    rcases G1 (c:=c) (w:=w) v arr.toList es 0 (by simpa using n.1) (λj e x o g=>let ⟨a,b,_⟩:=n.2.1 j e x (by simpa using o) g;⟨a,b⟩)with⟨f1,f2,f3⟩|⟨j,val,d,f1,f2,_,f4,f5,J,f6,f7⟩
    .have R:(Instr.mapUpdate t (.map (some L.b)) v z).run P w = .ok () { w with heap:=w.heap.setIfInBounds L.b (.map (arr.push { key:=v,val:=z,born:=f }) (f+1)) }:=by
      have N:(getObj L.b).run P w = .ok (.map arr f) w:=by simp[getObj,Sem.run,I]
      simp only[Instr.mapUpdate,Sem.run_bind,run_underlying V,Result.andThen_ok,N,U,Z,f1];simp[setObj,Sem.run,I]
     obtain⟨m1,m2⟩:=A4 h (uk Q) rfl rfl rfl S E (.map (arr.push { key:=v,val:=z,born:=f }) (f+1)) (ob':=.map C (mz es v y)) (by
      intro w' M A;simp only[ie];refine⟨E,Y y,_,_,M,?_⟩;rw[f3];refine⟨by simp[n.1],λi e x o g=>?_,by simp[n.2.2]⟩;rw[eP]at o;split at o
      .rename_i hi;cases o;rw[ai (by rw[hi,n.1];exact Nat.le_refl _),hi,n.1]at g;simp at g;subst g;exact⟨rfl,A _ _ W,by rw[hi,n.1,n.2.2]⟩
      .have hi:i<es.length:=by rw[<-n.1];exact(aP.1 o).1
       rw[ah hi]at g;obtain⟨p,q,r⟩:=n.2.1 i e x o g
       exact⟨p,A _ _ q,r⟩)
     exact⟨_,R,.any,_,c,s,m1,.any _,m2⟩
    .have mU:j<arr.size:=by simpa using f4
     have vX:arr[j]? = some J:=by simpa using f6
     have Sj:C.has J.key=true:=X J (List.mem_of_getElem? f6)
     have SN:(Instr.keyThatStays J.key v).run P w = .ok v w:=by simp[Instr.keyThatStays,abD SB B Sj f7]
     have R:(Instr.mapUpdate t (.map (some L.b)) v z).run P w = .ok () { w with heap:=w.heap.setIfInBounds L.b (.map (arr.modify j λe=>{ e with key:=v,val:=z }) f) }:=by
      have N:(getObj L.b).run P w = .ok (.map arr f) w:=by simp[getObj,Sem.run,I]
      simp only[Instr.mapUpdate,Sem.run_bind,run_underlying V,Result.andThen_ok,N,U,Z,f1,aR,vX,aF,aT,SN];simp[setObj,Sem.run,I]
     obtain⟨m1,m2⟩:=A4 h (uk Q) rfl rfl rfl S E (.map (arr.modify j λe=>{ e with key:=v,val:=z }) f) (ob':=.map C (mz es v y)) (by
      intro w' M A;simp only[ie];refine⟨E,Y y,_,_,M,?_⟩;rw[f5];refine⟨by simp[n.1],λi e x o g=>?_,by simp[n.2.2]⟩
      .rw[bq]at o;rw[bL]at g;split at o
       .rename_i hi;subst hi;rw[if_pos rfl]at g;simp only[ak]at o;obtain⟨e0,h0,rfl⟩:=o;split at g
        .cases g;have hj:j<es.length:=by rw[<-n.1];exact mU
         exact⟨rfl,A _ _ W,(n.2.1 j e0 es[j] h0 (by simp[hj])).2.2⟩
        .cases g
       .rename_i hi;rw[if_neg hi]at g;obtain⟨p,q,r⟩:=n.2.1 i e x o g
        exact⟨p,A _ _ q,r⟩)
     exact⟨_,R,.any,_,c,s,m1,.any _,m2⟩
  .exact s.elim
 .exact s.elim
end
end Go.AL
namespace Go.AL
open Go
section
variable{P:Program}{G:GT}{c:Ctx}{H:U}{w:World}{K:jG}{env:gT}{a:Act}
theorem Z2{t:TypeId}{l:mH}(hl:yM P t=some l)(d:Nat){x y:D}{u v:Value}(h1:gh c w u x)(b:gh c w v y){r:Bool}(h:uO l x y=some r):(Op.equalIn (d+1) t u v).run P w = .ok r w:=by
 unfold uO at h;split at h
 .rename_i k m f n;cases h1;cases b;split at h
  .rename_i e;subst e;cases h;unfold yM at hl;split at hl
   .rename_i k0 a;exact run_equalIn_int w d t k k0 m n a
   .cases hl
   .cases hl
   .cases hl
  .cases h
 .cases h1;cases b;cases h;unfold yM at hl;split at hl
  .cases hl
  .cases hl
  .rename_i a;exact run_equalIn_bool' w d t _ _ a
  .cases hl
 .cases h1;cases b;cases h;rename_i p q;unfold yM at hl;split at hl
  .cases hl
  .rename_i a;have:=run_equalIn_string (P:=P) w d t p q a;rw[ByteArray.toList_eq,ByteArray.toList_eq]at this;exact this
  .cases hl
  .cases hl
 .cases h
theorem Z1{t:TypeId}{l:mH}(hl:yM P t=some l):pa P t=some false:=by unfold yM at hl;unfold pa;split at hl<;>first|(rename_i a;simp[a])|(rename_i k a;simp[a])|cases hl
theorem WT(d:Nat){vs us:List Value}{xs a:List D}(k:Cells c w vs xs)(j:Cells c w us a):∀(fs:List Field) (i:Nat) (ls:List mH) (r:Bool),Nx P i fs=some ls->mI ls (xs.drop i) (a.drop i)=some r ->
  (Op.eqFields (d+1) vs.toArray us.toArray fs).run P w = .ok r w
 | [],i,ls,r,he,hc=>by
  cases he;unfold mI at hc;split at hc
  .cases hc;rfl
  .grind
  .cases hc
 | f::fs,i,ls,r,he,hc=>by
  simp only[Nx]at he;split at he
  .rename_i l g hl o;split at he
   .rename_i A;obtain⟨n,K⟩:=A;cases he
    cases b:xs.drop i with
    | nil=>rw[b]at hc;simp[mI]at hc
    | cons x xr=>
     cases e:a.drop i with
     | nil=>rw[b,e]at hc;simp[mI]at hc
     | cons y s=>
      rw[b,e]at hc;simp only[mI]at hc;split at hc
      .rename_i p q G F;cases hc;have M:xs[i]? = some x:=by have:=congrArg (·[0]?) b;simpa using this
       have I:a[i]? = some y:=by have:=congrArg (·[0]?) e;simpa using this
       have N:xs.drop (i+1)=xr:=by rw[<-bZ,b];rfl
       have L:a.drop (i+1)=s:=by rw[<-bZ,e];rfl
       obtain⟨u,E,_,H⟩:=k.get M;obtain⟨v,C,_,J⟩:=j.get I;have B:=WT d k j fs (i+1) g q o (by rw[N,L];exact F);have h:=Z2 (w:=w) hl d H J G;have m:=CX (Z1 hl) w;have t:(part f.type vs.toArray f.offset).run P w = .ok u w:=by simp[part,m,n,E]
       have z:(part f.type us.toArray f.offset).run P w = .ok v w:=by simp[part,m,n,C]
       simp only[Op.eqFields,if_pos K,Sem.run_bind,t,z,Result.andThen_ok,h,Sem.run_ite,B];cases p<;>simp
      .cases hc
   .cases he
  .cases he
theorem WU{e:TypeId}{l:mH}(hl:yM P e=some l)(d:Nat){vs us:List Value}{xs a:List D}(j:Cells c w vs xs)(h:Cells c w us a):∀(n i:Nat) (r:Bool),mI (List.replicate n l) (xs.drop i) (a.drop i)=some r ->
  (Op.eqItems (d+1) e 1 vs.toArray us.toArray (List.range' i n)).run P w = .ok r w
 | 0,i,r,hc=>by
  unfold mI at hc;split at hc
  .cases hc;rfl
  .grind
  .cases hc
 | n+1,i,r,hc=>by
  rw[bz]at hc
  cases b:xs.drop i with
  | nil=>rw[b]at hc;simp[mI]at hc
  | cons x xr=>
   cases f:a.drop i with
   | nil=>rw[b,f]at hc;simp[mI]at hc
   | cons y m=>
    rw[b,f]at hc;simp only[mI]at hc;split at hc
    .rename_i p q C B;cases hc;have I:xs[i]? = some x:=by have:=congrArg (·[0]?) b;simpa using this
     have F:a[i]? = some y:=by have:=congrArg (·[0]?) f;simpa using this
     have J:xs.drop (i+1)=xr:=by rw[<-bZ,b];rfl
     have H:a.drop (i+1)=m:=by rw[<-bZ,f];rfl
     obtain⟨u,A,_,E⟩:=j.get I;obtain⟨v,z,_,G⟩:=h.get F;have t:=WU hl d j h n (i+1) q (by rw[J,H];exact B);have g:=Z2 (w:=w) hl d E G C;have k:=CX (Z1 hl) w;have o:(part e vs.toArray (i*1)).run P w = .ok u w:=by simp[part,k,A]
     have s:(part e us.toArray (i*1)).run P w = .ok v w:=by simp[part,k,z]
     rw[cL];simp only[Op.eqItems,Sem.run_bind,o,s,Result.andThen_ok,g,Sem.run_ite,t];cases p<;>simp
    .cases hc
theorem aaJ(h:gE G c H w){t:TypeId}{ls:List mH}(d:Ny P t=some ls)(neg:Bool){x y:D}{u v:Value}(h1:gh c w u x)(E:gh c w v y)(a:w9 true ls neg x y H K)(xo f:Operand) :
  ∃r,(do eqGuard (if neg then .neq else .eql) t xo f u v;binOp (if neg then .neq else .eql) t u v).run P w = .ok r w/\jl G c H w K r w:=by
 unfold Ny at d;split at d
 .rename_i fs i;split at d
  .rename_i g;have J:P.underlying t=some (.struct (P.fieldsOf t)):=by unfold Program.fieldsOf;rw[i]
   have F:P.fieldsOf t=fs:=by unfold Program.fieldsOf;rw[i]
   have o:∃cs ds,x = .agg cs/\y = .agg ds:=by
    unfold w9 at a;split at a
    .grind
    .contradiction
    .exact a.elim
   obtain⟨cs,ds,rfl,rfl⟩:=o;simp only[w9]at a;split at a
   .rename_i r p
    cases h1 with
    | agg vs _ j C z=>
     cases E with
     | agg us _ k s q=>
      have B:Cells c w vs cs:=⟨j,C,z⟩;have A:Cells c w us ds:=⟨k,s,q⟩;have m:=WT (P:=P) 9998 B A fs.toList 0 ls r d (by simpa using p)
      have b:(Op.equalIn 10000 t (.agg vs.toArray) (.agg us.toArray)).run P w = .ok r w:=by rw[run_equalIn_struct w 9999 t vs.toArray us.toArray J g.1,F];exact m
      cases neg
      .simp only[bG,if_false,Sem.run_bind,run_eqGuard_agg w .eql t xo f vs.toArray us.toArray g.2,Result.andThen_ok,run_eql_struct,b];exact⟨_,rfl,.val h (by simpa using a)⟩
      .simp only[if_true,Sem.run_bind,run_eqGuard_agg w .neq t xo f vs.toArray us.toArray g.2,Result.andThen_ok,run_neq_struct,b];exact⟨_,rfl,.val h (by simpa using a)⟩
   .exact a.elim
  .cases d
 .rename_i n e i;split at d
  .rename_i g;obtain⟨hg,L,hi⟩:=g;obtain⟨I,hi⟩:=dp.1 hi;obtain⟨l,hl,rfl⟩:=ak.1 d
   have o:∃cs ds,x = .agg cs/\y = .agg ds:=by
    unfold w9 at a;split at a
    .grind
    .contradiction
    .exact a.elim
   obtain⟨cs,ds,rfl,rfl⟩:=o;simp only[w9]at a;split at a
   .rename_i r p
    cases h1 with
    | agg vs _ j C z=>
     cases E with
     | agg us _ k s q=>
      have B:Cells c w vs cs:=⟨j,C,z⟩;have A:Cells c w us ds:=⟨k,s,q⟩;have m:=WU (P:=P) (w:=w) hl 9998 B A n 0 r (by simpa using p)
      have b:(Op.equalIn 10000 t (.agg vs.toArray) (.agg us.toArray)).run P w = .ok r w:=by rw[run_equalIn_array (w:=w) 9999 vs.toArray us.toArray i hi,L,cP];exact m
      cases neg
      .simp only[bG,if_false,Sem.run_bind,run_eqGuard_agg w .eql t xo f vs.toArray us.toArray hg,Result.andThen_ok,run_eql_struct,b];exact⟨_,rfl,.val h (by simpa using a)⟩
      .simp only[if_true,Sem.run_bind,run_eqGuard_agg w .neq t xo f vs.toArray us.toArray hg,Result.andThen_ok,run_neq_struct,b];exact⟨_,rfl,.val h (by simpa using a)⟩
   .exact a.elim
  .cases d
 .cases d
theorem aaI(h:gE G c H w){t:TypeId}(k:P.underlying t=some .bool)(neg:Bool){x y:D}{u v:Value}(h1:gh c w u x)(m:gh c w v y)(f:w9 false [.bool] neg x y H K)(xo j:Operand) :
  ∃r,(do eqGuard (if neg then .neq else .eql) t xo j u v;binOp (if neg then .neq else .eql) t u v).run P w = .ok r w/\jl G c H w K r w:=by
 simp only[w9]at f;split at f
 .rename_i r d;simp only[mI]at d;split at d
  .rename_i p q e l;cases l;cases d;unfold uO at e;split at e
   .contradiction
   .cases h1;cases m;cases e;rename_i b g _;have a:=run_equalIn_bool' (P:=P) w 9999 t b g k;have i:Op.equal t (.bool b) (.bool g)=Op.equalIn 10000 t (.bool b) (.bool g):=rfl;cases neg
    .exact⟨_,by simp[eqGuard,binOp,i,a]<;>rfl,.val h (by simpa using f)⟩
    .exact⟨_,by simp[eqGuard,binOp,i,a]<;>rfl,.val h (by simpa using f)⟩
   .contradiction
   .cases e
  .cases d
 .grind
theorem PC{f:FuncId}(h:s5 P f=true)(args:Array Value)(w:World):(callFunc f args).run P w = .ok (.enter f args) w:=by
 unfold s5 at h;split at h
 .rename_i fn b;simp only[Bool.and_eq_true,bne_iff_ne,ne_eq]at h;have a:fn.body.isNone=false:=by cases a:fn.body<;>simp[a]at h ⊢
  simp[callFunc,b,h.1];intro e;rw[e]at a;cases a
 .cases h
end
end Go.AL
namespace Go.AL
open Go
section
variable{P:Program}{G:GT}{c:Ctx}{H:U}{w:World}{K:jG}{env:gT}{a:Act}
def DA(r:Result Next)(v:Value)(w':World):Prop:=r = .ok (.value v) w'\/(r = .ok .skip w'/\v=undef)
theorem jI{s:Sem Value}{v:Value}{w':World}(h:s.run P w = .ok v w'):DA ((do pure (.value (<-s)):Sem Next).run P w) v w':=.inl (by simp[h])
theorem JI{s:Sem Unit}{w':World}(h:s.run P w = .ok () w'):DA ((do s;pure .skip:Sem Next).run P w) undef w':=.inr ⟨by simp[h],rfl⟩
theorem am3(h:gE G c H w){s d:TypeId}{sd:TypeDesc}{k:IntKind}(hs:P.underlying s=some sd)(e:P.underlying d=some (.int k)){x:D}{u:Value}(h1:gh c w u x)
  (a:GF k x H K):∃r,(convert s d u).run P w = .ok r w/\jl G c H w K r w:=by
 unfold GF at a;split at a
 .rename_i f n;cases h1;have b:P.intKind d=k:=by simp[Program.intKind,e]
  have:=run_convert_int (P:=P) w s d f n (by rw[hs];rfl) (by rw[b];exact e);rw[b]at this;exact⟨_,this,.val h a⟩
 .exact a.elim
theorem ann(h:gE G c H w){o:Oper}{x:Operand}(l:o.op = .nilCheck x){d:D}(h1:gh c w (a.eval x) d)
  (g:IT d H K):∃v w',DA ((execOp a.eval o).run P w) v w'/\jl G c H w K v w':=by
 have key:∀v,a.eval x=v->(match v with | .pointer (some _)=>True | .func (.func _) _ _=>True | .func (.yield _) _ _=>True|_=>False)->DA ((execOp a.eval o).run P w) v w:=by intro v i m;refine .inl ?_;simp only[execOp,l,i];split at m<;>simp_all
 generalize i:a.eval x=v at h1;unfold IT at g;split at g
 .cases h1 with
  | ptr _ _ _ L k j=>exact⟨_,w,key _ i trivial,.plain h g (.ptr _ _ _ L k j)⟩
 .obtain⟨b,p,e,u,t⟩:=zD h1;subst e;exact⟨_,w,key _ i trivial,.plain h g h1⟩
 .cases h1 with
  | fn f fs cs y z s r q n=>exact⟨_,w,key _ i trivial,.plain h g (.fn _ fs cs _ _ s r q n)⟩
 .cases h1 with
  | ja _ L k j=>exact⟨_,w,key _ i trivial,.plain h g (.ja _ L k j)⟩
 .exact g.elim
theorem Ub{l:Array Operand}{xs:List D}(h:jC c w (l.toList.map a.eval) xs):∃vs:List Value,l.map a.eval=vs.toArray/\jC c w vs xs:=
 ⟨_,by cases l;simp,h⟩
theorem xK{o:Oper}{cl:Call}(c:o.op = .call cl){b:Builtin}(d:cl.callee = .builtin b):(execOp a.eval o).run P w=(builtin b cl.argTypes o.type (cl.args.map λ| .const _=>true|_=>false) (cl.args.map a.eval)).run P w:=by simp only[execOp,c,resolve,d,Sem.run_bind,Sem.run_pure,Result.andThen_ok,invoke];rfl
theorem aa2(h:gE G c H w)(B:kW c w env a){al:Al}(iq:nq H al){o:Oper}{io:iR}(g:nP P G o=some io)(A:Gc env H al K io) :
  ∃v w',DA ((execOp a.eval o).run P w) v w'/\jl G c H w K v w':=by
 unfold nP at g
 cases p:o.op with
 | move x=>
  simp only[p,aA,ag,aG,av]at g;obtain⟨X,hX,rfl⟩:=g;exact⟨_,w,.inl (by simp only[execOp,p];rfl),.plain h A (iS h B hX)⟩
 | assign x=>
  simp only[p,aA,ag,aG,av]at g;obtain⟨X,hX,rfl⟩:=g;exact⟨_,w,.inl (by simp only[execOp,p];rfl),.plain h A (iS h B hX)⟩
 | pick x y z=>
  simp only[p,aA,ag,aG,av]at g;obtain⟨X,hX,Y,F,Z,hZ,rfl⟩:=g;obtain⟨b,J,j⟩:=ano h (iS h B hX) (iS h B F) (iS h B hZ) A;exact⟨_,w,.inl (by simp[execOp,p,J];rfl),j⟩
 | box e x=>
  simp only[p,aA,ag,aG,av]at g;obtain⟨X,hX,rfl⟩:=g;obtain⟨r,w',U,j⟩:=amX (P:=P) h iq e (iS h B hX) A;exact⟨r,w',by simp only[execOp,p];exact jI U,j⟩
 | alloc e=>
  simp only[p,aA,ag,aG,av]at g;obtain⟨z,O,rfl⟩:=g;obtain⟨r,w',U,j⟩:=amS (P:=P) h iq O A;exact⟨r,w',by simp only[execOp,p];exact jI U,j⟩
 | build t ps=>
  simp only[p,aA,ag]at g;obtain⟨z,O,l,hl,g⟩:=g;split at g
  .rename_i fs C;split at g
   .rename_i hf;simp only[ag,aG,av]at g;obtain⟨qs,hq,rfl⟩:=g;obtain⟨r,U,j⟩:=amY h B O hl C hf hq A;exact⟨r,w,by simp only[execOp,p];exact jI U,j⟩
   .cases g
  .rename_i n e C;simp only[ag,aG,av]at g;obtain⟨sz,hs,rfl⟩:=g;obtain⟨r,U,j⟩:=amZ h B O hl C hs A;exact⟨r,w,by simp only[execOp,p];exact jI U,j⟩
  .cases g
 | buildSlice t n ps=>
  simp only[p,aA,ag]at g;obtain⟨S,C,g⟩:=g;split at g
  .rename_i e;simp only[ag]at g;obtain⟨z,O,sz,hs,l,hl,g⟩:=g;split at g
   .rename_i T;cases g;obtain⟨r,w',U,j⟩:=am0 (P:=P) h iq B C O hs hl T.1 T.2.1 T.2.2 A;exact⟨r,w',by simp only[execOp,p];exact jI U,j⟩
   .cases g
  .cases g
 | load t x=>
  simp only[p,aA,ag]at g;obtain⟨X,hX,n,E,b,J,g⟩:=g;cases b
  .cases g;obtain⟨v,q,j⟩:=anf h J (iS h B hX) A;exact⟨v,w,by simp only[execOp,p];exact jI q,j⟩
  .cases g;obtain⟨v,q,j⟩:=ang h J E (iS h B hX) A;exact⟨v,w,by simp only[execOp,p];exact jI q,j⟩
 | store t x y=>
  simp only[p,aA,ag]at g;obtain⟨X,hX,Y,F,n,E,b,J,g⟩:=g;cases b
  .simp only[bG,if_false]at g;split at g
   .rename_i e;subst e;cases g;obtain⟨w',q,j⟩:=anu h E (iS h B hX) (iS h B F) A;exact⟨_,w',by simp only[execOp,p];exact JI q,j⟩
   .cases g
  .cases g;obtain⟨w',q,j⟩:=anv h E (iS h B hX) (iS h B F) A;exact⟨_,w',by simp only[execOp,p];exact JI q,j⟩
 | nilCheck x=>
  simp only[p,aA,ag,aG,av]at g;obtain⟨X,hX,rfl⟩:=g;exact ann h p (iS h B hX) A
 | binOp op t x y yt=>
  simp only[p,aA,ag]at g;obtain⟨X,hX,Y,F,g⟩:=g;have I:=iS h B hX;have Q:=iS h B F;split at g
  .split at g
   .rename_i J;cases g;obtain⟨v,q,j⟩:=aaI (P:=P) h (by unfold MW at J;split at J<;>first|assumption|cases J) false I Q A x y;exact⟨v,w,by simp only[execOp,p];exact jI q,j⟩
   .split at g
    .cases g;obtain⟨v,q,j⟩:=TR (P:=P) h I Q A t x y;exact⟨v,w,by simp only[execOp,p];exact jI q,j⟩
    .simp only[ag,aG,av]at g;obtain⟨ls,yy,rfl⟩:=g;obtain⟨v,q,j⟩:=aaJ (P:=P) h yy false I Q A x y;exact⟨v,w,by simp only[execOp,p];exact jI q,j⟩
  .split at g
   .rename_i J;cases g;obtain⟨v,q,j⟩:=aaI (P:=P) h (by unfold MW at J;split at J<;>first|assumption|cases J) true I Q A x y;exact⟨v,w,by simp only[execOp,p];exact jI q,j⟩
   .split at g
    .cases g;obtain⟨v,q,j⟩:=TR (P:=P) h I Q A t x y;exact⟨v,w,by simp only[execOp,p];exact jI q,j⟩
    .simp only[ag,aG,av]at g;obtain⟨ls,yy,rfl⟩:=g;obtain⟨v,q,j⟩:=aaJ (P:=P) h yy true I Q A x y;exact⟨v,w,by simp only[execOp,p];exact jI q,j⟩
  .cases g;obtain⟨v,q,j⟩:=TR (P:=P) h I Q A t x y;exact⟨v,w,by simp only[execOp,p];exact jI q,j⟩
 | unOp op t x=>
  simp only[p,aA,ag,aG,av]at g;obtain⟨X,hX,rfl⟩:=g;obtain⟨v,q,j⟩:=anw (P:=P) h (iS h B hX) A;exact⟨v,w,by simp only[execOp,p];exact jI q,j⟩
 | convert s d x=>
  simp only[p,aA,ag]at g;obtain⟨X,hX,sd,hs,g⟩:=g;split at g
  .rename_i k hd;cases g;obtain⟨v,q,j⟩:=am3 (P:=P) h hs hd (iS h B hX) A;exact⟨v,w,by simp only[execOp,p];exact jI q,j⟩
  .rename_i hd;simp only[ag]at g;obtain⟨b5,l4,g⟩:=g;split at g
   .rename_i e;simp only[ag]at g;obtain⟨ed,b',g⟩:=g;split at g
    .cases g;obtain⟨v,q,j⟩:=amW (P:=P) h l4 b' hd (iS h B hX) A;exact⟨v,w,by simp only[execOp,p];exact jI q,j⟩
    .cases g
   .cases g
  .cases g
 | makeFunc f first cap=>
  simp only[p,aA,ag,aG,av]at g;obtain⟨X,hX,Y,F,rfl⟩:=g;exact⟨_,w,.inl (by simp[execOp,p,Instr.makeFunc]),anj h B hX F A⟩
 | makeMap t r=>
  cases r with
  | some r=>simp[p]at g
  | none=>
   simp only[p,aA,ag]at g;obtain⟨S,C,g⟩:=g;split at g
   .simp only[ag,aG,av]at g;obtain⟨kk,kM,rfl⟩:=g;obtain⟨v,w',q,j⟩:=ank (P:=P) h iq t kk A;exact⟨v,w',by simp only[execOp,p];exact jI q,j⟩
   .cases g
 | lookup t x i ok=>
  simp only[p,aA,ag]at g;obtain⟨S,C,g⟩:=g;split at g
  .simp only[ag,aG,av]at g;obtain⟨z,O,kk,kM,X,hX,Y,F,rfl⟩:=g;obtain⟨v,q,j⟩:=anh (P:=P) h C kM O ok (iS h B hX) (iS h B F) A;exact⟨v,w,by simp only[execOp,p];exact jI q,j⟩
  .cases g
 | mapUpdate t m k x=>
  simp only[p,aA,ag]at g;obtain⟨S,C,g⟩:=g;split at g
  .simp only[ag,aG,av]at g;obtain⟨kk,kM,X,hX,Y,F,Z,hZ,rfl⟩:=g;obtain⟨w',q,j⟩:=aaK (P:=P) h C kM (iS h B hX) (iS h B F) (iS h B hZ) A;exact⟨_,w',by simp only[execOp,p];exact JI q,j⟩
  .cases g
 | insert t m k x=>
  simp only[p,aA,ag]at g;obtain⟨S,C,g⟩:=g;split at g
  .simp only[ag,aG,av]at g;obtain⟨kk,kM,X,hX,Y,F,Z,hZ,rfl⟩:=g;obtain⟨w',q,j⟩:=aaK (P:=P) h C kM (iS h B hX) (iS h B F) (iS h B hZ) A;exact⟨_,w',by simp only[execOp,p];exact JI q,j⟩
  .cases g
 | makeSlice t l m=>
  simp only[p,aA,ag]at g;obtain⟨S,C,g⟩:=g;split at g
  .simp only[ag]at g;obtain⟨z,O,i,hi,g⟩:=g;split at g
   .rename_i T;simp only[ag,aG,av]at g;obtain⟨X,hX,Y,F,rfl⟩:=g;obtain⟨v,w',q,j⟩:=anl (P:=P) h iq C hi O T.1 T.2 (iS h B hX) (iS h B F) A;exact⟨_,w',by simp only[execOp,p];exact jI q,j⟩
   .cases g
  .cases g
 | slice t x lo hi mx=>
  cases mx with
  | some r=>
   cases hi with
   | none=>simp[p]at g
   | some hi=>
    simp only[p,aA,ag]at g;obtain⟨X,hX,L,hL,M,hM,N,hN,S,C,g⟩:=g;split at g
    .simp only[ag,aG,av]at g;obtain⟨n,E,rfl⟩:=g;obtain⟨v,q,j⟩:=anq (P:=P) h B C E hL hM hN (iS h B hX) A;exact⟨v,w,by simp only[execOp,p];exact jI q,j⟩
    .cases g
  | none=>
   simp only[p,aA,ag]at g;obtain⟨X,hX,L,hL,M,hM,g⟩:=g;have I:=iS h B hX;split at g
   .rename_i e C;simp only[ag,aG,av]at g;obtain⟨n,E,rfl⟩:=g;obtain⟨v,q,j⟩:=ans (P:=P) h B C E hL hM I A;exact⟨v,w,by simp only[execOp,p];exact jI q,j⟩
   .rename_i C;cases g
    have hs:∃s,ev env X = .val (.string s):=by
     simp only[Gc]at A;unfold Fk at A;split at A
     .rename_i s e;exact⟨s,e⟩
     .exact A.elim
    obtain⟨s,hs⟩:=hs;simp only[Gc]at A;rw[hs]at A I
    have EF:a.eval x = .string s:=by generalize a.eval x=u at I;cases I;rfl
    obtain⟨v,q,j⟩:=ant (P:=P) h B C hL hM A;exact⟨v,w,by simp only[execOp,p,EF];exact jI q,j⟩
   .rename_i m e C;simp only[ag,aG,av]at g;obtain⟨n,E,rfl⟩:=g;obtain⟨v,q,j⟩:=anr (P:=P) h B C E hL hM I A;exact⟨v,w,by simp only[execOp,p];exact jI q,j⟩
   .cases g
 | fieldAddr t x f=>
  simp only[p,aA,ag]at g;obtain⟨X,hX,S,C,g⟩:=g;split at g
  .simp only[ag]at g;obtain⟨fd,hf,n,E,g⟩:=g;split at g
   .rename_i kj;cases g;obtain⟨v,q,j⟩:=am9 (P:=P) h C hf E kj (iS h B hX) A;exact⟨v,w,by simp only[execOp,p];exact jI q,j⟩
   .cases g
  .cases g
 | field t x f=>
  simp only[p,aA,ag]at g;obtain⟨X,hX,S,C,g⟩:=g;split at g
  .simp only[ag,aG,av]at g;obtain⟨fd,hf,n,E,b,J,rfl⟩:=g;obtain⟨v,q,j⟩:=am8 (P:=P) h C hf J E (iS h B hX) A;exact⟨v,w,by simp only[execOp,p];exact jI q,j⟩
  .cases g
 | indexAddr t x i=>
  simp only[p,aA,ag]at g;obtain⟨X,hX,Y,F,g⟩:=g;split at g
  .rename_i e C;simp only[ag]at g;obtain⟨n,E,g⟩:=g;split at g
   .rename_i kj;cases g;obtain⟨v,q,j⟩:=anb (P:=P) h C E kj (iS h B hX) (iS h B F) A;exact⟨v,w,by simp only[execOp,p];exact jI q,j⟩
   .cases g
  .rename_i m e C;simp only[ag,aG,av]at g;obtain⟨n,E,rfl⟩:=g;obtain⟨v,q,j⟩:=anc (P:=P) h C E (iS h B hX) (iS h B F) A;exact⟨v,w,by simp only[execOp,p];exact jI q,j⟩
  .cases g
 | index t x i=>
  simp only[p,aA,ag]at g;obtain⟨X,hX,Y,F,g⟩:=g;split at g
  .rename_i m e C;simp only[ag,aG,av]at g;obtain⟨n,E,b,J,rfl⟩:=g;obtain⟨v,q,j⟩:=ana (P:=P) h C E J (iS h B hX) (iS h B F) A;exact⟨v,w,by simp only[execOp,p];exact jI q,j⟩
  .rename_i C;cases g;obtain⟨v,q,j⟩:=ane (P:=P) h C (iS h B hX) (iS h B F) A;exact⟨v,w,by simp only[execOp,p];exact jI q,j⟩
  .cases g
 | extract x i=>
  simp only[p,aA,ag,aG,av]at g;obtain⟨X,hX,rfl⟩:=g;obtain⟨v,q,j⟩:=am7 (P:=P) h (iS h B hX) A;exact⟨v,w,by simp only[execOp,p];exact jI q,j⟩
 | call cl=>
  simp only[p,aA,ag]at g;obtain⟨args,tO,g⟩:=g;have D:=Be h B cl.args.toList tO;split at g
  .split at g
   .cases g;split at A<;>exact(show False from A).elim
   .cases g
  .simp only[ag,aG,av]at g;obtain⟨X,hX,rfl⟩:=g;exact(show False from A).elim
  .rename_i R;split at g
   .rename_i t u x y lg;have V:cl.argTypes = #[t,u]:=by rw[<-bS (xs:=cl.argTypes),lg]
    obtain⟨vs,W,D⟩:=Ub D;simp only[List.map_cons,List.map_nil]at D
    cases D with|cons I D=>cases D with|cons Q D=>cases D with|nil=>
    simp only[ag]at g;obtain⟨S,C,g⟩:=g;split at g
    .simp only[ag]at g;obtain⟨i,hi,z,O,ud,OG,g⟩:=g;split at g
     .split at g
      .rename_i T;cases g;obtain⟨v,w',q,j⟩:=amT (P:=P) (ty:=o.type) h iq C ⟨_,OG⟩ hi O T.1 T.2 I Q A;exact⟨v,w',by rw[xK p R,W,V];exact jI q,j⟩
      .cases g
     .cases g
    .cases g
   .cases g
  .rename_i R;split at g
   .rename_i t u x y lg;have V:cl.argTypes = #[t,u]:=by rw[<-bS (xs:=cl.argTypes),lg]
    obtain⟨vs,W,D⟩:=Ub D;simp only[List.map_cons,List.map_nil]at D
    cases D with|cons I D=>cases D with|cons Q D=>cases D with|nil=>
    simp only[ag]at g;obtain⟨S,C,g⟩:=g;split at g
    .simp only[ag]at g;obtain⟨ud,OG,g⟩:=g;split at g
     .simp only[ag]at g;obtain⟨n,E,g⟩:=g;split at g
      .rename_i kj;cases g;obtain⟨v,w',q,j⟩:=am4 (P:=P) (u:=u) (ty:=o.type) h C E kj I Q A;exact⟨v,w',by rw[xK p R,W,V];exact jI q,j⟩
      .cases g
     .cases g
    .cases g
   .cases g
  .rename_i R;split at g
   .rename_i t x lg;have V:cl.argTypes = #[t]:=by rw[<-bS (xs:=cl.argTypes),lg]
    obtain⟨vs,W,D⟩:=Ub D;simp only[List.map_cons,List.map_nil]at D
    cases D with|cons I D=>cases D with|nil=>
    split at g
    .rename_i e C;cases g;obtain⟨v,q,j⟩:=TS (P:=P) (ty:=o.type) (k:=.slice) h C ⟨e,rfl⟩ I A;exact⟨v,w,by rw[xK p R,W,V];exact jI q,j⟩
    .rename_i C;cases g;obtain⟨v,q,j⟩:=TS (P:=P) (ty:=o.type) (k:=.string) h C rfl I A;exact⟨v,w,by rw[xK p R,W,V];exact jI q,j⟩
    .rename_i k e C;cases g;obtain⟨v,q,j⟩:=TS (P:=P) (ty:=o.type) (k:=.map) h C ⟨k,e,rfl⟩ I A;exact⟨v,w,by rw[xK p R,W,V];exact jI q,j⟩
    .cases g
   .cases g
  .rename_i R;cases g;obtain⟨v,q,j⟩:=aaL (P:=P) h B tO true cl.argTypes o.type A;exact⟨v,w,by rw[xK p R];exact jI (by simpa using q),j⟩
  .rename_i R;cases g;obtain⟨v,q,j⟩:=aaL (P:=P) h B tO false cl.argTypes o.type A;exact⟨v,w,by rw[xK p R];exact jI (by simpa using q),j⟩
  .cases g
 | _=>simp[p]at g
end
end Go.AL
namespace Go.AL
open Go
def OM:Int->Bool
 | .ofNat m=>Nat.ble m 9223372036854775807
 | .negSucc m=>Nat.ble m 9223372036854775807
def ahp(n:Int):OM n=true↔om n:=by
 unfold om
 cases n with
 | ofNat m=>
  have e:OM (.ofNat m)=Nat.ble m 9223372036854775807:=rfl;rw[e,Nat.ble_eq];have:(Int.ofNat m)=(m:Int):=rfl;omega
 | negSucc m=>
  have e:OM (.negSucc m)=Nat.ble m 9223372036854775807:=rfl;rw[e,Nat.ble_eq];have:Int.negSucc m = -((m:Int)+1):=Int.negSucc_eq m;omega
instance(n:Int):Decidable (om n):=decidable_of_iff (OM n=true) (ahp n)
def OT(k:Nat):Int->Bool
 | .ofNat m=>Nat.ble m k
 | .negSucc _=>true
def rm(n:Int)(k:Nat):Prop:=n<=(k:Int)
def ahV(n:Int)(k:Nat):OT k n=true↔rm n k:=by
 unfold rm
 cases n with
 | ofNat m=>
  have e:OT k (.ofNat m)=Nat.ble m k:=rfl;rw[e,Nat.ble_eq];have:(Int.ofNat m)=(m:Int):=rfl;omega
 | negSucc m=>
  have e:OT k (.negSucc m)=true:=rfl;rw[e];have:Int.negSucc m = -((m:Int)+1):=Int.negSucc_eq m;simp only[true_iff];omega
instance(n:Int)(k:Nat):Decidable (rm n k):=decidable_of_iff (OT k n=true) (ahV n k)
inductive Dl where
 | no
 | cells (v o:Nat) (xs:List D)
 | obj (v:Nat) (ob:Ob)
 | new (ob:Ob)
 deriving Inhabited
def Dl.app(H:U)(al:Al):Dl->U
 | .no=>H
 | .cells v o xs=>match H[v]? with
  | some (.row t g cs)=>H.set v (.row t g (cs.take o++xs++cs.drop (o+xs.length)))
  | _=>H
 | .obj v ob=>H.set v ob
 | .new ob=>al.2 ob
abbrev R:=Option (D×Dl)
def ret(d:D):R:=some (d,.no)
def jU(op:BinOp)(k:IntKind)(a b:Int):Option D:=
 match op with
 | .add=>if k = .i64 then(if om (a+b)then some (.val (.int .i64 (a+b)))else none)else some (.val (.int k (k.wrap (a+b))))
 | .sub=>if k = .i64 then(if om (a-b)then some (.val (.int .i64 (a-b)))else none)else some (.val (.int k (k.wrap (a-b))))
 | .mul=>if k = .i64 then(if om (a*b)then some (.val (.int .i64 (a*b)))else none)else some (.val (.int k (k.wrap (a*b))))
 | .quo=>if b=0 then none else some (.val (.int k (k.wrap (a.tdiv b))))
 | .rem=>if b=0 then none else some (.val (.int k (a.tmod b)))
 | .and | .or | .xor | .andNot=>some (.val (.int k (bits op k a b)))
 | .eql=>some (.val (.bool (a == b)))
 | .neq=>some (.val (.bool (a != b)))
 | .lss=>some (.val (.bool (decide (a<b))))
 | .leq=>some (.val (.bool (decide (a<=b))))
 | .gtr=>some (.val (.bool (decide (a>b))))
 | .geq=>some (.val (.bool (decide (a>=b))))
 | _=>none
def Us(op:BinOp)(k:IntKind)(a b:Int):Option D:=
 match op with
 | .shl=>if 0<=b then some (.val (.int k (k.wrap (a*2 ^ (min b.toNat k.bits)))))else none
 | .shr=>if 0<=b then some (.val (.int k (a.fdiv (2 ^ (min b.toNat k.bits)))))else none
 | _=>none
def Fu(op:BinOp)(a b:ByteArray):Option D:=
 match op with
 | .eql=>some (.val (.bool (a.data.toList == b.data.toList)))
 | .neq=>some (.val (.bool (!(a.data.toList == b.data.toList))))
 | .add=>if rm ((a.size+b.size:Nat):Int) 9223372036854775807 then some (.val (.string (a++b)))else none
 | _=>none
def kY(op:BinOp)(x y:D):Option D:=
 match x,y with
 | .val (.int k a),.val (.int k' b)=>if pY op then Us op k a b else if k=k' then jU op k a b else none
 | .val (.string a),.val (.string b)=>Fu op a b
 | _,_=>none
def Fx(op:UnOp)(x:D):Option D:=
 match op,x with
 | .not,.val (.bool b)=>some (.val (.bool (!b)))
 | .neg,.val (.int .i64 n)=>if om (-n)then some (.val (.int .i64 (-n)))else none
 | .xor,.val (.int k n)=>some (.val (.int k (bits .xor k (if k.signed then -1 else k.max) n)))
 | _,_=>none
def Bq(c:Bool)(ls:List mH)(neg:Bool)(x y:D):Option D:=
 match c,x,y with
 | true,.agg a,.agg b=>match mI ls a b with
  | some r=>some (.val (.bool (if neg then !r else r)))
  | none=>none
 | false,x,y=>match mI ls [x] [y]with
  | some r=>some (.val (.bool (if neg then !r else r)))
  | none=>none
 | _,_,_=>none
def CM(c a b:D):Option D:=
 match c with
 | .val (.bool x)=>some (if x then a else b)
 | _=>none
def xD(x:D)(H:U):Option D:=
 match x with
 | .ptr v g o=>match rowAt H v g with
  | some (_,cs)=>cs[o]?
  | none=>none
 | .gC cs=>cs[0]?
 | _=>none
def wC(n:Nat)(x:D)(H:U):Option D:=
 match x with
 | .ptr v g o=>match rowAt H v g with
  | some (_,cs)=>if o+n<=cs.length then some (.agg ((cs.drop o).take n))else none
  | none=>none
 | .gC cs=>if n<=cs.length then some (.agg (cs.take n))else none
 | _=>none
def C3(a x:D)(H:U):R:=
 match a with
 | .ptr v g o=>match rowAt H v g with
  | some (_,cs)=>if o<cs.length/\one x=true then some (.any,.cells v o [x])else none
  | none=>none
 | _=>none
def C6(n:Nat)(a x:D)(H:U):R:=
 match a,cellsOf x with
 | .ptr v g o,some xs=>match rowAt H v g with
  | some (_,cs)=>if xs.length=n/\o+n<=cs.length then some (.any,.cells v o xs)else none
  | none=>none
 | _,_=>none
def sW(t:TypeId)(x:D)(n:Nat):R:=
 match cellsOf x with
 | some cs=>some (.ptr n 0 0,.new (.row t 0 cs))
 | none=>none
def DG(env:gT)(z:List D)(ps:List (Nat×Nat×X)):Option D:=
 match partsOf env ps with
 | some l=>match lay l z with
  | some cs=>some (.agg cs)
  | none=>none
 | none=>none
def zB(env:gT)(t sz:Nat)(z:List D)(m:Nat)(ps:List (Nat×X))(n:Nat):R:=
 match partsOf env (ps.map λp=>(p.1*sz,sz,p.2))with
 | some l=>match lay l (List.replicate m z).flatten with
  | some cs=>some (.fZ n 0 sz 0 m,.new (.row t 0 cs))
  | none=>none
 | none=>none
def G0(off:Nat)(x:D):Option D:=
 match x with
 | .ptr v g o=>some (.ptr v g (o+off))
 | .gC cs=>some (.gC (cs.drop off))
 | _=>none
def Bw(off n:Nat)(a:Bool)(x:D):Option D:=
 match x with
 | .agg cs=>if a then(if off+n<=cs.length then some (.agg ((cs.drop off).take n))else none)else cs[off]?
 | _=>none
def mG(sz:Nat)(x i:D):Option D:=
 match x,i with
 | .sl gV es,.val (.int _ n)=>if gV=sz/\0<=n/\n<es.length then some (.gC (es.getD n.toNat []))else none
 | .l9 vs,.val (.int _ n)=>if 1=sz/\0<=n/\n<vs.length then some (.gC [.val (vs.getD n.toNat undef)])else none
 | .fZ v g gV off len,.val (.int _ n)=>if gV=sz/\0<=n/\n<len then some (.ptr v g ((off+n.toNat)*sz))else none
 | _,_=>none
def Iw(sz n:Nat)(x i:D):Option D:=
 match x,i with
 | .ptr v g o,.val (.int _ k)=>if 0<=k/\k<n then some (.ptr v g (o+k.toNat*sz))else none
 | .gC cs,.val (.int _ k)=>if 0<=k/\k<n then some (.gC (cs.drop (k.toNat*sz)))else none
 | _,_=>none
def ON(sz n:Nat)(a:Bool)(x i:D):Option D:=
 match x,i with
 | .agg cs,.val (.int _ k)=>if 0<=k/\k<n then Bw (k.toNat*sz) sz a (.agg cs)else none
 | _,_=>none
def S8(x i:D):Option D:=
 match x,i with
 | .val (.string s),.val (.int _ k)=>if 0<=k/\k<s.size then some (.val (.int .u8 ((s.data.toList.getD k.toNat 0).toNat)))else none
 | _,_=>none
def Cu(a:KK)(z:D)(ok:Bool)(m k:D)(H:U):Option D:=
 match m,keyOf k with
 | .gH v,some kv=>match lP H v with
  | some (kk,es)=>if kk=a/\kk.has kv=true then(match rr es kv with
    | some d=>some (if ok then .tup [d,.val (.bool true)]else d)
    | none=>some (if ok then .tup [z,.val (.bool false)]else z))else none
  | none=>none
 | _,_=>none
def AF(a:KK)(m k x:D)(H:U):R:=
 match m,keyOf k with
 | .gH v,some kv=>match lP H v with
  | some (kk,es)=>if kk=a/\kk.has kv=true then some (.any,.obj v (.map kk (mz es kv x)))else none
  | none=>none
 | _,_=>none
def NC(x:D)(i:Nat):Option D:=
 match x with
 | .tup ds=>ds[i]?
 | _=>none
def EU(t sz bytes:Nat)(z:List D)(l c:D)(v:Nat):R:=
 match l,c with
 | .val (.int _ n),.val (.int _ m)=>if 0<=n/\n<=m/\rm m 9223372036854775807/\rm ((bytes:Int)*m) 281474976710656 then some (.fZ v 0 sz 0 n.toNat,.new (.row t 0 (List.replicate m.toNat z).flatten))else none
 | _,_=>none
def uE(env:gT)(sz:Nat)(x:D)(lo hi:Option X):Option D:=
 match x with
 | .sl a es=>match ik env lo 0,ik env hi es.length with
  | some l,some h=>if a=sz/\0<=l/\l<=h/\h<=es.length then some (.sl sz ((es.drop l.toNat).take (h.toNat-l.toNat)))else none
  | _,_=>none
 | .fZ v g a off len=>match ik env lo 0,ik env hi len with
  | some l,some h=>if a=sz/\0<=l/\l<=h/\h<=len then some (.fZ v g sz (off+l.toNat) (h.toNat-l.toNat))else none
  | _,_=>none
 | .gg=>match ik env lo 0,ik env hi 0 with
  | some l,some h=>if l=0/\h=0 then some .gg else none
  | _,_=>none
 | _=>none
def y7(env:gT)(sz:Nat)(x:D)(lo:Option X)(hi mx:X):Option D:=
 match ik env lo 0,ik env (some hi) 0,ik env (some mx) 0 with
 | some l,some h,some m=>match x with
  | .sl a es=>if a=sz/\0<=l/\l<=h/\h=m/\m<=es.length then some (clip sz ((es.drop l.toNat).take (h.toNat-l.toNat)))else none
  | .fZ v g a off len=>if a=sz/\0<=l/\l<=h/\h<=m/\m<=len then some (.fZ v g sz (off+l.toNat) (h.toNat-l.toNat))else none
  | .gg=>if l=0/\h=0/\m=0 then some .gg else none
  | _=>none
 | _,_,_=>none
def A0(env:gT)(sz n:Nat)(x:D)(lo hi:Option X)(H:U):Option D:=
 match x,ik env lo 0,ik env hi n with
 | .gC cs,some l,some h=>if sz=1/\n<=cs.length/\n<=16777216/\0<=l/\l<=h/\h<=n then some (.sl 1 (((cs.drop l.toNat).take (h.toNat-l.toNat)).map λd=>[d]))else none
 | .ptr v g o,some l,some h=>match rowAt H v g with
  | some (_,cs)=>if o % sz=0/\o+n*sz<=cs.length/\n<=16777216/\0<=l/\l<=h/\h<=n then some (.fZ v g sz (o / sz+l.toNat) (h.toNat-l.toNat))else none
  | none=>none
 | _,_,_=>none
def PK(env:gT)(x:D)(lo hi:Option X):Option D:=
 match x with
 | .val (.string s)=>match ik env lo 0,ik env hi s.size with
  | some l,some h=>if 0<=l/\l<=h/\h<=s.size then some (.val (.string (s.extract l.toNat h.toNat)))else none
  | _,_=>none
 | _=>none
def rK(t sz bytes:Nat)(x y:D)(H:U)(a:Nat):R:=
 match kQ sz H y with
 | some (ys,n)=>match x with
  | .fZ v g b off len=>match rowAt H v g with
   | some (t',cs)=>if b=sz/\t'=t/\(off+len)*sz<=cs.length/\(len+n)*bytes<=140737488355328/\len+n<=9223372036854775807 then
     some (.fZ v (g+1) sz 0 (len+n),.obj v (.row t (g+1) ((cs.drop (off*sz)).take (len*sz)++ys)))else none
   | none=>none
  | .l9 vs=>if n≠0/\sz=1/\(vs.length+n)*bytes<=140737488355328/\vs.length+n<=9223372036854775807 then some (.fZ a 0 sz 0 (vs.length+n),.new (.row t 0 (vs.map .val++ys)))else none
  | .gg=>if n=0 then some (.gg,.no)else if n*bytes<=140737488355328/\n<=9223372036854775807 then some (.fZ a 0 sz 0 n,.new (.row t 0 ys))else none
  | _=>none
 | none=>none
def zL(sz:Nat)(x y:D)(H:U):R:=
 match x,kQ sz H y with
 | .fZ v g gV off len,some (ys,n)=>match rowAt H v g with
  | some (t,cs)=>if gV=sz/\(off+len)*sz<=cs.length then
    some (.val (.int .i64 (min n len:Nat)),.obj v (.row t g (cs.take (off*sz)++ys.take (min n len*sz)++cs.drop (off*sz+min n len*sz))))else none
  | none=>none
 | .gg,some _=>some (.val (.int .i64 0),.no)
 | _,_=>none
def mX(k:A9)(x:D)(H:U):Option D:=
 match k,x with
 | .slice,.sl _ es=>some (.val (.int .i64 es.length))
 | .slice,.gg=>some (.val (.int .i64 0))
 | .slice,.l9 vs=>some (.val (.int .i64 vs.length))
 | .slice,.fZ _ _ _ _ len=>some (.val (.int .i64 len))
 | .string,.val (.string s)=>some (.val (.int .i64 s.size))
 | .map,.gH v=>match lP H v with
  | some (_,es)=>some (.val (.int .i64 es.length))
  | none=>none
 | _,_=>none
def ET(env:gT)(d:Bool)(xs:List X):Option D:=
 match sc env xs with
 | some [a,b]=>some (.val (.int .i64 (if d then max a b else min a b)))
 | some [a,b,c]=>some (.val (.int .i64 (if d then max (max a b) c else min (min a b) c)))
 | _=>none
def CF(x:D):Option D:=
 match x with
 | .ptr v g o=>some (.ptr v g o)
 | .gC cs=>some (.gC cs)
 | .fn (.func f) a b=>some (.fn (.func f) a b)
 | .ja v=>some (.ja v)
 | _=>none
def Nh(k:IntKind)(x:D):Option D:=
 match x with
 | .val (.int _ n)=>some (.val (.int k (k.wrap n)))
 | _=>none
def DE(x:D)(H:U):Option D:=
 match kQ 1 H x with
 | some (ys,_)=>match bytesOf ys with
  | some a=>some (.val (.string (a.foldl (λr n=>r.push (UInt8.ofNat n.toNat)) ByteArray.empty)))
  | none=>none
 | none=>none
def lift:Option D->R
 | some d=>some (d,.no)
 | none=>none
def gP(env:gT)(H:U)(n:Nat):iR->R
 | .mv x=>lift (some (ev env x))
 | .pick c a b=>lift (CM (ev env c) (ev env a) (ev env b))
 | .box t x=>sW t (ev env x) n
 | .alloc t z=>some (.ptr n 0 0,.new (.row t 0 z))
 | .build z ps=>lift (DG env z ps)
 | .buildSl t sz z m ps=>zB env t sz z m ps n
 | .ld1 x=>lift (xD (ev env x) H)
 | .ldN m x=>lift (wC m (ev env x) H)
 | .st1 a x=>C3 (ev env a) (ev env x) H
 | .stN m a x=>C6 m (ev env a) (ev env x) H
 | .nilck x=>lift (CF (ev env x))
 | .arith op x y=>lift (kY op (ev env x) (ev env y))
 | .eqS e ls neg x y=>lift (Bq e ls neg (ev env x) (ev env y))
 | .un op x=>lift (Fx op (ev env x))
 | .conv k x=>lift (Nh k (ev env x))
 | .b2s x=>lift (DE (ev env x) H)
 | .mkfn f first cap=>lift (some (.fn f (first.map (ev env)) (cap.map (ev env))))
 | .mkmap kk=>some (.gH n,.new (.map kk []))
 | .mksl t sz bytes z l c=>EU t sz bytes z (ev env l) (ev env c) n
 | .slc sz x lo hi=>lift (uE env sz (ev env x) lo hi)
 | .slcS x lo hi=>lift (PK env (ev env x) lo hi)
 | .slc3 sz x lo hi mx=>lift (y7 env sz (ev env x) lo hi mx)
 | .slcArr sz n x lo hi=>lift (A0 env sz n (ev env x) lo hi H)
 | .fieldA off x=>lift (G0 off (ev env x))
 | .field off m e x=>lift (Bw off m e (ev env x))
 | .idxA sz x i=>lift (mG sz (ev env x) (ev env i))
 | .idxArr sz m x i=>lift (Iw sz m (ev env x) (ev env i))
 | .idx sz m e x i=>lift (ON sz m e (ev env x) (ev env i))
 | .idxStr x i=>lift (S8 (ev env x) (ev env i))
 | .lookup kk z ok m k=>lift (Cu kk z ok (ev env m) (ev env k) H)
 | .mapUpd kk m k x=>AF kk (ev env m) (ev env k) (ev env x) H
 | .ext x i=>lift (NC (ev env x) i)
 | .call _ _ | .callN _ _ | .callv _ _=>none
 | .app t sz bytes x y=>rK t sz bytes (ev env x) (ev env y) H n
 | .copy sz x y=>zL sz (ev env x) (ev env y) H
 | .len k x=>lift (mX k (ev env x) H)
 | .minmax d xs=>lift (ET env d xs)
 | .nilS .. | .capE .. | .appZ .. | .clr .. | .rangeS .. | .nextS .. | .rangeM .. | .nextM .. | .entry .. | .mapEnt .. | .entSt .. => none
section
variable{env:gT}{H:U}{al:Al}{d:D}{δ:Dl}{K:jG}
theorem anH{a b c:D}(h:CM a b c=some d)(e:K d H):IY a b c H K:=by unfold CM at h;unfold IY;(repeat' split at h)<;>simp_all
theorem ahS{x:D}(h:xD x H=some d)(a:K d H):IC x H K:=by unfold xD at h;unfold IC;(repeat' split at h)<;>simp_all
theorem ahT{n:Nat}{x:D}(h:wC n x H=some d)(a:K d H):ID n x H K:=by unfold wC at h;unfold ID;(repeat' split at h)<;>simp_all
theorem ade{z:List D}{ps:List (Nat×Nat×X)}(h:DG env z ps=some d)(a:K d H):Bc env z ps H K:=by unfold DG at h;unfold Bc;(repeat' split at h)<;>simp_all
theorem aiG{x:D}(h:CF x=some d)(a:K d H):IT x H K:=by unfold CF at h;unfold IT;(repeat' split at h)<;>simp_all
theorem apt{op:UnOp}{x:D}(h:Fx op x=some d)(a:K d H):JD op x H K:=by unfold Fx at h;unfold JD;(repeat' split at h)<;>simp_all
theorem aet{b:Bool}{ls:List mH}{neg:Bool}{x y:D}(h:Bq b ls neg x y=some d)(a:K d H):w9 b ls neg x y H K:=by unfold Bq at h;unfold w9;(repeat' split at h)<;>simp_all
theorem adY{k:IntKind}{x:D}(h:Nh k x=some d)(a:K d H):GF k x H K:=by unfold Nh at h;unfold GF;(repeat' split at h)<;>simp_all
theorem acZ{x:D}(h:DE x H=some d)(a:K d H):Gi x H K:=by unfold DE at h;unfold Gi;(repeat' split at h)<;>simp_all
theorem aoY{sz:Nat}{x:D}{lo hi:Option X}(h:uE env sz x lo hi=some d)(a:K d H):Jo env sz x lo hi H K:=by unfold uE at h;unfold Jo;(repeat' split at h)<;>simp_all
theorem aoU{sz:Nat}{x:D}{lo:Option X}{hi mx:X}(h:y7 env sz x lo hi mx=some d)(a:K d H):Jm env sz x lo hi mx H K:=by unfold y7 at h;unfold Jm;(repeat' split at h)<;>simp_all<;>omega
theorem aoW{sz n:Nat}{x:D}{lo hi:Option X}(h:A0 env sz n x lo hi H=some d)(a:K d H):Jn env sz n x lo hi H K:=by unfold A0 at h;unfold Jn;(repeat' split at h)<;>simp_all
theorem aoX{x:D}{lo hi:Option X}(h:PK env x lo hi=some d)(a:K d H):Fk env x lo hi H K:=by unfold PK at h;unfold Fk;(repeat' split at h)<;>simp_all
theorem afX{off:Nat}{x:D}(h:G0 off x=some d)(a:K d H):GZ off x H K:=by unfold G0 at h;unfold GZ;(repeat' split at h)<;>simp_all
theorem Xn{off n:Nat}{b:Bool}{x:D}(h:Bw off n b x=some d)(a:K d H):Bv off n b x H K:=by unfold Bw at h;unfold Bv;(repeat' split at h)<;>simp_all
theorem ahq{sz:Nat}{x i:D}(h:mG sz x i=some d)(a:K d H):Iu sz x i H K:=by unfold mG at h;unfold Iu;(repeat' split at h)<;>simp_all
theorem ahs{sz n:Nat}{x i:D}(h:Iw sz n x i=some d)(a:K d H):Iv sz n x i H K:=by unfold Iw at h;unfold Iv;(repeat' split at h)<;>simp_all
theorem aht{x i:D}(h:S8 x i=some d)(a:K d H):Iy x i H K:=by unfold S8 at h;unfold Iy;(repeat' split at h)<;>simp_all
theorem aie{kk:KK}{z:D}{ok:Bool}{m k:D}(h:Cu kk z ok m k H=some d)(b:K d H):IH kk z ok m k H K:=by
 unfold Cu at h;unfold IH;split at h
 .split at h
  .split at h
   .rename_i c;obtain⟨rfl,c⟩:=c;simp only[*,true_and];split at h
    .rename_i a;cases h;simp only[a];exact b
    .rename_i a;cases h;simp only[a];exact b
   .cases h
  .cases h
 .cases h
theorem aev{x:D}{i:Nat}(h:NC x i=some d)(a:K d H):GU x i H K:=by unfold NC at h;unfold GU;(repeat' split at h)<;>simp_all
theorem ah1{k:A9}{x:D}(h:mX k x H=some d)(a:K d H):IE k x H K:=by unfold mX at h;unfold IE;(repeat' split at h)<;>simp_all
theorem aix{b:Bool}{xs:List X}(h:ET env b xs=some d)(a:K d H):IN env b xs H K:=by unfold ET at h;unfold IN;(repeat' split at h)<;>simp_all
theorem acS{op:BinOp}{k:IntKind}{a b:Int}(h:jU op k a b=some d)(c:K d H):Ge op k a b H K:=by unfold jU at h;unfold Ge;(repeat' split at h)<;>simp_all
theorem aoR{op:BinOp}{k:IntKind}{a b:Int}(h:Us op k a b=some d)(c:K d H):Jl op k a b H K:=by unfold Us at h;unfold Jl;(repeat' split at h)<;>simp_all
theorem apm{op:BinOp}{a b:ByteArray}(h:Fu op a b=some d)(c:K d H):PT op a b H K:=by unfold Fu at h;unfold PT;(repeat' split at h)<;>simp_all [rm]
theorem ac9{t:TypeId}{x:D}(h:sW t x al.1=some (d,δ))(a:K d (δ.app H al)):Gl t x al K:=by unfold sW at h;unfold Gl;(repeat' split at h)<;>cases h<;>simp_all [Dl.app]
theorem adb{t sz:Nat}{z:List D}{m:Nat}{ps:List (Nat×X)}(h:zB env t sz z m ps al.1=some (d,δ))(a:K d (δ.app H al)):Gm env t sz z m ps al K:=by unfold zB at h;unfold Gm;(repeat' split at h)<;>cases h<;>simp_all [Dl.app]
theorem Jf{v g:Nat}{x:TypeId×List D}(h:rowAt H v g=some x):H[v]? = some (.row x.1 g x.2):=by
 unfold rowAt at h;split at h
 .split at h
  .rename_i e;subst e;cases h;assumption
  .cases h
 .cases h
theorem apg{a x:D}(h:C3 a x H=some (d,δ))(c:K d (δ.app H al)):Js a x H K:=by
 unfold C3 at h;unfold Js;split at h
 .split at h
  .rename_i v g o _ t cs f;split at h
   .rename_i b;cases h;simp only[f];refine⟨b.1,b.2,?_⟩;simp only[Dl.app,Jf f]at c
    have e:cs.set o x=cs.take o ++ [x]++cs.drop (o + [x].length):=by rw[cH,if_pos b.1];simp
    rw[e];exact c
   .cases h
  .cases h
 .cases h
theorem aph{n:Nat}{a x:D}(h:C6 n a x H=some (d,δ))(b:K d (δ.app H al)):Jt n a x H K:=by
 unfold C6 at h;unfold Jt;split at h
 .split at h
  .rename_i v g o xs _ _ t cs e;split at h
   .rename_i c;cases h;simp only[*];refine⟨trivial,trivial,?_⟩;simp only[Dl.app,Jf e]at b;rw[c.1]at b;exact b
   .cases h
  .cases h
 .cases h
theorem aiz{t sz bytes:Nat}{z:List D}{l c:D}(h:EU t sz bytes z l c al.1=some (d,δ))(a:K d (δ.app H al)):IP t sz bytes z l c al K:=by unfold EU at h;unfold IP;(repeat' split at h)<;>cases h<;>simp_all [Dl.app,rm]
theorem aiu{kk:KK}{m k x:D}(h:AF kk m k x H=some (d,δ))(b:K d (δ.app H al)):IK kk m k x H K:=by
 unfold AF at h;unfold IK;split at h
 .split at h
  .split at h
   .rename_i a;obtain⟨rfl,a⟩:=a;cases h;simp only[*,true_and];exact b
   .cases h
  .cases h
 .cases h
theorem acP{t sz bytes:Nat}{x y:D}(h:rK t sz bytes x y H al.1=some (d,δ))(a:K d (δ.app H al)):Gd t sz bytes x y H al K:=by unfold rK at h;unfold Gd;(repeat' split at h)<;>cases h<;>simp_all [Dl.app]
theorem ad0{sz:Nat}{x y:D}(h:zL sz x y H=some (d,δ))(a:K d (δ.app H al)):GK sz x y H K:=by unfold zL at h;unfold GK;(repeat' split at h)<;>cases h<;>simp_all [Dl.app]
theorem ac5{op:BinOp}{x y:D}(h:kY op x y=some d)(a:K d H):Gj op x y H K:=by
 unfold kY at h;unfold Gj;split at h
 .split at h
  .rename_i hs;simp only[hs,if_true];exact aoR h a
  .rename_i hs;simp only[hs];split at h
   .rename_i e;exact⟨e,acS h a⟩
   .cases h
 .exact apm h a
 .cases h
theorem ahu{sz n:Nat}{b:Bool}{x i:D}(h:ON sz n b x i=some d)(a:K d H):Ix sz n b x i H K:=by
 unfold ON at h;unfold Ix;split at h
 .split at h
  .rename_i c;exact⟨c,Xn h a⟩
  .cases h
 .cases h
theorem my{o:Option D}(h:lift o=some (d,δ)):o=some d/\δ = .no:=by cases o<;>simp[lift]at h;exact⟨by rw[h.1],h.2.symm⟩
theorem VE{c:iR}(h:gP env H al.1 c=some (d,δ))(b:K d (δ.app H al)):Gc env H al K c:=by
 cases c<;>simp only[gP]at h<;>simp only[Gc]
 case mv=>obtain⟨a,rfl⟩:=my h;cases a;exact b
 case mkfn=>obtain⟨a,rfl⟩:=my h;cases a;exact b
 case alloc=>cases h;exact b
 case mkmap=>cases h;exact b
 case call=>cases h
 case callN=>cases h
 case callv=>cases h
 case nilS=>cases h
 case capE=>cases h
 case appZ=>cases h
 case clr=>cases h
 case rangeS=>cases h
 case nextS=>cases h
 case rangeM=>cases h
 case nextM=>cases h
 case entry=>cases h
 case mapEnt=>cases h
 case entSt=>cases h
 case box=>exact ac9 h b
 case buildSl=>exact adb h b
 case st1=>exact apg h b
 case stN=>exact aph h b
 case mksl=>exact aiz h b
 case mapUpd=>exact aiu h b
 case app=>exact acP h b
 case copy=>exact ad0 h b
 case pick=>obtain⟨a,rfl⟩:=my h;exact anH a b
 case build=>obtain⟨a,rfl⟩:=my h;exact ade a b
 case ld1=>obtain⟨a,rfl⟩:=my h;exact ahS a b
 case ldN=>obtain⟨a,rfl⟩:=my h;exact ahT a b
 case nilck=>obtain⟨a,rfl⟩:=my h;exact aiG a b
 case arith=>obtain⟨a,rfl⟩:=my h;exact ac5 a b
 case eqS=>obtain⟨a,rfl⟩:=my h;exact aet a b
 case un=>obtain⟨a,rfl⟩:=my h;exact apt a b
 case conv=>obtain⟨a,rfl⟩:=my h;exact adY a b
 case b2s=>obtain⟨a,rfl⟩:=my h;exact acZ a b
 case slc=>obtain⟨a,rfl⟩:=my h;exact aoY a b
 case slc3=>obtain⟨a,rfl⟩:=my h;exact aoU a b
 case slcArr=>obtain⟨a,rfl⟩:=my h;exact aoW a b
 case slcS=>obtain⟨a,rfl⟩:=my h;exact aoX a b
 case fieldA=>obtain⟨a,rfl⟩:=my h;exact afX a b
 case field=>obtain⟨a,rfl⟩:=my h;exact Xn a b
 case idxA=>obtain⟨a,rfl⟩:=my h;exact ahq a b
 case idxArr=>obtain⟨a,rfl⟩:=my h;exact ahs a b
 case idx=>obtain⟨a,rfl⟩:=my h;exact ahu a b
 case idxStr=>obtain⟨a,rfl⟩:=my h;exact aht a b
 case lookup=>obtain⟨a,rfl⟩:=my h;exact aie a b
 case ext=>obtain⟨a,rfl⟩:=my h;exact aev a b
 case len=>obtain⟨a,rfl⟩:=my h;exact ah1 a b
 case minmax=>obtain⟨a,rfl⟩:=my h;exact aix a b
end
end Go.AL
namespace Go.AL
open Go
mutual
def flat:D->Bool
 | .any | .val _ | .gg=>true
 | .agg cs | .tup cs=>tL cs
 | .sl _ es=>es.isEmpty
 | _=>false
def tL:List D->Bool
 | []=>true
 | d::ds=>flat d&&tL ds
end
def chunks(sz:Nat):Nat->List D->List (List D)
 | 0,_=>[]
 | n+1,cs=>cs.take sz::chunks sz n (cs.drop sz)
def gq(ρ:Nat->Option Nat)(H:U):Nat->D->D
 | 0,d=>if closed d then d else .any
 | k+1,d=>if closed d then d else match d with
  | .agg cs=>.agg (cs.map (gq ρ H k))
  | .tup cs=>.tup (cs.map (gq ρ H k))
  | .sl sz es=>.sl sz (es.map (·.map (gq ρ H k)))
  | .gC cs=>.gC (cs.map (gq ρ H k))
  | .fn f a b=>.fn f (a.map (gq ρ H k)) (b.map (gq ρ H k))
  | .fZ v g sz off len=>match ρ v with
   | some v'=>.fZ v' g sz off len
   | none=>match rowAt H v g with
    | some (_,cs)=>if (off+len)*sz<=cs.length then .sl sz (chunks sz len ((cs.drop (off*sz)).map (gq ρ H k)))else .any
    | none=>.any
  | .ptr v g off=>match ρ v with
   | some v'=>.ptr v' g off
   | none=>match rowAt H v g with
    | some (_,cs)=>.gC ((cs.drop off).map (gq ρ H k))
    | none=>.any
  | .gH v=>match ρ v with
   | some v'=>.gH v'
   | none=>.any
  | .ja v=>match ρ v with
   | some v'=>.ja v'
   | none=>.any
  | d=>d
def ot(ρ:Nat->Option Nat)(H:U):Ob->Ob
 | .row t g cs=>.row t g (cs.map (gq ρ H 40))
 | .map kk es=>.map kk (es.map λx=>(x.1,gq ρ H 40 x.2))
 | .im rf env st=>.im rf (env.map λx=>(x.1,gq ρ H 40 x.2)) st
 | .sO s p=>.sO s p
 | .jj m since seen=>.jj (gq ρ H 40 m) since seen
 | .jE=>.jE
 | .dead=>.dead
 | .lY=>.dead
abbrev mP:=List (Nat×Bool)
def iv(ks:mP)(v:Nat):Option Nat:=ks.findIdx? (λp=>p.2&&p.1 == v)
def pF(ks:mP)(H:U):U:=ks.map λp=>if p.2 then(match H[p.1]? with|some o=>ot (iv ks) H o|none=>.dead)else .dead
def jk(n:Nat):D->List Nat
 | .fZ v _ _ _ _=>if n<=v then [v]else []
 | .ptr v _ _=>if n<=v then [v]else []
 | .gH v=>if n<=v then [v]else []
 | .ja v=>if n<=v then [v]else []
 | _=>[]
def oJ(n:Nat):Ob->List Nat
 | .row _ _ cs=>(cs.map (jk n)).flatten
 | .map _ es=>(es.map λx=>jk n x.2).flatten
 | _=>[]
def dedup:List Nat->List Nat
 | []=>[]
 | x::r=>if x∈r then dedup r else x::dedup r
def iI(n:Nat)(K:List Nat):mP:=((List.range n).map λv=>(v,true))++K.map λv=>(v,true)
def forget(live:List Nat)(env:Env):Env:=live.map λk=>(k,env.get k)
structure St where
 env:Env
 H:U
 marks:List Nat:=[]
 ic:Bool:=false
 deriving Inhabited
def AH(live:List Nat):Bool:=match live with
 | k::_=>Nat.beq k 9999
 | []=>false
def cut(n:Nat)(live:List Nat)(s:St):St:=
 let env:=forget live s.env
 if s.H.length<=n\/AH live=true then{ s with env:=env }else
 let K:=dedup (((env.map λp=>jk n p.2).flatten++((s.H.take n).map (oJ n)).flatten++s.marks.filter (n<=·)).filter (· < s.H.length))
 let ks:=iI n K
 { s with env:=env.map λp=>(p.1,gq (iv ks) s.H 40 p.2),H:=pF ks s.H,marks:=s.marks.map λv=>(iv ks v).getD v }
def E5(n:Nat):D->List Nat
 | .fZ v _ _ 0 _=>if n<=v then [v]else []
 | .tup ds=>(ds.map λd=>match d with | .fZ v _ _ 0 _=>if n<=v then [v]else []|_=>[]).flatten
 | _=>[]
inductive IR where
 | skip
 | ops (l:List ia)
 | mb (jH:List (Nat×Nat)) (l:List ia)
 | mR (jH:List (Nat×Nat)) (l es:List ia)
 | seq (a b:IR)
 | cond (c:X) (a b:IR)
 | block (id:Nat) (live:List Nat) (a:IR)
 | loop (live:List Nat) (a:IR)
 | oq (rf:Nat) (live:List Nat) (x:X)
 | exit (id:Nat)
 | ret
 | bad
 | fz (S:List Nat) (a:IR)
 | vM (S:List Nat) (a b:List ia)
 deriving Inhabited
inductive vA where
 | tmp (t:Nat)
 | tF (t:Nat)
 | Qv (n t:Nat)
 deriving Inhabited
structure jo where
 ntmps:Nat
 body:IR
 results:List vA
 full:Bool:=false
 own:Nat:=0
 fz:Bool:=false
 deriving Inhabited
def Fa(s:St):vA->Option D
 | .tmp t=>some (s.env.get t)
 | .tF t=>xD (s.env.get t) s.H
 | .Qv n t=>wC n (s.env.get t) s.H
def vo(s:St):List vA->Option (List D)
 | []=>some []
 | x::r=>match Fa s x,vo s r with
  | some d,some l=>some (d::l)
  | _,_=>none
def results(fn:jo)(s:St):Option D:=match vo s fn.results with
 | some [d]=>some d
 | some ds=>some (.tup ds)
 | none=>none
def uo(args:List D):Env:=args.zipIdx.map λp=>(p.2,p.1)
def uC:List Nat->List D->Env->Env
 | k::ks,d::ds,env=>uC ks ds ((k,d)::env)
 | _,_,env=>env
def kK(env:gT):iR->Option (FuncId×List D)
 | .call f args=>some (f,args.map (ev env))
 | .callN f args=>some (f,args.map (ev env))
 | .callv f args=>match ev env f with
  | .fn (.func k) first cap=>some (k,first++args.map (ev env)++cap)
  | _=>none
 | _=>none
def Iz:iR->Bool
 | .call _ _ | .callN _ _ | .callv _ _=>true
 | _=>false
def guardOf(env:gT):Option (Nat×Bool)->Option Bool
 | none=>some true
 | some (s,want)=>match env s with
  | .val (.bool b)=>some (b == want)
  | .val (.tuple _)=>some false
  | _=>none
def yO(n:Nat):D->D
 | .fZ v g sz off len=>.fZ (v+n) g sz off len
 | d=>d
def kH(n:Nat):D->D
 | .fZ v g sz off len=>.fZ (v+n) g sz off len
 | .tup ds=>.tup (ds.map (yO n))
 | .agg ds=>.agg (ds.map (yO n))
 | d=>d
def oy:Ob->Bool
 | .row _ _ cs=>gG cs
 | _=>false
def pO:Ob->Bool
 | .row _ _ cs=>tL cs
 | _=>false
def yW(p:D->Bool):D->Bool
 | .fZ .. => true
 | d=>p d
def xH(p:D->Bool):D->Bool
 | .fZ .. => true
 | .tup ds=>ds.all (yW p)
 | .agg ds=>ds.all (yW p)
 | d=>p d
def mY:D->Bool:=xH closed
def o3:D->Bool:=xH flat
def rowsOf(H:U)(v:Nat):Option (TypeId×Nat×List D):=match H[v]? with
 | some (.row t g cs)=>some (t,g,cs)
 | _=>none
def iF(H:U):Nat->D->List Nat
 | 0,_=>[]
 | k+1,d=>if closed d then []else match d with
  | .agg cs | .tup cs | .gC cs=>(cs.map (iF H k)).flatten
  | .sl _ es=>(es.map λe=>(e.map (iF H k)).flatten).flatten
  | .fn _ a b=>(a.map (iF H k)).flatten++(b.map (iF H k)).flatten
  | .fZ v _ _ _ _ | .ptr v _ _=>v::(match rowsOf H v with
   | some (_,_,cs)=>(cs.map (iF H k)).flatten
   | none=>[])
  | .gH v | .ja v=>[v]
  | _=>[]
def leave(own:Nat)(n:Nat)(H:U)(d:D):D×U:=
 if H.length<=n\/own=4 then(d,H)else
 let K:=dedup (((match own with|0=>[]|1=>E5 n d|3=>((iF H 40 d).filter (n<=·)).take 1|_=>(iF H 40 d).filter (n<=·))++((H.take n).map (oJ n)).flatten).filter (· < H.length))
 let ks:=iI n K
 (gq (iv ks) H 40 d,pF ks H)
def mE(H:U)(S:List Nat):mP:=(List.range H.length).map λv=>(v,!(S.contains v))
structure qw where
 params:List Nat
 a:IR
 b:IR
 deriving Inhabited
structure iD where
 fn:FuncId->Option jo
 round:Nat->Option qw:=λ_=>none
 sort:FuncId->Option Nat:=λ_=>none
 tz:FuncId->Bool:=λ_=>false
 sZ:FuncId->Bool:=λ_=>false
def after(s:St)(dst:Option Nat)(args:List D)(r:D)(Hn:U):Option St:=
 if (if gG args then mY r&&Hn.all oy else o3 r&&Hn.all pO)then
  some { s with env:=put s.env dst (kH s.H.length r),H:=s.H++Hn }else none
def me(S:List Nat)(s:St):St:=
 let ks:=mE s.H S
 { s with env:=s.env.map λp=>(p.1,gq (iv ks) s.H 40 p.2),H:=pF ks s.H }
end Go.AL
namespace Go.AL
open Go
def ya{ds:List D}(h:gG ds=true){i:Nat}{d:D}(a:ds[i]? = some d):closed d=true:=by
 induction ds generalizing i with
 | nil=>simp at a
 | cons x xs b=>
  simp only[gG,Bool.and_eq_true]at h
  cases i with
  | zero=>simp at a;subst a;exact h.1
  | succ i=>exact b h.2 (by simpa using a)
def adE{es:List (List D)}(h:DK es=true){i:Nat}{e:List D}(a:es[i]? = some e):gG e=true:=by
 induction es generalizing i with
 | nil=>simp at a
 | cons x xs b=>
  simp only[DK,Bool.and_eq_true]at h
  cases i with
  | zero=>simp at a;subst a;exact h.1
  | succ i=>exact b h.2 (by simpa using a)
theorem gh.closed{c c':Ctx}{w:World}(A:∀b,c.F b->c'.F b){u:Value}{d:D}(h:gh c w u d)(l:closed d=true):gh c' w u d:=by
 induction h with
 | any v=>exact .any _
 | val v=>exact .val _
 | agg vs ds hl h1 h n=>exact .agg vs _ hl h1 λi v d m k=>n i v d m k (ya l k)
 | tup vs ds hl h n=>exact .tup vs _ hl λi v d m k=>n i v d m k (ya l k)
 | sl a len cap sz es g r E y H x q I n=>
  refine .sl a len cap sz _ g r E y H x ?_ λi e j d s k=>n i e j d s k (ya (adE l s) k);intro i e j d s k;obtain⟨b,o,z,p,t,h1⟩:=q i e j d s k;exact⟨b,o,z,A b p,t,h1⟩
 | gg=>exact .gg
 | l9 a vs y x q=>
  refine .l9 a vs y x ?_;intro i v m;obtain⟨b,o,z,p,t,h1⟩:=q i v m;exact⟨b,o,z,A b p,t,h1⟩
 | fZ=>cases l
 | mA=>cases l
 | ptr=>cases l
 | gC b o cs g p q I n=>exact .gC b o _ g (A b p) q λj d k=>n j d k (ya l k)
 | gH=>cases l
 | fn f fs cs K L F G h1 J C B=>
  simp only[AL.closed,Bool.and_eq_true]at l;exact .fn f fs cs _ _ F G (λi v d m k=>C i v d m k (ya l.1 k)) (λi v d m k=>B i v d m k (ya l.2 k))
 | ja=>cases l
def DT{ds:List D}(h:tL ds=true){i:Nat}{d:D}(a:ds[i]? = some d):flat d=true:=by
 induction ds generalizing i with
 | nil=>simp at a
 | cons x xs b=>
  simp only[tL,Bool.and_eq_true]at h
  cases i with
  | zero=>simp at a;subst a;exact h.1
  | succ i=>exact b h.2 (by simpa using a)
theorem gh.flat{c c':Ctx}{w:World}{u:Value}{d:D}(h:gh c w u d)(b:flat d=true):gh c' w u d:=by
 induction h with
 | any v=>exact .any _
 | val v=>exact .val _
 | agg vs ds hl h1 h j=>exact .agg vs _ hl h1 λi v d k f=>j i v d k f (DT b f)
 | tup vs ds hl h j=>exact .tup vs _ hl λi v d k f=>j i v d k f (DT b f)
 | sl a len cap sz es g e m n p l o q j=>
  simp only[AL.flat,eC]at b;subst b;exact .sl a len cap sz _ g e m n (by simp) l (by simp) (by simp)
 | gg=>exact .gg
 | l9=>cases b
 | fZ=>cases b
 | mA=>cases b
 | ptr=>cases b
 | gC=>cases b
 | gH=>cases b
 | fn=>cases b
 | ja=>cases b
theorem VY(sz:Nat):∀(n:Nat) (cs:List D),(chunks sz n cs).length=n
 | 0,_=>rfl
 | n+1,cs=>by simp[chunks,VY sz n]
theorem Qz(sz:Nat):∀(n:Nat) (cs:List D) (i:Nat) (e:List D),(chunks sz n cs)[i]? = some e->i<n/\e=(cs.drop (i*sz)).take sz
 | 0,_,i,e,h=>by simp[chunks]at h
 | n+1,cs,0,e,h=>by simp[chunks]at h;subst h;simp
 | n+1,cs,i+1,e,h=>by simp only[chunks,cV]at h;obtain⟨h1,a⟩:=Qz sz n _ i e h;refine⟨by omega,?_⟩;rw[a,bZ];congr 2;rw[bw];omega
def aoT{c:Ctx}{w:World}{b o sz len cap:Nat}{vs:List Value}{ds:List D}(n:c.F b)(k:Cells c w vs ds)(hl:ds.length=len*sz)(l:len<=cap)(m:cap<=maxLen)
  (r:∀(j:Nat) (v:Value),vs[j]? = some v->w.cell? ⟨b,o+j,none⟩=some v):gh c w (.slice (some ⟨b,o,none⟩) len cap) (.sl sz (chunks sz len ds)):=by
 have h:∀(i:Nat) (e:List D) (j:Nat) (d:D),(chunks sz len ds)[i]? = some e->e[j]? = some d->ds[i*sz+j]? = some d/\j<sz:=by
  intro i e j d a f;obtain⟨_,rfl⟩:=Qz sz len ds i e a;rw[aD]at f;split at f
  .grind
  .cases f
 refine .sl _ len cap sz _ (λi j=>vs.getD (i*sz+j) undef) (VY _ _ _) l m ?_ (by simp) ?_ ?_
 .intro e a;obtain⟨i,hi⟩:=aB.1 a;obtain⟨h1,rfl⟩:=Qz sz len ds i e hi;simp only[aJ,aQ,hl];have:(i+1)*sz<=len*sz:=bE _ h1;rw[bw]at this;omega
 .intro i e j d a f;obtain⟨h1,_⟩:=h i e j d a f;obtain⟨v,g,q,_⟩:=k.get h1;refine⟨b,o,rfl,n,?_,?_⟩
  .grind
  .grind
 .intro i e j d a f;obtain⟨h1,_⟩:=h i e j d a f;obtain⟨v,g,_,p⟩:=k.get h1;simp only[List.getD,g,aT];exact p
theorem Cells.map{c c':Ctx}{w:World}{f:D->D}(g:∀v d,gh c w v d->gh c' w v (f d)){vs:List Value}{cs:List D}(h:Cells c w vs cs):Cells c' w vs (cs.map f):=
 ⟨by simpa using h.len,h.one,λi v d e a=>by
  simp only[au,ak]at a;obtain⟨d0,b,rfl⟩:=a
  exact g _ _ (h.rep i v d0 e b)⟩
def Ctx.gq(c:Ctx)(ks:mP)(H:U):Ctx where
 ι:=λi g=>match ks[i]? with
  | some p=>c.ι p.1 g
  | none=>none
 F:=λb=>c.F b\/∃v L,l7 c H v L/\iv ks v=none/\L.jN=false/\L.b=b
 RT:=c.RT
def abj{ks:mP}{v i:Nat}(h:iv ks v=some i):ks[i]? = some (v,true):=by unfold iv at h;rw[cI]at h;obtain⟨hi,a,_⟩:=h;simp only[Bool.and_eq_true,beq_iff_eq]at a;rw[List.getElem?_eq_getElem hi];congr 1;exact cG a.2 a.1
def abi{ks:mP}{v:Nat}(h:iv ks v=none)(i:Nat):ks[i]?≠some (v,true):=by intro hi;unfold iv at h;rw[dj]at h;have:=h _ (List.mem_of_getElem? hi);simp at this
section
variable{G:GT}{c:Ctx}{H:U}{w:World}{ks:mP}
theorem FF{v i g:Nat}(h:iv ks v=some i):(c.gq ks H).ι i g=c.ι v g:=by simp[Ctx.gq,abj h]
theorem Dv{b:Nat}(h:c.F b):(c.gq ks H).F b:=Or.inl h
theorem Vm{v:Nat}{L:Loc}(h1:l7 c H v L)(b:iv ks v=none)(a:L.jN=false):(c.gq ks H).F L.b:=Or.inr ⟨v,L,h1,b,a,rfl⟩
theorem AR(h:gE G c H w):∀(k:Nat) {u:Value} {d:D},gh c w u d->gh (c.gq ks H) w u (gq (iv ks) H k d)
 | 0,u,d,q=>by
  unfold AL.gq;split
  .rename_i K;exact q.closed (λb M=>Dv M) K
  .exact .any _
 | k+1,u,d,q=>by
  have A:=λ{u:Value} {d:D} (q:gh c w u d)=>AR h k q;unfold AL.gq;split
  .rename_i K;exact q.closed (λb M=>Dv M) K
  .cases q with
   | any v=>exact .any _
   | val v=>exact .val _
   | agg vs ds hl h1 z=>
     refine .agg vs _ (by simpa using hl) h1 λi v d l y=>?_;simp only[au,ak]at y;obtain⟨d0,B,rfl⟩:=y;exact A (z i v d0 l B)
   | tup vs ds hl z=>
     refine .tup vs _ (by simpa using hl) λi v d l y=>?_;simp only[au,ak]at y;obtain⟨d0,B,rfl⟩:=y;exact A (z i v d0 l B)
   | sl a len cap sz es g s E F iP W Q q=>
    refine .sl a len cap sz _ g (by simpa using s) E F ?_ W ?_ ?_
    .grind
    .intro i e j d R y;simp only[au,ak]at R;obtain⟨e0,J,rfl⟩:=R;simp only[au,ak]at y;obtain⟨d0,B,rfl⟩:=y;obtain⟨b,o,ha,I,U,h1⟩:=Q i e0 j d0 J B;exact⟨b,o,ha,Dv I,U,h1⟩
    .grind
   | gg=>exact .gg
   | l9 a vs h1 z S=>rename_i hn;exact absurd rfl hn
   | fZ v g sz off len cap L p l E F V=>
    dsimp only;split
    .rename_i v' r;exact .fZ v' g sz off len cap L (by rw[FF r];exact p) l E F V
    .rename_i P;split
     .rename_i t cs O;split
      .rename_i nh;have C:=uB O;obtain⟨arr,h1,z,S,N⟩:=y4 h C p l;have X:=(((N.drop (off*sz)).map (λ_ _ q=>A q)).take (len*sz));have s:((cs.drop (off*sz)).map (AL.gq (iv ks) H k)).length=(cs.length-off*sz):=by simp
       have T:chunks sz len ((cs.drop (off*sz)).map (AL.gq (iv ks) H k))=chunks sz len (((cs.drop (off*sz)).map (AL.gq (iv ks) H k)).take (len*sz)):=by
        have key:∀(n:Nat) (xs:List D),chunks sz n xs=chunks sz n (xs.take (n*sz)):=by
         intro n
         induction n with
         | zero=>intro xs;rfl
         | succ n A=>
          intro xs;simp only[chunks];rw[ef,Nat.min_eq_left (by rw[bw];omega),A (xs.drop sz),List.drop_take,show(n+1)*sz-sz=n*sz by rw[bw];omega]
        exact key _ _
       rw[T];refine aoT (Vm ⟨_,C,rfl,p⟩ P l) X ?_ E F λj x m=>?_
       .grind
       .rw[aD]at m;split at m
        .rw[aI,aD]at m;split at m
         .rw[aI]at m;simp[World.cell?,h1];rw[bh];simpa using m
         .cases m
        .cases m
      .exact .any _
     .exact .any _
   | mA v g sz off L p a=>
    dsimp only;split
    .rename_i v' r;exact .mA v' g sz off L (by rw[FF r];exact p) a
    .split
     .split
      .exact .sl a 0 0 sz _ (λ_ _=>undef) rfl (Nat.le_refl _) (by unfold maxLen;omega) (by simp[chunks]) (λ_=>rfl) (by simp[chunks]) (by simp[chunks])
      .exact .any _
     .exact .any _
   | ptr v g off L p l=>
    dsimp only;split
    .rename_i v' r;exact .ptr v' g off L (by rw[FF r];exact p) l
    .rename_i P;split
     .rename_i t cs O;have C:=uB O;obtain⟨arr,h1,z,S,N⟩:=y4 h C p l;refine Rh (Vm ⟨_,C,rfl,p⟩ P l) ⟨_,(N.drop off).map (λ_ _ q=>A q),λj x m=>?_⟩;rw[aI,aD]at m;split at m
      .rw[aI]at m;simp[World.cell?,h1];rw[bh];simpa using m
      .cases m
     .exact .any _
   | gC b o cs g I Q q=>
    refine .gC b o _ g (Dv I) ?_ ?_
    .grind
    .grind
   | gH v L p l=>
    dsimp only;split
    .rename_i v' r;exact .gH v' L (by rw[FF r];exact p) l
    .exact .any _
   | fn f fs cs df dc Y Z h1 z=>
    refine .fn f fs cs _ _ (by simpa using Y) (by simpa using Z) ?_ ?_
    .grind
    .grind
   | ja v L p l=>
    dsimp only;split
    .rename_i v' r;exact .ja v' L (by rw[FF r];exact p) l
    .exact .any _
