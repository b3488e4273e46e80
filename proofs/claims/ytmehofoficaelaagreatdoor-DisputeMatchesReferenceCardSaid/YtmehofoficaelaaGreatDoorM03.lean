/- Part 3 of DisputeMatchesReference. -/
import Derived.Test.YtmehofoficaelaaGreatDoorM02
import Derived.ChangeKeysEq
set_option linter.all false
open Option renaming some→aE,none→bb,bind_some→dx
open Bool renaming true→bs,false→b4
open List renaming replicate→cj,map_cons→cp,map_nil→di,range→en,length→List.l
open Nat renaming ble→dr,le_refl→eh,ble_eq→ek
open Int renaming toNat→Int.n
open UInt8 renaming toNat→UInt8.n
namespace Go.AL
open Go
section
variable{P:Program}{G:GT}{c:Ctx}{H:gg}{w:World}{K:kd}{env:il}{a:Act}
theorem TR{x:D}{kv u:Value}(b:gq c w u x)(h:keyOf x=aE kv):u=kv:=by
 unfold keyOf at h;split at h
 .cases h;cases b;rfl
 .cases h;cases b;rfl
 .cases h;cases b;rfl
 .rename_i cs;simp only[aq]at h;obtain⟨l,hl,rfl⟩:=h
  cases b with
  | agg vs _ a _ h1=>
   have key:∀(cs:List D) (vs l:List Value),Jc cs=aE l->vs.l=cs.l->(∀(i:Nat) (v:Value) (d:D),vs[i]? = aE v->cs[i]? = aE d->gq c w v d)->vs=l:=by
    intro cs
    induction cs with
    | nil=>intro vs l hl a _;simp[Jc]at hl;subst hl;exact aY (by simpa using a)
    | cons d cs j=>
     intro vs l hl a h1
     cases vs with
     | nil=>simp at a
     | cons v vs=>
      unfold Jc at hl;split at hl
      .grind
      .rename_i k n r e;cases e;simp only[aq]at hl;obtain⟨g,f,rfl⟩:=hl;have h0:=h1 0 v _ rfl rfl;cases h0;rw[j vs g f (by simpa using a) (λi v d m o=>h1 (i+1) v d (by simpa using m) (by simpa using o))]
      .cases hl
   rw[key cs vs l hl a h1]
 .cases h
def z8:List Value->List Value->Bool
 | .int k a::x,.int k' b::y=>k == k'&&a == b&&z8 x y
 | [],[]=>bs
 | _,_=>b4
theorem adr{t:TypeId}{k:IntKind}(h:P.underlying t=aE (.int k)):qc P t=aE false:=by simp[qc,h]
theorem FO{k:IntKind}{ks:List IntKind}{vs:List Value}(h:uJ (k::ks) vs=bs):∃n a,vs = .int k n::a/\uJ ks a=true:=by
 cases vs with
 | nil=>cases h
 | cons v a=>
  cases v<;>simp[uJ]at h;obtain⟨rfl,h⟩:=h;exact⟨_,_,rfl,h⟩
theorem Ux{t:TypeId}{k a:IntKind}(h:P.underlying t=aE (.int k)){vs:List Value}{i:Nat}{n:Int}(b:vs[i]? = aE (.int a n)):(part t vs.toArray i).run P w = .ok (.int a n) w:=by simp[part,DO (adr h) w,b]
theorem Xx(d:Nat){vs us:List Value}:∀(fs:List Field) (i:Nat) (ks:List IntKind),Dn P i fs=aE ks->uJ ks (vs.drop i)=bs->uJ ks (us.drop i)=bs ->
  (Op.eqFields (d+1) vs.toArray us.toArray fs).run P w = .ok (z8 (vs.drop i) (us.drop i)) w
 | [],i,ks,h,hv,hu=>by
  cases h
  cases b:vs.drop i with
  | nil=>cases a:us.drop i with
   | nil=>rfl
   | cons y B=>rw[a]at hu;cases hu
  | cons x xr=>rw[b]at hv;cases hv
 | f::fs,i,ks,h,hv,hu=>by
  simp only[Dn]at h;split at h
  .rename_i k s c p;split at h
   .rename_i r;obtain⟨z,u⟩:=r;cases h;obtain⟨n,l,b,q⟩:=FO hv;obtain⟨m,o,a,t⟩:=FO hu;have A:vs[i]? = aE (.int k n):=by have:=congrArg (·[0]?) b;simpa using this
    have v:us[i]? = aE (.int k m):=by have:=congrArg (·[0]?) a;simpa using this
    have j:vs.drop (i+1)=l:=by rw[<-cz,b];rfl
    have g:us.drop (i+1)=o:=by rw[<-cz,a];rfl
    have e:=Xx d fs (i+1) s p (by rw[j];exact q) (by rw[g];exact t);rw[j,g]at e;rw[b,a];simp only[Op.eqFields,if_pos u,Sem.run_bind,z,Ux c A,Ux c v,Result.andThen_ok,run_equalIn_int w d f.type k k n m c,Sem.run_ite,e,z8];cases n == m<;>simp
   .cases h
  .cases h
theorem aaD{l:List IntKind}:∀ {a b:List Value},uJ l a=bs->uJ l b=bs->oY (.agg a.toArray) (.agg b.toArray)=z8 a b:=by
 induction l with
 | nil=>intro a b h1 c;cases a<;>cases b<;>simp[uJ]at h1 c;simp[oY,z8]
 | cons k ks d=>
  intro a b h1 c;obtain⟨n,i,rfl,f⟩:=FO h1;obtain⟨m,g,rfl,e⟩:=FO c;have h:=d f e;simp[oY,z8]at h ⊢;rw[<-h];cases n == m<;>cases i.l == g.l<;>simp
theorem adi:∀ {a b:List Value},z8 a b=bs->a=b
 | [],[],_=>rfl
 | .int k n::a,.int k' m::b,h=>by simp[z8]at h;obtain⟨⟨rfl,rfl⟩,h⟩:=h;rw[adi h]
 | [],_::_,h=>by simp[z8]at h
theorem acz(n:Nat):∀ {l:List IntKind} {a:List Value},uJ l a=bs->(a.zip a).all (λ(x,y)=>Instr.sameBits n x y)=bs
 | [],[],_=>rfl
 | k::l,v::a,h=>by obtain⟨m,r,e,h⟩:=FO h;cases e;simp only[List.zip_cons_cons,List.all_cons,acz n h];cases n<;>simp[Instr.sameBits]
def KC(P:Program)(t:TypeId)(d:TypeDesc)(kk:KK):Prop:=(∃k,d = .int k/\kk = .int k)\/(d = .string/\kk = .str)\/(d = .bool/\kk = .bool)\/∃fs l,d = .struct fs/\kk = .ints l/\Dn P 0 fs.toList=aE l/\P.stoodInHeld t=b4
theorem QL{t:TypeId}{kk:KK}(h:wC P t=aE kk):∃d,P.underlying t=aE d/\KC P t d kk:=by
 unfold wC at h;split at h
 .rename_i fs a;split at h
  .rename_i hs;obtain⟨l,hl,rfl⟩:=aq.1 h;exact⟨_,a,.inr (.inr (.inr ⟨fs,l,rfl,rfl,hl,hs⟩))⟩
  .cases h
 .rename_i k a;cases h;exact⟨_,a,.inl ⟨k,rfl,rfl⟩⟩
 .rename_i a;cases h;exact⟨_,a,.inr (.inl ⟨rfl,rfl⟩)⟩
 .rename_i a;cases h;exact⟨_,a,.inr (.inr (.inl ⟨rfl,rfl⟩))⟩
 .cases h
theorem ad1{t:TypeId}{k:IntKind}(h:P.underlying t=aE (.int k))(b:Bool)(n:Nat)(m:Int):(Instr.checkKey b (n+1) t (.int k m)).run P w = .ok () w:=by unfold Instr.checkKey;simp only[Sem.run_bind,run_underlying h,Result.andThen_ok];rfl
theorem run_checkKey{t:TypeId}{kk:KK}(h:wC P t=aE kk)(b:Bool){kv:Value}(c:kk.has kv=bs)(w:World):(Instr.checkKey b 10000 t kv).run P w = .ok () w:=by
 obtain⟨d,e,j⟩:=QL h;unfold Instr.checkKey;rcases j with⟨k,rfl,rfl⟩|⟨rfl,rfl⟩|⟨rfl,rfl⟩|⟨fs,l,rfl,rfl,a,_⟩
 .simp only[Sem.run_bind,run_underlying e,Result.andThen_ok];rfl
 .simp only[Sem.run_bind,run_underlying e,Result.andThen_ok];rfl
 .simp only[Sem.run_bind,run_underlying e,Result.andThen_ok];rfl
 .cases kv<;>simp[KK.has]at c;rename_i cs;obtain⟨vs⟩:=cs;simp only[Sem.run_bind,run_underlying e,Result.andThen_ok];rw[<-Array.forIn_toList];have h0:uJ l (vs.drop 0)=true:=by simpa using c
  clear c h;obtain⟨i,hi⟩:∃i,i=0:=⟨_,rfl⟩;rw[<-hi]at a h0;clear hi e;generalize fs.toList=fl at a ⊢
  induction fl generalizing i l with
  | nil=>simp
  | cons f fl r=>
   simp only[Dn]at a;split at a
   .rename_i k s c p;split at a
    .rename_i j;obtain⟨v,u⟩:=j;cases a;obtain⟨n,o,m,q⟩:=FO h0;have x:vs[i]? = aE (.int k n):=by have:=congrArg (·[0]?) m;simpa using this
     have y:vs.drop (i+1)=o:=by rw[<-cz,m];rfl
     have g:=r s (i+1) (by rw[y];exact q) p;rw[List.forIn_cons];simp only[if_pos u,Sem.run_bind,v,Ux c x,Result.andThen_ok,ad1 c,Sem.run_pure];exact g
    .cases a
   .cases a
def o8(kv:Value):List MapEntry->Nat->Option (Nat×Value)
 | [],_=>bb
 | e::es,i=>if oY kv e.key then aE (i,e.val)else o8 kv es (i+1)
theorem RN{d:TypeDesc}{kk:KK}(g:(∃k,d = .int k/\kk = .int k)\/(d = .string/\kk = .str)\/(d = .bool/\kk = .bool)){kv:Value}(b:kk.has kv=bs) :
  ∀(es:List MapEntry) (i:Nat),(∀e∈es,kk.has e.key=bs)->Instr.findNow d kv es i=aE (o8 kv es i):=by
 intro es
 induction es with
 | nil=>intro i _;rfl
 | cons e es f=>
  intro i h;have a:=h e gf;have c:=f (i+1) (λe a=>h e (by simp[a]));unfold Instr.findNow o8
  have hs:Instr.sameNow d kv e.key=aE (oY kv e.key):=by obtain⟨key,val,born⟩:=e;rcases g with⟨k,rfl,rfl⟩|⟨rfl,rfl⟩|⟨rfl,rfl⟩<;>cases kv<;>simp[KK.has]at b<;>cases key<;>simp[KK.has]at a<;>simp[Instr.sameNow,oY];subst b;subst a;simp
  rw[hs];cases oY kv e.key
  .grind
  .rfl
theorem Yj{t:TypeId}{fs:Array Field}{l:List IntKind}(d:P.underlying t=aE (.struct fs))(f:Dn P 0 fs.toList=aE l)(g:P.stoodInHeld t=b4){kv:Value}(b:(KK.ints l).has kv=bs)(w:World) :
  ∀(es:List MapEntry) (i:Nat),(∀e∈es,(KK.ints l).has e.key=bs)->(Instr.findAsking t kv es i).run P w = .ok (o8 kv es i) w
 | [],i,_=>rfl
 | e::es,i,h=>by
  have a:=h e gf;have k:=Yj d f g b w es (i+1) λe a=>h e (by simp[a]);have m:P.underlying t=aE (.struct (P.fieldsOf t)):=by unfold Program.fieldsOf;rw[d]
  have j:P.fieldsOf t=fs:=by unfold Program.fieldsOf;rw[d]
  obtain⟨key,val,born⟩:=e;cases kv<;>simp[KK.has]at b;cases key<;>simp[KK.has]at a;rename_i cs ds;obtain⟨vs⟩:=cs;obtain⟨us⟩:=ds;dsimp only at b a
  have c:(Op.equal t (.agg ⟨vs⟩) (.agg ⟨us⟩)).run P w = .ok (oY (.agg ⟨vs⟩) (.agg ⟨us⟩)) w:=by show(Op.equalIn 10000 t (.agg ⟨vs⟩) (.agg ⟨us⟩)).run P w=_;rw[run_equalIn_struct w 9999 t ⟨vs⟩ ⟨us⟩ m g,j,aaD b a];exact Xx 9998 (vs:=vs) (us:=us) fs.toList 0 l f (by simpa using b) (by simpa using a)
  unfold Instr.findAsking o8;simp only[Sem.run_bind,c,Result.andThen_ok,Sem.run_ite,k];cases oY (.agg ⟨vs⟩) (.agg ⟨us⟩)<;>simp
theorem run_findKey{t:TypeId}{kk:KK}(h:wC P t=aE kk){kv:Value}(f:kk.has kv=bs)(es:List MapEntry)(c:∀e∈es,kk.has e.key=bs)(w:World) :
  (Instr.findKey t kv es).run P w = .ok (o8 kv es 0) w:=by
 obtain⟨d,b,a⟩:=QL h;rcases a with a|a|a|⟨fs,l,rfl,rfl,g,j⟩
 .simp[Instr.findKey,run_underlying b,RN (.inl a) f es 0 c]
 .simp[Instr.findKey,run_underlying b,RN (.inr (.inl a)) f es 0 c]
 .simp[Instr.findKey,run_underlying b,RN (.inr (.inr a)) f es 0 c]
 .cases es with
  | nil=>simp[Instr.findKey,run_underlying b,Instr.findNow,o8]
  | cons e es=>
   have i:Instr.findNow (.struct fs) kv (e::es) 0=none:=by unfold Instr.findNow;cases kv<;>cases e.key<;>simp[Instr.sameNow]
   simp only[Instr.findKey,Sem.run_bind,run_underlying b,Result.andThen_ok,i];exact Yj b g j f w (e::es) 0 c
theorem aai:∀ {l:List IntKind} {vs:List Value},uJ l vs=bs->∀v∈vs,v.oneCell'=bs
 | [],[],_,v,hv=>by cases hv
 | k::ks,.int k' n::vs,h,v,hv=>by
  simp only[uJ,ai]at h;rcases ay.1 hv with rfl|hv
  .rfl
  .exact aai h.2 v hv
theorem acb{kk:KK}{v:Value}(h:kk.has v=bs):gq c w v (tW v):=by
 unfold tW;split
 .rename_i cs;cases kk<;>simp only[KK.has]at h<;>first|(cases h;done)|skip
  have:=gq.agg (c:=c) (w:=w) cs.toList (cs.toList.map .val) gf (aai h) (λi v d b a=>by
   simp only[ax,b,aK,av]at a;subst a
   exact .val _)
  simpa using this
 .exact .val _
theorem Uc{arr:Array MapEntry}{a:Nat}{es:List (Value×D)}(b:G4 c w arr a es){kk:KK}(d:∀x∈es,kk.has x.1=bs):∀e∈arr.toList,kk.has e.key=true:=by
 intro e f;obtain⟨i,hi⟩:=aH.1 f;have hl:i<es.l:=by rw[<-b.1];have:=(ae.1 hi).1;simpa using this
 obtain⟨h1,_⟩:=b.2.1 i e es[i] (by simpa using hi) (by simp[hl]);rw[h1];exact d _ (bU hl)
theorem H6(kv:Value):∀(l:List MapEntry) (es:List (Value×D)) (i:Nat),l.l=es.l ->
  (∀(j:Nat) (e:MapEntry) (x:Value×D),l[j]? = aE e->es[j]? = aE x->e.key=x.1/\gq c w e.val x.2) ->
  (o8 kv l i=bb/\sP es kv=bb/\∀y,np es kv y=es ++ [(kv,y)]) \/
  (∃j v d,o8 kv l i=aE (i+j,v)/\sP es kv=aE d/\gq c w v d/\j<l.l/\(∀y,np es kv y=es.set j (kv,y))/\∃e,l[j]? = aE e/\oY kv e.key=bs)
 | [],[],i,_,_=>.inl ⟨rfl,rfl,λ_=>rfl⟩
 | e::l,(k,d)::es,i,hl,h=>by
  obtain⟨f,n⟩:=h 0 e (k,d) rfl rfl;dsimp only at f n
  by_cases a:oY kv e.key=bs
  .refine .inr ⟨0,e.val,d,by simp[o8,a],by simp[sP,<-f,a],n,gf,λy=>by simp[np,<-f,a],e,rfl,a⟩
  .have b:oY kv k=false:=by rw[<-f];simpa using a
   rcases H6 kv l es (i+1) (by simpa using hl) (λj e x a o=>h (j+1) e x (by simpa using a) (by simpa using o))with⟨h1,m,g⟩|⟨j,v,d',h1,m,g,t,r,s,q,p⟩
   .exact .inl ⟨by simp[o8,a,h1],by simp[sP,b,m],λy=>by simp[np,b,g]⟩
   .exact .inr ⟨j+1,v,d',by simp[o8,a,h1];omega,by simp[sP,b,m],g,gO,λy=>by simp[np,b,r],s,by simpa using q,p⟩
theorem anX(h:gL G c H w){t k e:TypeId}{kk:KK}{z:D}(S:P.underlying t=aE (.map k e))(F:wC P k=aE kk)(s:Gx P e=aE z)(ok:Bool){m x:D}{u v:Value}(h1:gq c w u m)(V:gq c w v x)
  (g:Jj kk z ok m x H K):∃r,(Instr.lookup t u v ok).run P w = .ok r w/\jJ G c H w K r w:=by
 have o:∃n,(zeroValue e).run P w = .ok n w/\gq c w n z:=by
  unfold Gx at s
  cases hi:P.info? e with
  | none=>simp[hi]at s
  | some i=>
   simp only[hi,dx]at s
   cases C:i.zero with
   | none=>simp[C]at s
   | some n=>
    simp only[C,dx]at s;exact⟨n,by simp[zeroValue,run_typeInfo hi,C],UL s⟩
 obtain⟨n,J,I⟩:=o;unfold Jj at g;split at g
 .rename_i v0 kv X;split at g
  .rename_i Z es Q;obtain⟨rfl,E,g⟩:=g;have f:=TR V X;subst f
   cases h1 with
   | gM _ L W iG=>
    have A:=h.ob v0 _ (vu Q);simp only[Ob.gen]at A;rw[W]at A;simp only[iy]at A;obtain⟨_,M,arr,q,T,B⟩:=A;have Y:=run_findKey F E arr.toList (Uc B M) w;have N:=run_checkKey (w:=w) F arr.isEmpty E
    have y:(Instr.lookup t (.map (aE L.b)) v ok).run P w=((match o8 v arr.toList 0 with
      | some (_,v)=>Result.ok (v,bs) w
      | none=>Result.ok (n,b4) w:Result (Value×Bool)).andThen λp w=>.ok (if ok then .tuple #[p.1,.bool p.2]else p.1) w):=by
     have O:(getObj L.b).run P w = .ok (.map arr q) w:=by simp[getObj,Sem.run,T]
     simp only[Instr.lookup,Sem.run_bind,run_underlying S,Result.andThen_ok,O,Sem.run_pure,N,Y]
     cases o8 v arr.toList 0 with
     | none=>simp[J]
     | some p=>obtain⟨_,_⟩:=p;simp
    rcases H6 (c:=c) (w:=w) v arr.toList es 0 (by simpa using B.1) (λj e x U R=>let ⟨a,b,_⟩:=B.2.1 j e x (by simpa using U) R;⟨a,b⟩)with⟨f1,f2,_⟩|⟨j,val,d,f1,f2,f3,_⟩
    .rw[f1]at y;rw[f2]at g;refine⟨_,y,.plain h g ?_⟩;cases ok
     .exact I
     .exact .tup [n,.bool b4] [z,.val (.bool b4)] rfl (λi v d f l=>by
       match i with
       | 0=>simp at f l;subst f;subst l;exact I
       | 1=>simp at f l;subst f;subst l;exact .val _
       | i+2=>simp at f)
    .rw[f1]at y;rw[f2]at g;refine⟨_,y,.plain h g ?_⟩;cases ok
     .exact f3
     .exact .tup [val,.bool bs] [d,.val (.bool bs)] rfl (λi v d' f l=>by
       match i with
       | 0=>simp at f l;subst f;subst l;exact f3
       | 1=>simp at f l;subst f;subst l;exact .val _
       | i+2=>simp at f)
  .exact g.elim
 .grind
theorem apm{kk:KK}(a:kk = .str\/kk = .bool\/∃k,kk = .int k){old new:Value}(h1:kk.has new=bs)(b:kk.has old=bs)(h:oY new old=bs):Instr.sameBits 10000 old new=true:=by
 rcases a with rfl|rfl|⟨k,rfl⟩<;>cases new<;>simp[KK.has]at h1<;>cases old<;>simp[KK.has]at b<;>simp[oY]at h<;>simp[Instr.sameBits]
 .rename_i x y;obtain⟨x⟩:=x;obtain⟨y⟩:=y;have c:(x == y)=true:=h;have e:=eq_of_beq c;subst e;exact h
 .exact h.symm
 .grind
theorem acy{kk:KK}(b:(kk = .str\/kk = .bool\/∃k,kk = .int k)\/∃l,kk = .ints l){old new:Value}(h1:kk.has new=bs)(a:kk.has old=bs)(h:oY new old=bs):Instr.sameBits 10000 old new=true:=by
 rcases b with b|⟨l,rfl⟩
 .exact apm b h1 a h
 .cases new<;>simp[KK.has]at h1;cases old<;>simp[KK.has]at a;rename_i cs ds;obtain⟨vs⟩:=cs;obtain⟨us⟩:=ds;dsimp only at h1 a;have e:=adi ((aaD h1 a).symm.trans h);subst e;have:=acz 9999 h1;simp only[Instr.sameBits,beq_self_eq_true,dz];exact this
theorem BW{G:GT}{c:Ctx}{H:gg}{w:World}(h:gL G c H w){v:Nat}{ob ob':Ob}(e:H[v]? = aE ob)(f:ob.alive=bs)(i:ob'.alive=bs)(m:ob'.gen=ob.gen){L:Loc}(g:c.ι v ob.gen=aE L)(a:L.ko=b4)(o':Obj)
  (j:∀w',w'.heap[L.b]? = aE o'->(∀u d,gq c w u d->gq c w' u d)->iy c w' (aE L) ob') :
  gL G c (H.set v ob') { w with heap:=w.heap.setIfInBounds L.b o' }/\Step H.l c H w c (H.set v ob') { w with heap:=w.heap.setIfInBounds L.b o' }:=by
 have l:=h.lt _ ⟨v,L,⟨ob,e,f,g⟩,a,rfl⟩;refine ada (w':={ w with heap:=w.heap.setIfInBounds L.b o' }) h e f i m g a ⟨rfl,eh _⟩ rfl rfl gf (λb k=>?_) (j _ (by simp[l]));rw[cU (cH k)]
theorem abb{es:List (Value×D)}{kv:Value}{y:D}:∀x∈np es kv y,x∈es\/x=(kv,y):=by
 induction es with
 | nil=>intro x a;simp[np]at a;exact .inr a
 | cons e es b=>
  intro x a;obtain⟨k,d⟩:=e;simp only[np]at a;split at a
  .grind
  .grind
theorem abF(h:gL G c H w){t k e:TypeId}{kk:KK}(V:P.underlying t=aE (.map k e))(O:wC P k=aE kk){m x y:D}{u v z:Value}(h1:gq c w u m)(h2:gq c w v x)(W:gq c w z y)
  (s:Jm kk m x y H K):∃w',(Instr.mapUpdate t u v z).run P w = .ok () w'/\jJ G c H w K undef w':=by
 have Tf:(kk = .str\/kk = .bool\/∃k,kk = .int k)\/∃l,kk = .ints l:=by
  obtain⟨d,_,hc⟩:=QL O;rcases hc with⟨k,_,rfl⟩|⟨_,rfl⟩|⟨_,rfl⟩|⟨_,l,_,rfl,_⟩
  .grind
  .grind
  .grind
  .grind
 unfold Jm at s;split at s
 .rename_i v0 kv IF;split at s
  .rename_i C es Q;obtain⟨rfl,B,s⟩:=s;have hv:=TR h2 IF;subst hv
   cases h1 with
   | gM _ L S E=>
    have F:=h.ob v0 _ (vu Q);simp only[Ob.gen]at F;rw[S]at F;simp only[iy]at F;obtain⟨_,vc,arr,f,I,n⟩:=F;have X:=Uc n vc;have Z:=run_findKey O B arr.toList X w;have U:=run_checkKey (w:=w) O b4 B
    have Y:∀T,∀x∈np es v T,C.has x.1=true:=λT x g=>by
     rcases abb x g with h|rfl
     .grind
     .exact B
    rcases H6 (c:=c) (w:=w) v arr.toList es 0 (by simpa using n.1) (λj e x o g=>let ⟨a,b,_⟩:=n.2.1 j e x (by simpa using o) g;⟨a,b⟩)with⟨f1,f2,f3⟩|⟨j,val,d,f1,f2,_,f4,f5,J,f6,f7⟩
    .have R:(Instr.mapUpdate t (.map (aE L.b)) v z).run P w = .ok () { w with heap:=w.heap.setIfInBounds L.b (.map (arr.push { key:=v,val:=z,born:=f }) (f+1)) }:=by
      have N:(getObj L.b).run P w = .ok (.map arr f) w:=by simp[getObj,Sem.run,I]
      simp only[Instr.mapUpdate,Sem.run_bind,run_underlying V,Result.andThen_ok,N,U,Z,f1];simp[setObj,Sem.run,I]
     obtain⟨m1,m2⟩:=BW h (vu Q) rfl rfl rfl S E (.map (arr.push { key:=v,val:=z,born:=f }) (f+1)) (ob':=.map C (np es v y)) (by
      intro w' M A;simp only[iy];refine⟨E,Y y,_,_,M,?_⟩;rw[f3];refine⟨by simp[n.1],λi e x o g=>?_,by simp[n.2.2]⟩;rw[eQ]at o;split at o
      .rename_i hi;cases o;rw[ak (by rw[hi,n.1];exact eh _),hi,n.1]at g;simp at g;subst g;exact⟨rfl,A _ _ W,by rw[hi,n.1,n.2.2]⟩
      .have hi:i<es.l:=by rw[<-n.1];exact(aU.1 o).1
       rw[ah hi]at g;obtain⟨p,q,r⟩:=n.2.1 i e x o g
       exact⟨p,A _ _ q,r⟩)
     exact⟨_,R,.any,_,c,s,m1,.any _,m2⟩
    .have oK:j<arr.size:=by simpa using f4
     have tP:arr[j]? = aE J:=by simpa using f6
     have SV:C.has J.key=true:=X J (List.mem_of_getElem? f6)
     have Tq:(Instr.keyThatStays J.key v).run P w = .ok v w:=by simp[Instr.keyThatStays,acy Tf B SV f7]
     have R:(Instr.mapUpdate t (.map (aE L.b)) v z).run P w = .ok () { w with heap:=w.heap.setIfInBounds L.b (.map (arr.modify j λe=>{ e with key:=v,val:=z }) f) }:=by
      have N:(getObj L.b).run P w = .ok (.map arr f) w:=by simp[getObj,Sem.run,I]
      simp only[Instr.mapUpdate,Sem.run_bind,run_underlying V,Result.andThen_ok,N,U,Z,f1,aV,tP,aK,a7,Tq];simp[setObj,Sem.run,I]
     obtain⟨m1,m2⟩:=BW h (vu Q) rfl rfl rfl S E (.map (arr.modify j λe=>{ e with key:=v,val:=z }) f) (ob':=.map C (np es v y)) (by
      intro w' M A;simp only[iy];refine⟨E,Y y,_,_,M,?_⟩;rw[f5];refine⟨by simp[n.1],λi e x o g=>?_,by simp[n.2.2]⟩
      .rw[bk]at o;rw[bX]at g;split at o
       .rename_i hi;subst hi;rw[if_pos rfl]at g;simp only[aq]at o;obtain⟨e0,h0,rfl⟩:=o;split at g
        .cases g;have hj:j<es.l:=by rw[<-n.1];exact oK
         exact⟨rfl,A _ _ W,(n.2.1 j e0 es[j] h0 (by simp[hj])).2.2⟩
        .cases g
       .rename_i hi;rw[if_neg hi]at g;obtain⟨p,q,r⟩:=n.2.1 i e x o g
        exact⟨p,A _ _ q,r⟩)
     exact⟨_,R,.any,_,c,s,m1,.any _,m2⟩
  .exact s.elim
 .exact s.elim
end
section
variable{P:Program}{G:GT}{c:Ctx}{H:gg}{w:World}{K:kd}{env:il}{a:Act}
theorem aaM{t:TypeId}{l:nI}(hl:zK P t=aE l)(d:Nat){x y:D}{u v:Value}(h1:gq c w u x)(b:gq c w v y){r:Bool}(h:vV l x y=aE r):(Op.equalIn (d+1) t u v).run P w = .ok r w:=by
 unfold vV at h;split at h
 .rename_i k m f n;cases h1;cases b;split at h
  .rename_i e;subst e;cases h;unfold zK at hl;split at hl
   .rename_i k0 a;exact run_equalIn_int w d t k k0 m n a
   .cases hl
   .cases hl
   .cases hl
  .cases h
 .cases h1;cases b;cases h;unfold zK at hl;split at hl
  .cases hl
  .cases hl
  .rename_i a;exact run_equalIn_bool' w d t _ _ a
  .cases hl
 .cases h1;cases b;cases h;rename_i p q;unfold zK at hl;split at hl
  .cases hl
  .rename_i a;have:=run_equalIn_string (P:=P) w d t p q a;rw[ByteArray.toList_eq,ByteArray.toList_eq]at this;exact this
  .cases hl
  .cases hl
 .cases h
theorem aaL{t:TypeId}{l:nI}(hl:zK P t=aE l):qc P t=aE false:=by unfold zK at hl;unfold qc;split at hl<;>first|(rename_i a;simp[a])|(rename_i k a;simp[a])|cases hl
theorem Xy(d:Nat){vs us:List Value}{xs a:List D}(k:Cells c w vs xs)(j:Cells c w us a):∀(fs:List Field) (i:Nat) (ls:List nI) (r:Bool),Oc P i fs=aE ls->nL ls (xs.drop i) (a.drop i)=aE r ->
  (Op.eqFields (d+1) vs.toArray us.toArray fs).run P w = .ok r w
 | [],i,ls,r,he,hc=>by
  cases he;unfold nL at hc;split at hc
  .cases hc;rfl
  .grind
  .cases hc
 | f::fs,i,ls,r,he,hc=>by
  simp only[Oc]at he;split at he
  .rename_i l g hl s;split at he
   .rename_i A;obtain⟨n,I⟩:=A;cases he
    cases b:xs.drop i with
    | nil=>rw[b]at hc;simp[nL]at hc
    | cons x xr=>
     cases e:a.drop i with
     | nil=>rw[b,e]at hc;simp[nL]at hc
     | cons y o=>
      rw[b,e]at hc;simp only[nL]at hc;split at hc
      .rename_i p q G F;cases hc;have M:xs[i]? = aE x:=by have:=congrArg (·[0]?) b;simpa using this
       have J:a[i]? = aE y:=by have:=congrArg (·[0]?) e;simpa using this
       have N:xs.drop (i+1)=xr:=by rw[<-cz,b];rfl
       have L:a.drop (i+1)=o:=by rw[<-cz,e];rfl
       obtain⟨u,E,_,H⟩:=k.get M;obtain⟨v,C,_,K⟩:=j.get J;have B:=Xy d k j fs (i+1) g q s (by rw[N,L];exact F);have h:=aaM (w:=w) hl d H K G;have m:=DO (aaL hl) w;have t:(part f.type vs.toArray f.offset).run P w = .ok u w:=by simp[part,m,n,E]
       have z:(part f.type us.toArray f.offset).run P w = .ok v w:=by simp[part,m,n,C]
       simp only[Op.eqFields,if_pos I,Sem.run_bind,t,z,Result.andThen_ok,h,Sem.run_ite,B];cases p<;>simp
      .cases hc
   .cases he
  .cases he
theorem Xz{e:TypeId}{l:nI}(hl:zK P e=aE l)(d:Nat){vs us:List Value}{xs a:List D}(j:Cells c w vs xs)(h:Cells c w us a):∀(n i:Nat) (r:Bool),nL (cj n l) (xs.drop i) (a.drop i)=aE r ->
  (Op.eqItems (d+1) e 1 vs.toArray us.toArray (List.range' i n)).run P w = .ok r w
 | 0,i,r,hc=>by
  unfold nL at hc;split at hc
  .cases hc;rfl
  .grind
  .cases hc
 | n+1,i,r,hc=>by
  rw[bw]at hc
  cases b:xs.drop i with
  | nil=>rw[b]at hc;simp[nL]at hc
  | cons x xr=>
   cases f:a.drop i with
   | nil=>rw[b,f]at hc;simp[nL]at hc
   | cons y m=>
    rw[b,f]at hc;simp only[nL]at hc;split at hc
    .rename_i p q C B;cases hc;have I:xs[i]? = aE x:=by have:=congrArg (·[0]?) b;simpa using this
     have F:a[i]? = aE y:=by have:=congrArg (·[0]?) f;simpa using this
     have J:xs.drop (i+1)=xr:=by rw[<-cz,b];rfl
     have H:a.drop (i+1)=m:=by rw[<-cz,f];rfl
     obtain⟨u,A,_,E⟩:=j.get I;obtain⟨v,z,_,G⟩:=h.get F;have t:=Xz hl d j h n (i+1) q (by rw[J,H];exact B);have g:=aaM (w:=w) hl d E G C;have k:=DO (aaL hl) w;have o:(part e vs.toArray (i*1)).run P w = .ok u w:=by simp[part,k,A]
     have s:(part e us.toArray (i*1)).run P w = .ok v w:=by simp[part,k,z]
     rw[cS];simp only[Op.eqItems,Sem.run_bind,o,s,Result.andThen_ok,g,Sem.run_ite,t];cases p<;>simp
    .cases hc
theorem abE(h:gL G c H w){t:TypeId}{ls:List nI}(d:Od P t=aE ls)(neg:Bool){x y:D}{u v:Value}(h1:gq c w u x)(E:gq c w v y)(a:yd bs ls neg x y H K)(xo f:Operand) :
  ∃r,(do eqGuard (if neg then .neq else .eql) t xo f u v;binOp (if neg then .neq else .eql) t u v).run P w = .ok r w/\jJ G c H w K r w:=by
 unfold Od at d;split at d
 .rename_i fs i;split at d
  .rename_i g;have L:P.underlying t=aE (.struct (P.fieldsOf t)):=by unfold Program.fieldsOf;rw[i]
   have F:P.fieldsOf t=fs:=by unfold Program.fieldsOf;rw[i]
   have o:∃cs ds,x = .agg cs/\y = .agg ds:=by
    unfold yd at a;split at a
    .grind
    .contradiction
    .exact a.elim
   obtain⟨cs,ds,rfl,rfl⟩:=o;simp only[yd]at a;split at a
   .rename_i r p
    cases h1 with
    | agg vs _ j C z=>
     cases E with
     | agg us _ k s q=>
      have B:Cells c w vs cs:=⟨j,C,z⟩;have A:Cells c w us ds:=⟨k,s,q⟩;have m:=Xy (P:=P) 9998 B A fs.toList 0 ls r d (by simpa using p)
      have b:(Op.equalIn 10000 t (.agg vs.toArray) (.agg us.toArray)).run P w = .ok r w:=by rw[run_equalIn_struct w 9999 t vs.toArray us.toArray L g.1,F];exact m
      cases neg
      .simp only[bG,if_false,Sem.run_bind,run_eqGuard_agg w .eql t xo f vs.toArray us.toArray g.2,Result.andThen_ok,run_eql_struct,b];exact⟨_,rfl,.val h (by simpa using a)⟩
      .simp only[if_true,Sem.run_bind,run_eqGuard_agg w .neq t xo f vs.toArray us.toArray g.2,Result.andThen_ok,run_neq_struct,b];exact⟨_,rfl,.val h (by simpa using a)⟩
   .exact a.elim
  .cases d
 .rename_i n e i;split at d
  .rename_i g;obtain⟨hg,I,hi⟩:=g;obtain⟨J,hi⟩:=dt.1 hi;obtain⟨l,hl,rfl⟩:=aq.1 d
   have o:∃cs ds,x = .agg cs/\y = .agg ds:=by
    unfold yd at a;split at a
    .grind
    .contradiction
    .exact a.elim
   obtain⟨cs,ds,rfl,rfl⟩:=o;simp only[yd]at a;split at a
   .rename_i r p
    cases h1 with
    | agg vs _ j C z=>
     cases E with
     | agg us _ k s q=>
      have B:Cells c w vs cs:=⟨j,C,z⟩;have A:Cells c w us ds:=⟨k,s,q⟩;have m:=Xz (P:=P) (w:=w) hl 9998 B A n 0 r (by simpa using p)
      have b:(Op.equalIn 10000 t (.agg vs.toArray) (.agg us.toArray)).run P w = .ok r w:=by rw[run_equalIn_array (w:=w) 9999 vs.toArray us.toArray i hi,I,cV];exact m
      cases neg
      .simp only[bG,if_false,Sem.run_bind,run_eqGuard_agg w .eql t xo f vs.toArray us.toArray hg,Result.andThen_ok,run_eql_struct,b];exact⟨_,rfl,.val h (by simpa using a)⟩
      .simp only[if_true,Sem.run_bind,run_eqGuard_agg w .neq t xo f vs.toArray us.toArray hg,Result.andThen_ok,run_neq_struct,b];exact⟨_,rfl,.val h (by simpa using a)⟩
   .exact a.elim
  .cases d
 .cases d
theorem abD(h:gL G c H w){t:TypeId}(k:P.underlying t=aE .bool)(neg:Bool){x y:D}{u v:Value}(h1:gq c w u x)(m:gq c w v y)(f:yd b4 [.bool] neg x y H K)(xo j:Operand) :
  ∃r,(do eqGuard (if neg then .neq else .eql) t xo j u v;binOp (if neg then .neq else .eql) t u v).run P w = .ok r w/\jJ G c H w K r w:=by
 simp only[yd]at f;split at f
 .rename_i r d;simp only[nL]at d;split at d
  .rename_i p q e l;cases l;cases d;unfold vV at e;split at e
   .contradiction
   .cases h1;cases m;cases e;rename_i b g _;have a:=run_equalIn_bool' (P:=P) w 9999 t b g k;have i:Op.equal t (.bool b) (.bool g)=Op.equalIn 10000 t (.bool b) (.bool g):=rfl;cases neg
    .exact⟨_,by simp[eqGuard,binOp,i,a]<;>rfl,.val h (by simpa using f)⟩
    .exact⟨_,by simp[eqGuard,binOp,i,a]<;>rfl,.val h (by simpa using f)⟩
   .contradiction
   .cases e
  .cases d
 .grind
theorem Qm{f:FuncId}(h:uu P f=bs)(args:Array Value)(w:World):(callFunc f args).run P w = .ok (.enter f args) w:=by
 unfold uu at h;split at h
 .rename_i fn b;simp only[ai,bne_iff_ne,ne_eq]at h;have a:fn.body.isNone=false:=by cases a:fn.body<;>simp[a]at h ⊢
  simp[callFunc,b,h.1];intro e;rw[e]at a;cases a
 .cases h
end
section
variable{P:Program}{G:GT}{c:Ctx}{H:gg}{w:World}{K:kd}{env:il}{a:Act}
def Et(r:Result Next)(v:Value)(w':World):Prop:=r = .ok (.value v) w'\/(r = .ok .skip w'/\v=undef)
theorem kh{s:Sem Value}{v:Value}{w':World}(h:s.run P w = .ok v w'):Et ((do pure (.value (<-s)):Sem Next).run P w) v w':=.inl (by simp[h])
theorem Kg{s:Sem Unit}{w':World}(h:s.run P w = .ok () w'):Et ((do s;pure .skip:Sem Next).run P w) undef w':=.inr ⟨by simp[h],rfl⟩
theorem anK(h:gL G c H w){s d:TypeId}{sd:TypeDesc}{k:IntKind}(hs:P.underlying s=aE sd)(b:P.underlying d=aE (.int k)){x:D}{u:Value}(h1:gq c w u x)
  (a:HH k x H K):∃r,(convert s d u).run P w = .ok r w/\jJ G c H w K r w:=by
 unfold HH at a;split at a
 .rename_i f n;cases h1;have e:P.intKind d=k:=by simp[Program.intKind,b]
  have:=run_convert_int (P:=P) w s d f n (by rw[hs];rfl) (by rw[e];exact b);rw[e]at this;exact⟨_,this,.val h a⟩
 .exact a.elim
theorem an3(h:gL G c H w){o:Oper}{x:Operand}(l:o.op = .nilCheck x){d:D}(h1:gq c w (a.eval x) d)
  (g:Js d H K):∃v w',Et ((execOp a.eval o).run P w) v w'/\jJ G c H w K v w':=by
 have key:∀v,a.eval x=v->(match v with | .pointer (aE _)=>True | .func (.func _) _ _=>True | .func (.yield _) _ _=>True|_=>False)->Et ((execOp a.eval o).run P w) v w:=by intro v i m;refine .inl ?_;simp only[execOp,l,i];split at m<;>simp_all
 generalize i:a.eval x=v at h1;unfold Js at g;split at g
 .cases h1 with
  | ptr _ _ _ L k j=>exact⟨_,w,key _ i trivial,.plain h g (.ptr _ _ _ L k j)⟩
 .obtain⟨b,p,e,u,t⟩:=AD h1;subst e;exact⟨_,w,key _ i trivial,.plain h g h1⟩
 .cases h1 with
  | fn f fs cs y z s r q n=>exact⟨_,w,key _ i trivial,.plain h g (.fn _ fs cs _ _ s r q n)⟩
 .cases h1 with
  | jt _ L k j=>exact⟨_,w,key _ i trivial,.plain h g (.jt _ L k j)⟩
 .exact g.elim
theorem UM{l:Array Operand}{xs:List D}(h:j' c w (l.toList.map a.eval) xs):∃vs:List Value,l.map a.eval=vs.toArray/\j' c w vs xs:=
 ⟨_,by cases l;simp,h⟩
theorem yI{o:Oper}{cl:Call}(c:o.op = .call cl){b:Builtin}(d:cl.callee = .builtin b):(execOp a.eval o).run P w=(builtin b cl.argTypes o.type (cl.args.map λ| .const _=>bs|_=>b4) (cl.args.map a.eval)).run P w:=by simp only[execOp,c,resolve,d,Sem.run_bind,Sem.run_pure,Result.andThen_ok,invoke];rfl
theorem abY(h:gL G c H w)(B:lO c w env a){al:Al}(iF:oD H al){o:Oper}{io:jh}(g:oR P G o=aE io)(A:Ha env H al K io) :
  ∃v w',Et ((execOp a.eval o).run P w) v w'/\jJ G c H w K v w':=by
 unfold oR at g
 cases p:o.op with
 | move x=>
  simp only[p,aF,ag,aI,av]at g;obtain⟨X,hX,rfl⟩:=g;exact⟨_,w,.inl (by simp only[execOp,p];rfl),.plain h A (jj h B hX)⟩
 | assign x=>
  simp only[p,aF,ag,aI,av]at g;obtain⟨X,hX,rfl⟩:=g;exact⟨_,w,.inl (by simp only[execOp,p];rfl),.plain h A (jj h B hX)⟩
 | pick x y z=>
  simp only[p,aF,ag,aI,av]at g;obtain⟨X,hX,Y,F,Z,hZ,rfl⟩:=g;obtain⟨b,J,j⟩:=an4 h (jj h B hX) (jj h B F) (jj h B hZ) A;exact⟨_,w,.inl (by simp[execOp,p,J];rfl),j⟩
 | box e x=>
  simp only[p,aF,ag,aI,av]at g;obtain⟨X,hX,rfl⟩:=g;obtain⟨r,w',U,j⟩:=anE (P:=P) h iF e (jj h B hX) A;exact⟨r,w',by simp only[execOp,p];exact kh U,j⟩
 | alloc e=>
  simp only[p,aF,ag,aI,av]at g;obtain⟨z,O,rfl⟩:=g;obtain⟨r,w',U,j⟩:=anz (P:=P) h iF O A;exact⟨r,w',by simp only[execOp,p];exact kh U,j⟩
 | build t ps=>
  simp only[p,aF,ag]at g;obtain⟨z,O,l,hl,g⟩:=g;split at g
  .rename_i fs C;split at g
   .rename_i hf;simp only[ag,aI,av]at g;obtain⟨qs,hq,rfl⟩:=g;obtain⟨r,U,j⟩:=anF h B O hl C hf hq A;exact⟨r,w,by simp only[execOp,p];exact kh U,j⟩
   .cases g
  .rename_i n e C;simp only[ag,aI,av]at g;obtain⟨sz,hs,rfl⟩:=g;obtain⟨r,U,j⟩:=anG h B O hl C hs A;exact⟨r,w,by simp only[execOp,p];exact kh U,j⟩
  .cases g
 | buildSlice t n ps=>
  simp only[p,aF,ag]at g;obtain⟨S,C,g⟩:=g;split at g
  .rename_i e;simp only[ag]at g;obtain⟨z,O,sz,hs,l,hl,g⟩:=g;split at g
   .rename_i T;cases g;obtain⟨r,w',U,j⟩:=anH (P:=P) h iF B C O hs hl T.1 T.2.1 T.2.2 A;exact⟨r,w',by simp only[execOp,p];exact kh U,j⟩
   .cases g
  .cases g
 | load t x=>
  simp only[p,aF,ag]at g;obtain⟨X,hX,n,E,b,J,g⟩:=g;cases b
  .cases g;obtain⟨v,q,j⟩:=anV h J (jj h B hX) A;exact⟨v,w,by simp only[execOp,p];exact kh q,j⟩
  .cases g;obtain⟨v,q,j⟩:=anW h J E (jj h B hX) A;exact⟨v,w,by simp only[execOp,p];exact kh q,j⟩
 | store t x y=>
  simp only[p,aF,ag]at g;obtain⟨X,hX,Y,F,n,E,b,J,g⟩:=g;cases b
  .simp only[bG,if_false]at g;split at g
   .rename_i e;subst e;cases g;obtain⟨w',q,j⟩:=aoa h E (jj h B hX) (jj h B F) A;exact⟨_,w',by simp only[execOp,p];exact Kg q,j⟩
   .cases g
  .cases g;obtain⟨w',q,j⟩:=aob h E (jj h B hX) (jj h B F) A;exact⟨_,w',by simp only[execOp,p];exact Kg q,j⟩
 | nilCheck x=>
  simp only[p,aF,ag,aI,av]at g;obtain⟨X,hX,rfl⟩:=g;exact an3 h p (jj h B hX) A
 | binOp op t x y yt=>
  simp only[p,aF,ag]at g;obtain⟨X,hX,Y,F,g⟩:=g;have I:=jj h B hX;have Q:=jj h B F;split at g
  .split at g
   .rename_i J;cases g;obtain⟨v,q,j⟩:=abD (P:=P) h (by unfold NG at J;split at J<;>first|assumption|cases J) b4 I Q A x y;exact⟨v,w,by simp only[execOp,p];exact kh q,j⟩
   .split at g
    .cases g;obtain⟨v,q,j⟩:=Ut (P:=P) h I Q A t x y;exact⟨v,w,by simp only[execOp,p];exact kh q,j⟩
    .simp only[ag,aI,av]at g;obtain⟨ls,xt,rfl⟩:=g;obtain⟨v,q,j⟩:=abE (P:=P) h xt b4 I Q A x y;exact⟨v,w,by simp only[execOp,p];exact kh q,j⟩
  .split at g
   .rename_i J;cases g;obtain⟨v,q,j⟩:=abD (P:=P) h (by unfold NG at J;split at J<;>first|assumption|cases J) bs I Q A x y;exact⟨v,w,by simp only[execOp,p];exact kh q,j⟩
   .split at g
    .cases g;obtain⟨v,q,j⟩:=Ut (P:=P) h I Q A t x y;exact⟨v,w,by simp only[execOp,p];exact kh q,j⟩
    .simp only[ag,aI,av]at g;obtain⟨ls,xt,rfl⟩:=g;obtain⟨v,q,j⟩:=abE (P:=P) h xt bs I Q A x y;exact⟨v,w,by simp only[execOp,p];exact kh q,j⟩
  .cases g;obtain⟨v,q,j⟩:=Ut (P:=P) h I Q A t x y;exact⟨v,w,by simp only[execOp,p];exact kh q,j⟩
 | unOp op t x=>
  simp only[p,aF,ag,aI,av]at g;obtain⟨X,hX,rfl⟩:=g;obtain⟨v,q,j⟩:=aoc (P:=P) h (jj h B hX) A;exact⟨v,w,by simp only[execOp,p];exact kh q,j⟩
 | convert s d x=>
  simp only[p,aF,ag]at g;obtain⟨X,hX,sd,hs,g⟩:=g;split at g
  .rename_i k hd;cases g;obtain⟨v,q,j⟩:=anK (P:=P) h hs hd (jj h B hX) A;exact⟨v,w,by simp only[execOp,p];exact kh q,j⟩
  .rename_i hd;simp only[ag]at g;obtain⟨b5,mG,g⟩:=g;split at g
   .rename_i e;simp only[ag]at g;obtain⟨ed,b',g⟩:=g;split at g
    .cases g;obtain⟨v,q,j⟩:=anD (P:=P) h mG b' hd (jj h B hX) A;exact⟨v,w,by simp only[execOp,p];exact kh q,j⟩
    .cases g
   .cases g
  .cases g
 | makeFunc f first cap=>
  simp only[p,aF,ag,aI,av]at g;obtain⟨X,hX,Y,F,rfl⟩:=g;exact⟨_,w,.inl (by simp[execOp,p,Instr.makeFunc]),anZ h B hX F A⟩
 | makeMap t r=>
  cases r with
  | some r=>simp[p]at g
  | none=>
   simp only[p,aF,ag]at g;obtain⟨S,C,g⟩:=g;split at g
   .simp only[ag,aI,av]at g;obtain⟨kk,lK,rfl⟩:=g;obtain⟨v,w',q,j⟩:=an0 (P:=P) h iF t kk A;exact⟨v,w',by simp only[execOp,p];exact kh q,j⟩
   .cases g
 | lookup t x i ok=>
  simp only[p,aF,ag]at g;obtain⟨S,C,g⟩:=g;split at g
  .simp only[ag,aI,av]at g;obtain⟨z,O,kk,lK,X,hX,Y,F,rfl⟩:=g;obtain⟨v,q,j⟩:=anX (P:=P) h C lK O ok (jj h B hX) (jj h B F) A;exact⟨v,w,by simp only[execOp,p];exact kh q,j⟩
  .cases g
 | mapUpdate t m k x=>
  simp only[p,aF,ag]at g;obtain⟨S,C,g⟩:=g;split at g
  .simp only[ag,aI,av]at g;obtain⟨kk,lK,X,hX,Y,F,Z,hZ,rfl⟩:=g;obtain⟨w',q,j⟩:=abF (P:=P) h C lK (jj h B hX) (jj h B F) (jj h B hZ) A;exact⟨_,w',by simp only[execOp,p];exact Kg q,j⟩
  .cases g
 | insert t m k x=>
  simp only[p,aF,ag]at g;obtain⟨S,C,g⟩:=g;split at g
  .simp only[ag,aI,av]at g;obtain⟨kk,lK,X,hX,Y,F,Z,hZ,rfl⟩:=g;obtain⟨w',q,j⟩:=abF (P:=P) h C lK (jj h B hX) (jj h B F) (jj h B hZ) A;exact⟨_,w',by simp only[execOp,p];exact Kg q,j⟩
  .cases g
 | makeSlice t l m=>
  simp only[p,aF,ag]at g;obtain⟨S,C,g⟩:=g;split at g
  .simp only[ag]at g;obtain⟨z,O,i,hi,g⟩:=g;split at g
   .rename_i T;simp only[ag,aI,av]at g;obtain⟨X,hX,Y,F,rfl⟩:=g;obtain⟨v,w',q,j⟩:=an1 (P:=P) h iF C hi O T.1 T.2 (jj h B hX) (jj h B F) A;exact⟨_,w',by simp only[execOp,p];exact kh q,j⟩
   .cases g
  .cases g
 | slice t x lo hi mx=>
  cases mx with
  | some r=>
   cases hi with
   | none=>simp[p]at g
   | some hi=>
    simp only[p,aF,ag]at g;obtain⟨X,hX,L,hL,M,hM,N,hN,S,C,g⟩:=g;split at g
    .simp only[ag,aI,av]at g;obtain⟨n,E,rfl⟩:=g;obtain⟨v,q,j⟩:=an6 (P:=P) h B C E hL hM hN (jj h B hX) A;exact⟨v,w,by simp only[execOp,p];exact kh q,j⟩
    .cases g
  | none=>
   simp only[p,aF,ag]at g;obtain⟨X,hX,L,hL,M,hM,g⟩:=g;have I:=jj h B hX;split at g
   .rename_i e C;simp only[ag,aI,av]at g;obtain⟨n,E,rfl⟩:=g;obtain⟨v,q,j⟩:=an8 (P:=P) h B C E hL hM I A;exact⟨v,w,by simp only[execOp,p];exact kh q,j⟩
   .rename_i C;cases g
    have hs:∃s,ev env X = .val (.string s):=by
     simp only[Ha]at A;unfold Gh at A;split at A
     .rename_i s e;exact⟨s,e⟩
     .exact A.elim
    obtain⟨s,hs⟩:=hs;simp only[Ha]at A;rw[hs]at A I
    have FG:a.eval x = .string s:=by generalize a.eval x=u at I;cases I;rfl
    obtain⟨v,q,j⟩:=an9 (P:=P) h B C hL hM A;exact⟨v,w,by simp only[execOp,p,FG];exact kh q,j⟩
   .rename_i m e C;simp only[ag,aI,av]at g;obtain⟨n,E,rfl⟩:=g;obtain⟨v,q,j⟩:=an7 (P:=P) h B C E hL hM I A;exact⟨v,w,by simp only[execOp,p];exact kh q,j⟩
   .cases g
 | fieldAddr t x f=>
  simp only[p,aF,ag]at g;obtain⟨X,hX,S,C,g⟩:=g;split at g
  .simp only[ag]at g;obtain⟨fd,hf,n,E,g⟩:=g;split at g
   .rename_i jV;cases g;obtain⟨v,q,j⟩:=anQ (P:=P) h C hf E jV (jj h B hX) A;exact⟨v,w,by simp only[execOp,p];exact kh q,j⟩
   .cases g
  .cases g
 | field t x f=>
  simp only[p,aF,ag]at g;obtain⟨X,hX,S,C,g⟩:=g;split at g
  .simp only[ag,aI,av]at g;obtain⟨fd,hf,n,E,b,J,rfl⟩:=g;obtain⟨v,q,j⟩:=anP (P:=P) h C hf J E (jj h B hX) A;exact⟨v,w,by simp only[execOp,p];exact kh q,j⟩
  .cases g
 | indexAddr t x i=>
  simp only[p,aF,ag]at g;obtain⟨X,hX,Y,F,g⟩:=g;split at g
  .rename_i e C;simp only[ag]at g;obtain⟨n,E,g⟩:=g;split at g
   .rename_i jV;cases g;obtain⟨v,q,j⟩:=anS (P:=P) h C E jV (jj h B hX) (jj h B F) A;exact⟨v,w,by simp only[execOp,p];exact kh q,j⟩
   .cases g
  .rename_i m e C;simp only[ag,aI,av]at g;obtain⟨n,E,rfl⟩:=g;obtain⟨v,q,j⟩:=anT (P:=P) h C E (jj h B hX) (jj h B F) A;exact⟨v,w,by simp only[execOp,p];exact kh q,j⟩
  .cases g
 | index t x i=>
  simp only[p,aF,ag]at g;obtain⟨X,hX,Y,F,g⟩:=g;split at g
  .rename_i m e C;simp only[ag,aI,av]at g;obtain⟨n,E,b,J,rfl⟩:=g;obtain⟨v,q,j⟩:=anR (P:=P) h C E J (jj h B hX) (jj h B F) A;exact⟨v,w,by simp only[execOp,p];exact kh q,j⟩
  .rename_i C;cases g;obtain⟨v,q,j⟩:=anU (P:=P) h C (jj h B hX) (jj h B F) A;exact⟨v,w,by simp only[execOp,p];exact kh q,j⟩
  .cases g
 | extract x i=>
  simp only[p,aF,ag,aI,av]at g;obtain⟨X,hX,rfl⟩:=g;obtain⟨v,q,j⟩:=anO (P:=P) h (jj h B hX) A;exact⟨v,w,by simp only[execOp,p];exact kh q,j⟩
 | call cl=>
  simp only[p,aF,ag]at g;obtain⟨args,u5,g⟩:=g;have D:=Cd h B cl.args.toList u5;split at g
  .split at g
   .cases g;split at A<;>exact(show False from A).elim
   .cases g
  .simp only[ag,aI,av]at g;obtain⟨X,hX,rfl⟩:=g;exact(show False from A).elim
  .rename_i R;split at g
   .rename_i t u x y lS;have V:cl.argTypes = #[t,u]:=by rw[<-bQ (xs:=cl.argTypes),lS]
    obtain⟨vs,W,D⟩:=UM D;simp only[cp,di]at D
    cases D with|cons I D=>cases D with|cons Q D=>cases D with|nil=>
    simp only[ag]at g;obtain⟨S,C,g⟩:=g;split at g
    .simp only[ag]at g;obtain⟨i,hi,z,O,ud,Pm,g⟩:=g;split at g
     .split at g
      .rename_i T;cases g;obtain⟨v,w',q,j⟩:=anA (P:=P) (ty:=o.type) h iF C ⟨_,Pm⟩ hi O T.1 T.2 I Q A;exact⟨v,w',by rw[yI p R,W,V];exact kh q,j⟩
      .cases g
     .cases g
    .cases g
   .cases g
  .rename_i R;split at g
   .rename_i t u x y lS;have V:cl.argTypes = #[t,u]:=by rw[<-bQ (xs:=cl.argTypes),lS]
    obtain⟨vs,W,D⟩:=UM D;simp only[cp,di]at D
    cases D with|cons I D=>cases D with|cons Q D=>cases D with|nil=>
    simp only[ag]at g;obtain⟨S,C,g⟩:=g;split at g
    .simp only[ag]at g;obtain⟨ud,Pm,g⟩:=g;split at g
     .simp only[ag]at g;obtain⟨n,E,g⟩:=g;split at g
      .rename_i jV;cases g;obtain⟨v,w',q,j⟩:=anL (P:=P) (u:=u) (ty:=o.type) h C E jV I Q A;exact⟨v,w',by rw[yI p R,W,V];exact kh q,j⟩
      .cases g
     .cases g
    .cases g
   .cases g
  .rename_i R;split at g
   .rename_i t x lS;have V:cl.argTypes = #[t]:=by rw[<-bQ (xs:=cl.argTypes),lS]
    obtain⟨vs,W,D⟩:=UM D;simp only[cp,di]at D
    cases D with|cons I D=>cases D with|nil=>
    split at g
    .rename_i e C;cases g;obtain⟨v,q,j⟩:=Uu (P:=P) (ty:=o.type) (k:=.slice) h C ⟨e,rfl⟩ I A;exact⟨v,w,by rw[yI p R,W,V];exact kh q,j⟩
    .rename_i C;cases g;obtain⟨v,q,j⟩:=Uu (P:=P) (ty:=o.type) (k:=.string) h C rfl I A;exact⟨v,w,by rw[yI p R,W,V];exact kh q,j⟩
    .rename_i k e C;cases g;obtain⟨v,q,j⟩:=Uu (P:=P) (ty:=o.type) (k:=.map) h C ⟨k,e,rfl⟩ I A;exact⟨v,w,by rw[yI p R,W,V];exact kh q,j⟩
    .cases g
   .cases g
  .rename_i R;cases g;obtain⟨v,q,j⟩:=abG (P:=P) h B u5 bs cl.argTypes o.type A;exact⟨v,w,by rw[yI p R];exact kh (by simpa using q),j⟩
  .rename_i R;cases g;obtain⟨v,q,j⟩:=abG (P:=P) h B u5 b4 cl.argTypes o.type A;exact⟨v,w,by rw[yI p R];exact kh (by simpa using q),j⟩
  .cases g
 | _=>simp[p]at g
end
def Pr:Int->Bool
 | .ofNat m=>dr m 9223372036854775807
 | .negSucc m=>dr m 9223372036854775807
def ah6(n:Int):Pr n=bs↔pj n:=by
 unfold pj
 cases n with
 | ofNat m=>
  have e:Pr (.ofNat m)=dr m 9223372036854775807:=rfl;rw[e,ek];have:(Int.ofNat m)=(m:Int):=rfl;omega
 | negSucc m=>
  have e:Pr (.negSucc m)=dr m 9223372036854775807:=rfl;rw[e,ek];have:Int.negSucc m = -((m:Int)+1):=Int.negSucc_eq m;omega
instance(n:Int):Decidable (pj n):=decidable_of_iff (Pr n=bs) (ah6 n)
def Px(k:Nat):Int->Bool
 | .ofNat m=>dr m k
 | .negSucc _=>bs
def sM(n:Int)(k:Nat):Prop:=n<=(k:Int)
def aiy(n:Int)(k:Nat):Px k n=bs↔sM n k:=by
 unfold sM
 cases n with
 | ofNat m=>
  have e:Px k (.ofNat m)=dr m k:=rfl;rw[e,ek];have:(Int.ofNat m)=(m:Int):=rfl;omega
 | negSucc m=>
  have e:Px k (.negSucc m)=true:=rfl;rw[e];have:Int.negSucc m = -((m:Int)+1):=Int.negSucc_eq m;simp only[true_iff];omega
instance(n:Int)(k:Nat):Decidable (sM n k):=decidable_of_iff (Px k n=bs) (aiy n k)
inductive Dl where
 | no
 | cells (v o:Nat) (xs:List D)
 | obj (v:Nat) (ob:Ob)
 | new (ob:Ob)
 deriving Inhabited
def Dl.app(H:gg)(al:Al):Dl->gg
 | .no=>H
 | .cells v o xs=>match H[v]? with
  | some (.row t g cs)=>H.set v (.row t g (cs.take o++xs++cs.drop (o+xs.l)))
  | _=>H
 | .obj v ob=>H.set v ob
 | .new ob=>al.2 ob
abbrev R:=Option (D×Dl)
def ret(d:D):R:=aE (d,.no)
def kA(op:BinOp)(k:IntKind)(a b:Int):Option D:=
 match op with
 | .add=>if k = .i64 then(if pj (a+b)then aE (.val (.int .i64 (a+b)))else bb)else aE (.val (.int k (k.wrap (a+b))))
 | .sub=>if k = .i64 then(if pj (a-b)then aE (.val (.int .i64 (a-b)))else bb)else aE (.val (.int k (k.wrap (a-b))))
 | .mul=>if k = .i64 then(if pj (a*b)then aE (.val (.int .i64 (a*b)))else bb)else aE (.val (.int k (k.wrap (a*b))))
 | .quo=>if b=0 then bb else aE (.val (.int k (k.wrap (a.tdiv b))))
 | .rem=>if b=0 then bb else aE (.val (.int k (a.tmod b)))
 | .and | .or | .xor | .andNot=>aE (.val (.int k (bits op k a b)))
 | .eql=>aE (.val (.bool (a == b)))
 | .neq=>aE (.val (.bool (a != b)))
 | .lss=>aE (.val (.bool (decide (a<b))))
 | .leq=>aE (.val (.bool (decide (a<=b))))
 | .gtr=>aE (.val (.bool (decide (a>b))))
 | .geq=>aE (.val (.bool (decide (a>=b))))
 | _=>bb
def U6(op:BinOp)(k:IntKind)(a b:Int):Option D:=
 match op with
 | .shl=>if 0<=b then aE (.val (.int k (k.wrap (a*2 ^ (min b.n k.bits)))))else bb
 | .shr=>if 0<=b then aE (.val (.int k (a.fdiv (2 ^ (min b.n k.bits)))))else bb
 | _=>bb
def Gn(op:BinOp)(a b:ByteArray):Option D:=
 match op with
 | .eql=>aE (.val (.bool (a.data.toList == b.data.toList)))
 | .neq=>aE (.val (.bool (!(a.data.toList == b.data.toList))))
 | .add=>if sM ((a.size+b.size:Nat):Int) 9223372036854775807 then aE (.val (.string (a++b)))else bb
 | _=>bb
def lQ(op:BinOp)(x y:D):Option D:=
 match x,y with
 | .val (.int k a),.val (.int k' b)=>if rC op then U6 op k a b else if k=k' then kA op k a b else bb
 | .val (.string a),.val (.string b)=>Gn op a b
 | _,_=>bb
def Gs(op:UnOp)(x:D):Option D:=
 match op,x with
 | .not,.val (.bool b)=>aE (.val (.bool (!b)))
 | .neg,.val (.int .i64 n)=>if pj (-n)then aE (.val (.int .i64 (-n)))else bb
 | .xor,.val (.int k n)=>aE (.val (.int k (bits .xor k (if k.signed then -1 else k.max) n)))
 | _,_=>bb
def Cq(c:Bool)(ls:List nI)(neg:Bool)(x y:D):Option D:=
 match c,x,y with
 | true,.agg a,.agg b=>match nL ls a b with
  | some r=>aE (.val (.bool (if neg then !r else r)))
  | none=>bb
 | false,x,y=>match nL ls [x] [y]with
  | some r=>aE (.val (.bool (if neg then !r else r)))
  | none=>bb
 | _,_,_=>bb
def DE(c a b:D):Option D:=
 match c with
 | .val (.bool x)=>aE (if x then a else b)
 | _=>bb
def yC(x:D)(H:gg):Option D:=
 match x with
 | .ptr v g o=>match rowAt H v g with
  | some (_,cs)=>cs[o]?
  | none=>bb
 | .gH cs=>cs[0]?
 | _=>bb
def xH(n:Nat)(x:D)(H:gg):Option D:=
 match x with
 | .ptr v g o=>match rowAt H v g with
  | some (_,cs)=>if o+n<=cs.l then aE (.agg ((cs.drop o).take n))else bb
  | none=>bb
 | .gH cs=>if n<=cs.l then aE (.agg (cs.take n))else bb
 | _=>bb
def DW(a x:D)(H:gg):R:=
 match a with
 | .ptr v g o=>match rowAt H v g with
  | some (_,cs)=>if o<cs.l/\one x=bs then aE (.any,.cells v o [x])else bb
  | none=>bb
 | _=>bb
def DX(n:Nat)(a x:D)(H:gg):R:=
 match a,cellsOf x with
 | .ptr v g o,aE xs=>match rowAt H v g with
  | some (_,cs)=>if xs.l=n/\o+n<=cs.l then aE (.any,.cells v o xs)else bb
  | none=>bb
 | _,_=>bb
def uk(t:TypeId)(x:D)(n:Nat):R:=
 match cellsOf x with
 | some cs=>aE (.ptr n 0 0,.new (.row t 0 cs))
 | none=>bb
def EB(env:il)(z:List D)(ps:List (Nat×Nat×X)):Option D:=
 match partsOf env ps with
 | some l=>match lay l z with
  | some cs=>aE (.agg cs)
  | none=>bb
 | none=>bb
def AA(env:il)(t sz:Nat)(z:List D)(m:Nat)(ps:List (Nat×X))(n:Nat):R:=
 match partsOf env (ps.map λp=>(p.1*sz,sz,p.2))with
 | some l=>match lay l (cj m z).flatten with
  | some cs=>aE (.gh n 0 sz 0 m,.new (.row t 0 cs))
  | none=>bb
 | none=>bb
def HZ(off:Nat)(x:D):Option D:=
 match x with
 | .ptr v g o=>aE (.ptr v g (o+off))
 | .gH cs=>aE (.gH (cs.drop off))
 | _=>bb
def Cy(off n:Nat)(a:Bool)(x:D):Option D:=
 match x with
 | .agg cs=>if a then(if off+n<=cs.l then aE (.agg ((cs.drop off).take n))else bb)else cs[off]?
 | _=>bb
def ni(sz:Nat)(x i:D):Option D:=
 match x,i with
 | .sl iq es,.val (.int _ n)=>if iq=sz/\0<=n/\n<es.l then aE (.gH (es.getD n.n []))else bb
 | .mM vs,.val (.int _ n)=>if 1=sz/\0<=n/\n<vs.l then aE (.gH [.val (vs.getD n.n undef)])else bb
 | .gh v g iq off len,.val (.int _ n)=>if iq=sz/\0<=n/\n<len then aE (.ptr v g ((off+n.n)*sz))else bb
 | _,_=>bb
def I8(sz n:Nat)(x i:D):Option D:=
 match x,i with
 | .ptr v g o,.val (.int _ k)=>if 0<=k/\k<n then aE (.ptr v g (o+k.n*sz))else bb
 | .gH cs,.val (.int _ k)=>if 0<=k/\k<n then aE (.gH (cs.drop (k.n*sz)))else bb
 | _,_=>bb
def Ps(sz n:Nat)(a:Bool)(x i:D):Option D:=
 match x,i with
 | .agg cs,.val (.int _ k)=>if 0<=k/\k<n then Cy (k.n*sz) sz a (.agg cs)else bb
 | _,_=>bb
def TK(x i:D):Option D:=
 match x,i with
 | .val (.string s),.val (.int _ k)=>if 0<=k/\k<s.size then aE (.val (.int .u8 ((s.data.toList.getD k.n 0).n)))else bb
 | _,_=>bb
def Dr(a:KK)(z:D)(ok:Bool)(m k:D)(H:gg):Option D:=
 match m,keyOf k with
 | .gM v,aE kv=>match mq H v with
  | some (kk,es)=>if kk=a/\kk.has kv=bs then(match sP es kv with
    | some d=>aE (if ok then .tup [d,.val (.bool bs)]else d)
    | none=>aE (if ok then .tup [z,.val (.bool b4)]else z))else bb
  | none=>bb
 | _,_=>bb
def Bu(a:KK)(m k x:D)(H:gg):R:=
 match m,keyOf k with
 | .gM v,aE kv=>match mq H v with
  | some (kk,es)=>if kk=a/\kk.has kv=bs then aE (.any,.obj v (.map kk (np es kv x)))else bb
  | none=>bb
 | _,_=>bb
def Oh(x:D)(i:Nat):Option D:=
 match x with
 | .tup ds=>ds[i]?
 | _=>bb
def FX(t sz bytes:Nat)(z:List D)(l c:D)(v:Nat):R:=
 match l,c with
 | .val (.int _ n),.val (.int _ m)=>if 0<=n/\n<=m/\sM m 9223372036854775807/\sM ((bytes:Int)*m) 281474976710656 then aE (.gh v 0 sz 0 n.n,.new (.row t 0 (cj m.n z).flatten))else bb
 | _,_=>bb
def vH(env:il)(sz:Nat)(x:D)(lo hi:Option X):Option D:=
 match x with
 | .sl a es=>match iC env lo 0,iC env hi es.l with
  | some l,aE h=>if a=sz/\0<=l/\l<=h/\h<=es.l then aE (.sl sz ((es.drop l.n).take (h.n-l.n)))else bb
  | _,_=>bb
 | .gh v g a off len=>match iC env lo 0,iC env hi len with
  | some l,aE h=>if a=sz/\0<=l/\l<=h/\h<=len then aE (.gh v g sz (off+l.n) (h.n-l.n))else bb
  | _,_=>bb
 | .gp=>match iC env lo 0,iC env hi 0 with
  | some l,aE h=>if l=0/\h=0 then aE .gp else bb
  | _,_=>bb
 | _=>bb
def zZ(env:il)(sz:Nat)(x:D)(lo:Option X)(hi mx:X):Option D:=
 match iC env lo 0,iC env (aE hi) 0,iC env (aE mx) 0 with
 | some l,aE h,aE m=>match x with
  | .sl a es=>if a=sz/\0<=l/\l<=h/\h=m/\m<=es.l then aE (clip sz ((es.drop l.n).take (h.n-l.n)))else bb
  | .gh v g a off len=>if a=sz/\0<=l/\l<=h/\h<=m/\m<=len then aE (.gh v g sz (off+l.n) (h.n-l.n))else bb
  | .gp=>if l=0/\h=0/\m=0 then aE .gp else bb
  | _=>bb
 | _,_,_=>bb
def BQ(env:il)(sz n:Nat)(x:D)(lo hi:Option X)(H:gg):Option D:=
 match x,iC env lo 0,iC env hi n with
 | .gH cs,aE l,aE h=>if sz=1/\n<=cs.l/\n<=16777216/\0<=l/\l<=h/\h<=n then aE (.sl 1 (((cs.drop l.n).take (h.n-l.n)).map λd=>[d]))else bb
 | .ptr v g o,aE l,aE h=>match rowAt H v g with
  | some (_,cs)=>if o % sz=0/\o+n*sz<=cs.l/\n<=16777216/\0<=l/\l<=h/\h<=n then aE (.gh v g sz (o / sz+l.n) (h.n-l.n))else bb
  | none=>bb
 | _,_,_=>bb
def Qs(env:il)(x:D)(lo hi:Option X):Option D:=
 match x with
 | .val (.string s)=>match iC env lo 0,iC env hi s.size with
  | some l,aE h=>if 0<=l/\l<=h/\h<=s.size then aE (.val (.string (s.extract l.n h.n)))else bb
  | _,_=>bb
 | _=>bb
def uj(t sz bytes:Nat)(x y:D)(H:gg)(a:Nat):R:=
 match lN sz H y with
 | some (ys,n)=>match x with
  | .gh v g b off len=>match rowAt H v g with
   | some (t',cs)=>if b=sz/\t'=t/\(off+len)*sz<=cs.l/\(len+n)*bytes<=140737488355328/\len+n<=9223372036854775807 then
     aE (.gh v (g+1) sz 0 (len+n),.obj v (.row t (g+1) ((cs.drop (off*sz)).take (len*sz)++ys)))else bb
   | none=>bb
  | .mM vs=>if n≠0/\sz=1/\(vs.l+n)*bytes<=140737488355328/\vs.l+n<=9223372036854775807 then aE (.gh a 0 sz 0 (vs.l+n),.new (.row t 0 (vs.map .val++ys)))else bb
  | .gp=>if n=0 then aE (.gp,.no)else if n*bytes<=140737488355328/\n<=9223372036854775807 then aE (.gh a 0 sz 0 n,.new (.row t 0 ys))else bb
  | _=>bb
 | none=>bb
def AI(sz:Nat)(x y:D)(H:gg):R:=
 match x,lN sz H y with
 | .gh v g iq off len,aE (ys,n)=>match rowAt H v g with
  | some (t,cs)=>if iq=sz/\(off+len)*sz<=cs.l then
    aE (.val (.int .i64 (min n len:Nat)),.obj v (.row t g (cs.take (off*sz)++ys.take (min n len*sz)++cs.drop (off*sz+min n len*sz))))else bb
  | none=>bb
 | .gp,aE _=>aE (.val (.int .i64 0),.no)
 | _,_=>bb
def oa(k:B3)(x:D)(H:gg):Option D:=
 match k,x with
 | .slice,.sl _ es=>aE (.val (.int .i64 es.l))
 | .slice,.gp=>aE (.val (.int .i64 0))
 | .slice,.mM vs=>aE (.val (.int .i64 vs.l))
 | .slice,.gh _ _ _ _ len=>aE (.val (.int .i64 len))
 | .string,.val (.string s)=>aE (.val (.int .i64 s.size))
 | .map,.gM v=>match mq H v with
  | some (_,es)=>aE (.val (.int .i64 es.l))
  | none=>bb
 | _,_=>bb
def FV(env:il)(d:Bool)(xs:List X):Option D:=
 match tq env xs with
 | some [a,b]=>aE (.val (.int .i64 (if d then max a b else min a b)))
 | some [a,b,c]=>aE (.val (.int .i64 (if d then max (max a b) c else min (min a b) c)))
 | _=>bb
def Dw(x:D):Option D:=
 match x with
 | .ptr v g o=>aE (.ptr v g o)
 | .gH cs=>aE (.gH cs)
 | .fn (.func f) a b=>aE (.fn (.func f) a b)
 | .jt v=>aE (.jt v)
 | _=>bb
def NY(k:IntKind)(x:D):Option D:=
 match x with
 | .val (.int _ n)=>aE (.val (.int k (k.wrap n)))
 | _=>bb
def Ez(x:D)(H:gg):Option D:=
 match lN 1 H x with
 | some (ys,_)=>match bytesOf ys with
  | some a=>aE (.val (.string (a.foldl (λr n=>r.push (UInt8.ofNat n.n)) ByteArray.empty)))
  | none=>bb
 | none=>bb
def lift:Option D->R
 | some d=>aE (d,.no)
 | none=>bb
def ie(env:il)(H:gg)(n:Nat):jh->R
 | .mv x=>lift (aE (ev env x))
 | .pick c a b=>lift (DE (ev env c) (ev env a) (ev env b))
 | .box t x=>uk t (ev env x) n
 | .alloc t z=>aE (.ptr n 0 0,.new (.row t 0 z))
 | .build z ps=>lift (EB env z ps)
 | .buildSl t sz z m ps=>AA env t sz z m ps n
 | .ld1 x=>lift (yC (ev env x) H)
 | .ldN m x=>lift (xH m (ev env x) H)
 | .st1 a x=>DW (ev env a) (ev env x) H
 | .stN m a x=>DX m (ev env a) (ev env x) H
 | .nilck x=>lift (Dw (ev env x))
 | .arith op x y=>lift (lQ op (ev env x) (ev env y))
 | .eqS e ls neg x y=>lift (Cq e ls neg (ev env x) (ev env y))
 | .un op x=>lift (Gs op (ev env x))
 | .conv k x=>lift (NY k (ev env x))
 | .b2s x=>lift (Ez (ev env x) H)
 | .mkfn f first cap=>lift (aE (.fn f (first.map (ev env)) (cap.map (ev env))))
 | .mkmap kk=>aE (.gM n,.new (.map kk []))
 | .mksl t sz bytes z l c=>FX t sz bytes z (ev env l) (ev env c) n
 | .slc sz x lo hi=>lift (vH env sz (ev env x) lo hi)
 | .slcS x lo hi=>lift (Qs env (ev env x) lo hi)
 | .slc3 sz x lo hi mx=>lift (zZ env sz (ev env x) lo hi mx)
 | .slcArr sz n x lo hi=>lift (BQ env sz n (ev env x) lo hi H)
 | .fieldA off x=>lift (HZ off (ev env x))
 | .field off m e x=>lift (Cy off m e (ev env x))
 | .idxA sz x i=>lift (ni sz (ev env x) (ev env i))
 | .idxArr sz m x i=>lift (I8 sz m (ev env x) (ev env i))
 | .idx sz m e x i=>lift (Ps sz m e (ev env x) (ev env i))
 | .idxStr x i=>lift (TK (ev env x) (ev env i))
 | .lookup kk z ok m k=>lift (Dr kk z ok (ev env m) (ev env k) H)
 | .mapUpd kk m k x=>Bu kk (ev env m) (ev env k) (ev env x) H
 | .ext x i=>lift (Oh (ev env x) i)
 | .call _ _ | .callN _ _ | .callv _ _=>bb
 | .app t sz bytes x y=>uj t sz bytes (ev env x) (ev env y) H n
 | .copy sz x y=>AI sz (ev env x) (ev env y) H
 | .len k x=>lift (oa k (ev env x) H)
 | .minmax d xs=>lift (FV env d xs)
 | .nilS .. | .capE .. | .appZ .. | .clr .. | .rangeS .. | .nextS .. | .rangeM .. | .nextM .. | .entry .. | .mapEnt .. | .entSt .. => bb
section
variable{env:il}{H:gg}{al:Al}{d:D}{δ:Dl}{K:kd}
theorem aon{a b c:D}(h:DE a b c=aE d)(e:K d H):Jy a b c H K:=by unfold DE at h;unfold Jy;(repeat' split at h)<;>simp_all
theorem aiv{x:D}(h:yC x H=aE d)(a:K d H):Je x H K:=by unfold yC at h;unfold Je;(repeat' split at h)<;>simp_all
theorem aiw{n:Nat}{x:D}(h:xH n x H=aE d)(a:K d H):Jf n x H K:=by unfold xH at h;unfold Jf;(repeat' split at h)<;>simp_all
theorem adT{z:List D}{ps:List (Nat×Nat×X)}(h:EB env z ps=aE d)(a:K d H):Ca env z ps H K:=by unfold EB at h;unfold Ca;(repeat' split at h)<;>simp_all
theorem ajg{x:D}(h:Dw x=aE d)(a:K d H):Js x H K:=by unfold Dw at h;unfold Js;(repeat' split at h)<;>simp_all
theorem ap9{op:UnOp}{x:D}(h:Gs op x=aE d)(a:K d H):Ka op x H K:=by unfold Gs at h;unfold Ka;(repeat' split at h)<;>simp_all
theorem ae5{b:Bool}{ls:List nI}{neg:Bool}{x y:D}(h:Cq b ls neg x y=aE d)(a:K d H):yd b ls neg x y H K:=by unfold Cq at h;unfold yd;(repeat' split at h)<;>simp_all
theorem aeB{k:IntKind}{x:D}(h:NY k x=aE d)(a:K d H):HH k x H K:=by unfold NY at h;unfold HH;(repeat' split at h)<;>simp_all
theorem adH{x:D}(h:Ez x H=aE d)(a:K d H):Hl x H K:=by unfold Ez at h;unfold Hl;(repeat' split at h)<;>simp_all
theorem apI{sz:Nat}{x:D}{lo hi:Option X}(h:vH env sz x lo hi=aE d)(a:K d H):JX env sz x lo hi H K:=by unfold vH at h;unfold JX;(repeat' split at h)<;>simp_all
theorem apE{sz:Nat}{x:D}{lo:Option X}{hi mx:X}(h:zZ env sz x lo hi mx=aE d)(a:K d H):JV env sz x lo hi mx H K:=by unfold zZ at h;unfold JV;(repeat' split at h)<;>simp_all<;>omega
theorem apG{sz n:Nat}{x:D}{lo hi:Option X}(h:BQ env sz n x lo hi H=aE d)(a:K d H):JW env sz n x lo hi H K:=by unfold BQ at h;unfold JW;(repeat' split at h)<;>simp_all
theorem apH{x:D}{lo hi:Option X}(h:Qs env x lo hi=aE d)(a:K d H):Gh env x lo hi H K:=by unfold Qs at h;unfold Gh;(repeat' split at h)<;>simp_all
theorem agI{off:Nat}{x:D}(h:HZ off x=aE d)(a:K d H):HY off x H K:=by unfold HZ at h;unfold HY;(repeat' split at h)<;>simp_all
theorem Yf{off n:Nat}{b:Bool}{x:D}(h:Cy off n b x=aE d)(a:K d H):Cx off n b x H K:=by unfold Cy at h;unfold Cx;(repeat' split at h)<;>simp_all
theorem ah7{sz:Nat}{x i:D}(h:ni sz x i=aE d)(a:K d H):I6 sz x i H K:=by unfold ni at h;unfold I6;(repeat' split at h)<;>simp_all
theorem ah9{sz n:Nat}{x i:D}(h:I8 sz n x i=aE d)(a:K d H):I7 sz n x i H K:=by unfold I8 at h;unfold I7;(repeat' split at h)<;>simp_all
theorem aia{x i:D}(h:TK x i=aE d)(a:K d H):I' x i H K:=by unfold TK at h;unfold I';(repeat' split at h)<;>simp_all
theorem aiP{kk:KK}{z:D}{ok:Bool}{m k:D}(h:Dr kk z ok m k H=aE d)(b:K d H):Jj kk z ok m k H K:=by
 unfold Dr at h;unfold Jj;split at h
 .split at h
  .split at h
   .rename_i c;obtain⟨rfl,c⟩:=c;simp only[*,true_and];split at h
    .rename_i a;cases h;simp only[a];exact b
    .rename_i a;cases h;simp only[a];exact b
   .cases h
  .cases h
 .cases h
theorem ae7{x:D}{i:Nat}(h:Oh x i=aE d)(a:K d H):HT x i H K:=by unfold Oh at h;unfold HT;(repeat' split at h)<;>simp_all
theorem aiF{k:B3}{x:D}(h:oa k x H=aE d)(a:K d H):Jg k x H K:=by unfold oa at h;unfold Jg;(repeat' split at h)<;>simp_all
theorem ai7{b:Bool}{xs:List X}(h:FV env b xs=aE d)(a:K d H):Jp env b xs H K:=by unfold FV at h;unfold Jp;(repeat' split at h)<;>simp_all
theorem adA{op:BinOp}{k:IntKind}{a b:Int}(h:kA op k a b=aE d)(c:K d H):Hh op k a b H K:=by unfold kA at h;unfold Hh;(repeat' split at h)<;>simp_all
theorem apC{op:BinOp}{k:IntKind}{a b:Int}(h:U6 op k a b=aE d)(c:K d H):JU op k a b H K:=by unfold U6 at h;unfold JU;(repeat' split at h)<;>simp_all
theorem ap3{op:BinOp}{a b:ByteArray}(h:Gn op a b=aE d)(c:K d H):Qz op a b H K:=by unfold Gn at h;unfold Qz;(repeat' split at h)<;>simp_all [sM]
theorem adQ{t:TypeId}{x:D}(h:uk t x al.1=aE (d,δ))(a:K d (δ.app H al)):Hq t x al K:=by unfold uk at h;unfold Hq;(repeat' split at h)<;>cases h<;>simp_all [Dl.app]
theorem adS{t sz:Nat}{z:List D}{m:Nat}{ps:List (Nat×X)}(h:AA env t sz z m ps al.1=aE (d,δ))(a:K d (δ.app H al)):Hr env t sz z m ps al K:=by unfold AA at h;unfold Hr;(repeat' split at h)<;>cases h<;>simp_all [Dl.app]
theorem JN{v g:Nat}{x:TypeId×List D}(h:rowAt H v g=aE x):H[v]? = aE (.row x.1 g x.2):=by
 unfold rowAt at h;split at h
 .split at h
  .rename_i e;subst e;cases h;assumption
  .cases h
 .cases h
theorem ap0{a x:D}(h:DW a x H=aE (d,δ))(f:K d (δ.app H al)):J0 a x H K:=by
 unfold DW at h;unfold J0;split at h
 .split at h
  .rename_i v g o _ t cs c;split at h
   .rename_i b;cases h;simp only[c];refine⟨b.1,b.2,?_⟩;simp only[Dl.app,JN c]at f
    have e:cs.set o x=cs.take o ++ [x]++cs.drop (o + [x].l):=by rw[cM,if_pos b.1];simp
    rw[e];exact f
   .cases h
  .cases h
 .cases h
theorem ap1{n:Nat}{a x:D}(h:DX n a x H=aE (d,δ))(b:K d (δ.app H al)):J2 n a x H K:=by
 unfold DX at h;unfold J2;split at h
 .split at h
  .rename_i v g o xs _ _ t cs c;split at h
   .rename_i e;cases h;simp only[*];refine⟨trivial,trivial,?_⟩;simp only[Dl.app,JN c]at b;rw[e.1]at b;exact b
   .cases h
  .cases h
 .cases h
theorem ai9{t sz bytes:Nat}{z:List D}{l c:D}(h:FX t sz bytes z l c al.1=aE (d,δ))(a:K d (δ.app H al)):Jq t sz bytes z l c al K:=by unfold FX at h;unfold Jq;(repeat' split at h)<;>cases h<;>simp_all [Dl.app,sM]
theorem ai2{kk:KK}{m k x:D}(h:Bu kk m k x H=aE (d,δ))(b:K d (δ.app H al)):Jm kk m k x H K:=by
 unfold Bu at h;unfold Jm;split at h
 .split at h
  .split at h
   .rename_i a;obtain⟨rfl,a⟩:=a;cases h;simp only[*,true_and];exact b
   .cases h
  .cases h
 .cases h
theorem adx{t sz bytes:Nat}{x y:D}(h:uj t sz bytes x y H al.1=aE (d,δ))(a:K d (δ.app H al)):Hf t sz bytes x y H al K:=by unfold uj at h;unfold Hf;(repeat' split at h)<;>cases h<;>simp_all [Dl.app]
theorem aeD{sz:Nat}{x y:D}(h:AI sz x y H=aE (d,δ))(a:K d (δ.app H al)):HM sz x y H K:=by unfold AI at h;unfold HM;(repeat' split at h)<;>cases h<;>simp_all [Dl.app]
theorem adN{op:BinOp}{x y:D}(h:lQ op x y=aE d)(a:K d H):Hm op x y H K:=by
 unfold lQ at h;unfold Hm;split at h
 .split at h
  .rename_i hs;simp only[hs,if_true];exact apC h a
  .rename_i hs;simp only[hs];split at h
   .rename_i e;exact⟨e,adA h a⟩
   .cases h
 .exact ap3 h a
 .cases h
theorem aib{sz n:Nat}{b:Bool}{x i:D}(h:Ps sz n b x i=aE d)(a:K d H):I9 sz n b x i H K:=by
 unfold Ps at h;unfold I9;split at h
 .split at h
  .rename_i c;exact⟨c,Yf h a⟩
  .cases h
 .cases h
theorem nk{o:Option D}(h:lift o=aE (d,δ)):o=aE d/\δ = .no:=by cases o<;>simp[lift]at h;exact⟨by rw[h.1],h.2.symm⟩
theorem Wa{c:jh}(h:ie env H al.1 c=aE (d,δ))(b:K d (δ.app H al)):Ha env H al K c:=by
 cases c<;>simp only[ie]at h<;>simp only[Ha]
 case mv=>obtain⟨a,rfl⟩:=nk h;cases a;exact b
 case mkfn=>obtain⟨a,rfl⟩:=nk h;cases a;exact b
 case alloc=>cases h;exact b
 case mkmap=>cases h;exact b
 case call=>cases h
 case callN=>cases h
 case callv=>cases h
 case nilS=>cases h
 case capE=>cases h
 case appZ=>cases h
 case clr=>cases h
 case rangeS=>cases h
 case nextS=>cases h
 case rangeM=>cases h
 case nextM=>cases h
 case entry=>cases h
 case mapEnt=>cases h
 case entSt=>cases h
 case box=>exact adQ h b
 case buildSl=>exact adS h b
 case st1=>exact ap0 h b
 case stN=>exact ap1 h b
 case mksl=>exact ai9 h b
 case mapUpd=>exact ai2 h b
 case app=>exact adx h b
 case copy=>exact aeD h b
 case pick=>obtain⟨a,rfl⟩:=nk h;exact aon a b
 case build=>obtain⟨a,rfl⟩:=nk h;exact adT a b
 case ld1=>obtain⟨a,rfl⟩:=nk h;exact aiv a b
 case ldN=>obtain⟨a,rfl⟩:=nk h;exact aiw a b
 case nilck=>obtain⟨a,rfl⟩:=nk h;exact ajg a b
 case arith=>obtain⟨a,rfl⟩:=nk h;exact adN a b
 case eqS=>obtain⟨a,rfl⟩:=nk h;exact ae5 a b
 case un=>obtain⟨a,rfl⟩:=nk h;exact ap9 a b
 case conv=>obtain⟨a,rfl⟩:=nk h;exact aeB a b
 case b2s=>obtain⟨a,rfl⟩:=nk h;exact adH a b
 case slc=>obtain⟨a,rfl⟩:=nk h;exact apI a b
 case slc3=>obtain⟨a,rfl⟩:=nk h;exact apE a b
 case slcArr=>obtain⟨a,rfl⟩:=nk h;exact apG a b
 case slcS=>obtain⟨a,rfl⟩:=nk h;exact apH a b
 case fieldA=>obtain⟨a,rfl⟩:=nk h;exact agI a b
 case field=>obtain⟨a,rfl⟩:=nk h;exact Yf a b
 case idxA=>obtain⟨a,rfl⟩:=nk h;exact ah7 a b
 case idxArr=>obtain⟨a,rfl⟩:=nk h;exact ah9 a b
 case idx=>obtain⟨a,rfl⟩:=nk h;exact aib a b
 case idxStr=>obtain⟨a,rfl⟩:=nk h;exact aia a b
 case lookup=>obtain⟨a,rfl⟩:=nk h;exact aiP a b
 case ext=>obtain⟨a,rfl⟩:=nk h;exact ae7 a b
 case len=>obtain⟨a,rfl⟩:=nk h;exact aiF a b
 case minmax=>obtain⟨a,rfl⟩:=nk h;exact ai7 a b
end
mutual
def flat:D->Bool
 | .any | .val _ | .gp=>bs
 | .agg cs | .tup cs=>tI cs
 | .sl _ es=>es.isEmpty
 | _=>b4
def tI:List D->Bool
 | []=>bs
 | d::ds=>flat d&&tI ds
end
def chunks(sz:Nat):Nat->List D->List (List D)
 | 0,_=>[]
 | n+1,cs=>cs.take sz::chunks sz n (cs.drop sz)
def gA(ρ:Nat->Option Nat)(H:gg):Nat->D->D
 | 0,d=>if closed d then d else .any
 | k+1,d=>if closed d then d else match d with
  | .agg cs=>.agg (cs.map (gA ρ H k))
  | .tup cs=>.tup (cs.map (gA ρ H k))
  | .sl sz es=>.sl sz (es.map (·.map (gA ρ H k)))
  | .gH cs=>.gH (cs.map (gA ρ H k))
  | .fn f a b=>.fn f (a.map (gA ρ H k)) (b.map (gA ρ H k))
  | .gh v g sz off len=>match ρ v with
   | some v'=>.gh v' g sz off len
   | none=>match rowAt H v g with
    | some (_,cs)=>if (off+len)*sz<=cs.l then .sl sz (chunks sz len ((cs.drop (off*sz)).map (gA ρ H k)))else .any
    | none=>.any
  | .ptr v g off=>match ρ v with
   | some v'=>.ptr v' g off
   | none=>match rowAt H v g with
    | some (_,cs)=>.gH ((cs.drop off).map (gA ρ H k))
    | none=>.any
  | .gM v=>match ρ v with
   | some v'=>.gM v'
   | none=>.any
  | .jt v=>match ρ v with
   | some v'=>.jt v'
   | none=>.any
  | d=>d
def qv(ρ:Nat->Option Nat)(H:gg):Ob->Ob
 | .row t g cs=>.row t g (cs.map (gA ρ H 40))
 | .map kk es=>.map kk (es.map λx=>(x.1,gA ρ H 40 x.2))
 | .iE rf env st=>.iE rf (env.map λx=>(x.1,gA ρ H 40 x.2)) st
 | .ua s p=>.ua s p
 | .jG m since seen=>.jG (gA ρ H 40 m) since seen
 | .ka=>.ka
 | .dead=>.dead
 | .mF=>.dead
abbrev oQ:=List (Nat×Bool)
def jc(ks:oQ)(v:Nat):Option Nat:=ks.findIdx? (λp=>p.2&&p.1 == v)
def sV(ks:oQ)(H:gg):gg:=ks.map λp=>if p.2 then(match H[p.1]? with|some o=>qv (jc ks) H o|none=>.dead)else .dead
def jP(n:Nat):D->List Nat
 | .gh v _ _ _ _=>if n<=v then [v]else []
 | .ptr v _ _=>if n<=v then [v]else []
 | .gM v=>if n<=v then [v]else []
 | .jt v=>if n<=v then [v]else []
 | _=>[]
def pZ(n:Nat):Ob->List Nat
 | .row _ _ cs=>(cs.map (jP n)).flatten
 | .map _ es=>(es.map λx=>jP n x.2).flatten
 | _=>[]
def dedup:List Nat->List Nat
 | []=>[]
 | x::r=>if x∈r then dedup r else x::dedup r
def jC(n:Nat)(K:List Nat):oQ:=((en n).map λv=>(v,bs))++K.map λv=>(v,bs)
def forget(live:List Nat)(env:Env):Env:=live.map λk=>(k,env.get k)
structure St where
 env:Env
 H:gg
 marks:List Nat:=[]
 iM:Bool:=b4
 deriving Inhabited
def Dx(live:List Nat):Bool:=match live with
 | k::_=>Nat.beq k 9999
 | []=>b4
def cut(n:Nat)(live:List Nat)(s:St):St:=
 let env:=forget live s.env
 if s.H.l<=n\/Dx live=bs then{ s with env:=env }else
 let K:=dedup (((env.map λp=>jP n p.2).flatten++((s.H.take n).map (pZ n)).flatten++s.marks.filter (n<=·)).filter (· < s.H.l))
 let ks:=jC n K
 { s with env:=env.map λp=>(p.1,gA (jc ks) s.H 40 p.2),H:=sV ks s.H,marks:=s.marks.map λv=>(jc ks v).getD v }
def F3(n:Nat):D->List Nat
 | .gh v _ _ 0 _=>if n<=v then [v]else []
 | .tup ds=>(ds.map λd=>match d with | .gh v _ _ 0 _=>if n<=v then [v]else []|_=>[]).flatten
 | _=>[]
inductive IR where
 | skip
 | ops (l:List iz)
 | mO (kf:List (Nat×Nat)) (l:List iz)
 | nT (kf:List (Nat×Nat)) (l es:List iz)
 | seq (a b:IR)
 | cond (c:X) (a b:IR)
 | block (id:Nat) (live:List Nat) (a:IR)
 | loop (live:List Nat) (a:IR)
 | po (rf:Nat) (live:List Nat) (x:X)
 | exit (id:Nat)
 | ret
 | bad
 | fz (S:List Nat) (a:IR)
 | xc (S:List Nat) (a b:List iz)
 deriving Inhabited
inductive wU where
 | tmp (t:Nat)
 | uT (t:Nat)
 | Q6 (n t:Nat)
 deriving Inhabited
structure jK where
 ntmps:Nat
 body:IR
 results:List wU
 full:Bool:=b4
 own:Nat:=0
 fz:Bool:=b4
 deriving Inhabited
def F'(s:St):wU->Option D
 | .tmp t=>aE (s.env.get t)
 | .uT t=>yC (s.env.get t) s.H
 | .Q6 n t=>xH n (s.env.get t) s.H
def wL(s:St):List wU->Option (List D)
 | []=>aE []
 | x::r=>match F' s x,wL s r with
  | some d,aE l=>aE (d::l)
  | _,_=>bb
def results(fn:jK)(s:St):Option D:=match wL s fn.results with
 | some [d]=>aE d
 | some ds=>aE (.tup ds)
 | none=>bb
def vx(args:List D):Env:=args.zipIdx.map λp=>(p.2,p.1)
def vG:List Nat->List D->Env->Env
 | k::ks,d::ds,env=>vG ks ds ((k,d)::env)
 | _,_,env=>env
def lB(env:il):jh->Option (FuncId×List D)
 | .call f args=>aE (f,args.map (ev env))
 | .callN f args=>aE (f,args.map (ev env))
 | .callv f args=>match ev env f with
  | .fn (.func k) first cap=>aE (k,first++args.map (ev env)++cap)
  | _=>bb
 | _=>bb
def Ja:jh->Bool
 | .call _ _ | .callN _ _ | .callv _ _=>bs
 | _=>b4
def guardOf(env:il):Option (Nat×Bool)->Option Bool
 | none=>aE bs
 | some (s,want)=>match env s with
  | .val (.bool b)=>aE (b == want)
  | .val (.tuple _)=>aE b4
  | _=>bb
def zM(n:Nat):D->D
 | .gh v g sz off len=>.gh (v+n) g sz off len
 | d=>d
def lz(n:Nat):D->D
 | .gh v g sz off len=>.gh (v+n) g sz off len
 | .gM v=>.gM (v+n)
 | .tup ds=>.tup (ds.map (zM n))
 | .agg ds=>.agg (ds.map (zM n))
 | d=>d
def pq:Ob->Bool
 | .row _ _ cs=>gN cs
 | .map _ es=>es.all λx=>closed x.2
 | _=>b4
def rl:Ob->Bool
 | .row _ _ cs=>tI cs
 | _=>b4
def zT(p:D->Bool):D->Bool
 | .gh .. => bs
 | d=>p d
def yF(p:D->Bool):D->Bool
 | .gh .. => bs
 | .gM _=>bs
 | .tup ds=>ds.all (zT p)
 | .agg ds=>ds.all (zT p)
 | d=>p d
def od:D->Bool:=yF closed
def p5:D->Bool:=yF flat
def rowsOf(H:gg)(v:Nat):Option (TypeId×Nat×List D):=match H[v]? with
 | some (.row t g cs)=>aE (t,g,cs)
 | _=>bb
def iO(H:gg):Nat->D->List Nat
 | 0,_=>[]
 | k+1,d=>if closed d then []else match d with
  | .agg cs | .tup cs | .gH cs=>(cs.map (iO H k)).flatten
  | .sl _ es=>(es.map λe=>(e.map (iO H k)).flatten).flatten
  | .fn _ a b=>(a.map (iO H k)).flatten++(b.map (iO H k)).flatten
  | .gh v _ _ _ _ | .ptr v _ _=>v::(match rowsOf H v with
   | some (_,_,cs)=>(cs.map (iO H k)).flatten
   | none=>[])
  | .gM v | .jt v=>[v]
  | _=>[]
def leave(own:Nat)(n:Nat)(H:gg)(d:D):D×gg:=
 if H.l<=n\/own=4 then(d,H)else
 let K:=dedup (((match own with|0=>[]|1=>F3 n d|3=>((iO H 40 d).filter (n<=·)).take 1|_=>(iO H 40 d).filter (n<=·))++((H.take n).map (pZ n)).flatten).filter (· < H.l))
 let ks:=jC n K
 (gA (jc ks) H 40 d,sV ks H)
def nz(H:gg)(S:List Nat):oQ:=(en H.l).map λv=>(v,!(S.contains v))
structure sC where
 params:List Nat
 a:IR
 b:IR
 deriving Inhabited
structure iL where
 fn:FuncId->Option jK
 round:Nat->Option sC:=λ_=>bb
 sort:FuncId->Option Nat:=λ_=>bb
 uM:FuncId->Bool:=λ_=>b4
 uq:FuncId->Bool:=λ_=>b4
def after(s:St)(dst:Option Nat)(args:List D)(r:D)(Hn:gg):Option St:=
 if (if gN args then od r&&Hn.all pq else p5 r&&Hn.all rl)then
  aE { s with env:=put s.env dst (lz s.H.l r),H:=s.H++Hn }else bb
def mQ(S:List Nat)(s:St):St:=
 let ks:=nz s.H S
 { s with env:=s.env.map λp=>(p.1,gA (jc ks) s.H 40 p.2),H:=sV ks s.H }
def za{ds:List D}(h:gN ds=bs){i:Nat}{d:D}(a:ds[i]? = aE d):closed d=true:=by
 induction ds generalizing i with
 | nil=>simp at a
 | cons x xs b=>
  simp only[gN,ai]at h
  cases i with
  | zero=>simp at a;subst a;exact h.1
  | succ i=>exact b h.2 (by simpa using a)
def aei{es:List (List D)}(h:EF es=bs){i:Nat}{e:List D}(a:es[i]? = aE e):gN e=true:=by
 induction es generalizing i with
 | nil=>simp at a
 | cons x xs b=>
  simp only[EF,ai]at h
  cases i with
  | zero=>simp at a;subst a;exact h.1
  | succ i=>exact b h.2 (by simpa using a)
theorem gq.closed{c c':Ctx}{w:World}(A:∀b,c.F b->c'.F b){u:Value}{d:D}(h:gq c w u d)(l:closed d=bs):gq c' w u d:=by
 induction h with
 | any v=>exact .any _
 | val v=>exact .val _
 | agg vs ds hl h1 h n=>exact .agg vs _ hl h1 λi v d m k=>n i v d m k (za l k)
 | tup vs ds hl h n=>exact .tup vs _ hl λi v d m k=>n i v d m k (za l k)
 | sl a len cap sz es g r E y H x p I n=>
  refine .sl a len cap sz _ g r E y H x ?_ λi e j d s k=>n i e j d s k (za (aei l s) k);intro i e j d s k;obtain⟨b,o,z,q,t,h1⟩:=p i e j d s k;exact⟨b,o,z,A b q,t,h1⟩
 | gp=>exact .gp
 | mM a vs y x p=>
  refine .mM a vs y x ?_;intro i v m;obtain⟨b,o,z,q,t,h1⟩:=p i v m;exact⟨b,o,z,A b q,t,h1⟩
 | gh=>cases l
 | nq=>cases l
 | ptr=>cases l
 | gH b o cs g q p I n=>exact .gH b o _ g (A b q) p λj d k=>n j d k (za l k)
 | gM=>cases l
 | fn f fs cs K L F G h1 J C B=>
  simp only[AL.closed,ai]at l;exact .fn f fs cs _ _ F G (λi v d m k=>C i v d m k (za l.1 k)) (λi v d m k=>B i v d m k (za l.2 k))
 | jt=>cases l
def ER{ds:List D}(h:tI ds=bs){i:Nat}{d:D}(a:ds[i]? = aE d):flat d=true:=by
 induction ds generalizing i with
 | nil=>simp at a
 | cons x xs b=>
  simp only[tI,ai]at h
  cases i with
  | zero=>simp at a;subst a;exact h.1
  | succ i=>exact b h.2 (by simpa using a)
theorem gq.flat{c c':Ctx}{w:World}{u:Value}{d:D}(h:gq c w u d)(b:flat d=bs):gq c' w u d:=by
 induction h with
 | any v=>exact .any _
 | val v=>exact .val _
 | agg vs ds hl h1 h j=>exact .agg vs _ hl h1 λi v d k f=>j i v d k f (ER b f)
 | tup vs ds hl h j=>exact .tup vs _ hl λi v d k f=>j i v d k f (ER b f)
 | sl a len cap sz es g e m n p l o q j=>
  simp only[AL.flat,eE]at b;subst b;exact .sl a len cap sz _ g e m n gf l gf gf
 | gp=>exact .gp
 | mM=>cases b
 | gh=>cases b
 | nq=>cases b
 | ptr=>cases b
 | gH=>cases b
 | gM=>cases b
 | fn=>cases b
 | jt=>cases b
theorem WA(sz:Nat):∀(n:Nat) (cs:List D),(chunks sz n cs).l=n
 | 0,_=>rfl
 | n+1,cs=>by simp[chunks,WA sz n]
theorem Re(sz:Nat):∀(n:Nat) (cs:List D) (i:Nat) (e:List D),(chunks sz n cs)[i]? = aE e->i<n/\e=(cs.drop (i*sz)).take sz
 | 0,_,i,e,h=>by simp[chunks]at h
 | n+1,cs,0,e,h=>by simp[chunks]at h;subst h;simp
 | n+1,cs,i+1,e,h=>by simp only[chunks,dy]at h;obtain⟨h1,a⟩:=Re sz n _ i e h;refine⟨U,?_⟩;rw[a,cz];congr 2;rw[bt];omega
def apD{c:Ctx}{w:World}{b o sz len cap:Nat}{vs:List Value}{ds:List D}(n:c.F b)(k:Cells c w vs ds)(hl:ds.l=len*sz)(l:len<=cap)(m:cap<=maxLen)
  (r:∀(j:Nat) (v:Value),vs[j]? = aE v->w.cell? ⟨b,o+j,bb⟩=aE v):gq c w (.slice (aE ⟨b,o,bb⟩) len cap) (.sl sz (chunks sz len ds)):=by
 have h:∀(i:Nat) (e:List D) (j:Nat) (d:D),(chunks sz len ds)[i]? = aE e->e[j]? = aE d->ds[i*sz+j]? = aE d/\j<sz:=by
  intro i e j d a f;obtain⟨_,rfl⟩:=Re sz len ds i e a;rw[aJ]at f;split at f
  .grind
  .cases f
 refine .sl _ len cap sz _ (λi j=>vs.getD (i*sz+j) undef) (WA _ _ _) l m ?_ gf ?_ ?_
 .intro e a;obtain⟨i,hi⟩:=aH.1 a;obtain⟨h1,rfl⟩:=Re sz len ds i e hi;simp only[aG,aX,hl];have:(i+1)*sz<=len*sz:=bE _ h1;rw[bt]at this;omega
 .intro i e j d a f;obtain⟨h1,_⟩:=h i e j d a f;obtain⟨v,g,q,_⟩:=k.get h1;refine⟨b,o,rfl,n,?_,?_⟩
  .grind
  .grind
 .intro i e j d a f;obtain⟨h1,_⟩:=h i e j d a f;obtain⟨v,g,_,p⟩:=k.get h1;simp only[List.getD,g,a7];exact p
theorem Cells.map{c c':Ctx}{w:World}{f:D->D}(g:∀v d,gq c w v d->gq c' w v (f d)){vs:List Value}{cs:List D}(h:Cells c w vs cs):Cells c' w vs (cs.map f):=
 ⟨by simpa using h.len,h.one,λi v d e a=>by
  simp only[ax,aq]at a;obtain⟨d0,b,rfl⟩:=a
  exact g _ _ (h.rep i v d0 e b)⟩
def Ctx.gA(c:Ctx)(ks:oQ)(H:gg):Ctx where
 ι:=λi g=>match ks[i]? with
  | some p=>c.ι p.1 g
  | none=>bb
 F:=λb=>c.F b\/∃v L,mJ c H v L/\jc ks v=bb/\L.ko=b4/\L.b=b
 RT:=c.RT
def acf{ks:oQ}{v i:Nat}(h:jc ks v=aE i):ks[i]? = aE (v,bs):=by unfold jc at h;rw[ey]at h;obtain⟨hi,a,_⟩:=h;simp only[ai,beq_iff_eq]at a;rw[List.getElem?_eq_getElem hi];congr 1;exact cL a.2 a.1
def ace{ks:oQ}{v:Nat}(h:jc ks v=bb)(i:Nat):ks[i]?≠aE (v,bs):=by intro hi;unfold jc at h;rw[dS]at h;have:=h _ (List.mem_of_getElem? hi);simp at this
section
variable{G:GT}{c:Ctx}{H:gg}{w:World}{ks:oQ}
theorem Gz{v i g:Nat}(h:jc ks v=aE i):(c.gA ks H).ι i g=c.ι v g:=by simp[Ctx.gA,acf h]
theorem Eo{b:Nat}(h:c.F b):(c.gA ks H).F b:=Or.inl h
theorem VU{v:Nat}{L:Loc}(h1:mJ c H v L)(b:jc ks v=bb)(a:L.ko=b4):(c.gA ks H).F L.b:=Or.inr ⟨v,L,h1,b,a,rfl⟩
theorem BI(h:gL G c H w):∀(k:Nat) {u:Value} {d:D},gq c w u d->gq (c.gA ks H) w u (gA (jc ks) H k d)
 | 0,u,d,q=>by
  unfold AL.gA;split
  .rename_i M;exact q.closed (λb N=>Eo N) M
  .exact .any _
 | k+1,u,d,q=>by
  have A:=λ{u:Value} {d:D} (q:gq c w u d)=>BI h k q;unfold AL.gA;split
  .rename_i M;exact q.closed (λb N=>Eo N) M
  .cases q with
   | any v=>exact .any _
   | val v=>exact .val _
   | agg vs ds hl h1 z=>
     refine .agg vs _ (by simpa using hl) h1 λi v d l y=>?_;simp only[ax,aq]at y;obtain⟨d0,B,rfl⟩:=y;exact A (z i v d0 l B)
   | tup vs ds hl z=>
     refine .tup vs _ (by simpa using hl) λi v d l y=>?_;simp only[ax,aq]at y;obtain⟨d0,B,rfl⟩:=y;exact A (z i v d0 l B)
   | sl a len cap sz es g s E F iX V Q q=>
    refine .sl a len cap sz _ g (by simpa using s) E F ?_ V ?_ ?_
    .grind
    .intro i e j d R y;simp only[ax,aq]at R;obtain⟨e0,K,rfl⟩:=R;simp only[ax,aq]at y;obtain⟨d0,B,rfl⟩:=y;obtain⟨b,o,ha,I,T,h1⟩:=Q i e0 j d0 K B;exact⟨b,o,ha,Eo I,T,h1⟩
    .grind
   | gp=>exact .gp
   | mM a vs h1 z S=>rename_i Z;exact absurd rfl Z
   | gh v g sz off len cap L p l E F U=>
    dsimp only;split
    .rename_i v' r;exact .gh v' g sz off len cap L (by rw[Gz r];exact p) l E F U
    .rename_i P;split
     .rename_i t cs J;split
      .rename_i oq;have C:=vF J;obtain⟨arr,h1,z,S,O⟩:=zW h C p l;have X:=(((O.drop (off*sz)).map (λ_ _ q=>A q)).take (len*sz));have s:((cs.drop (off*sz)).map (AL.gA (jc ks) H k)).l=(cs.l-off*sz):=gf
       have SB:chunks sz len ((cs.drop (off*sz)).map (AL.gA (jc ks) H k))=chunks sz len (((cs.drop (off*sz)).map (AL.gA (jc ks) H k)).take (len*sz)):=by
        have key:∀(n:Nat) (xs:List D),chunks sz n xs=chunks sz n (xs.take (n*sz)):=by
         intro n
         induction n with
         | zero=>intro xs;rfl
         | succ n A=>
          intro xs;simp only[chunks];rw[ej,Nat.min_eq_left (by rw[bt];omega),A (xs.drop sz),List.drop_take,show(n+1)*sz-sz=n*sz by rw[bt];omega]
        exact key _ _
       rw[SB];refine apD (VU ⟨_,C,rfl,p⟩ P l) X ?_ E F λj x m=>?_
       .grind
       .rw[aJ]at m;split at m
        .rw[aM,aJ]at m;split at m
         .rw[aM]at m;simp[World.cell?,h1];rw[bg];simpa using m
         .cases m
        .cases m
      .exact .any _
     .exact .any _
   | nq v g sz off L p a=>
    dsimp only;split
    .rename_i v' r;exact .nq v' g sz off L (by rw[Gz r];exact p) a
    .split
     .split
      .exact .sl a 0 0 sz _ (λ_ _=>undef) rfl (eh _) (by unfold maxLen;omega) (by simp[chunks]) (λ_=>rfl) (by simp[chunks]) (by simp[chunks])
      .exact .any _
     .exact .any _
   | ptr v g off L p l=>
    dsimp only;split
    .rename_i v' r;exact .ptr v' g off L (by rw[Gz r];exact p) l
    .rename_i P;split
     .rename_i t cs J;have C:=vF J;obtain⟨arr,h1,z,S,O⟩:=zW h C p l;refine RS (VU ⟨_,C,rfl,p⟩ P l) ⟨_,(O.drop off).map (λ_ _ q=>A q),λj x m=>?_⟩;rw[aM,aJ]at m;split at m
      .rw[aM]at m;simp[World.cell?,h1];rw[bg];simpa using m
      .cases m
     .exact .any _
   | gH b o cs g I Q q=>
    refine .gH b o _ g (Eo I) ?_ ?_
    .grind
    .grind
   | gM v L p l=>
    dsimp only;split
    .rename_i v' r;exact .gM v' L (by rw[Gz r];exact p) l
    .exact .any _
   | fn f fs cs df dc W Y h1 z=>
    refine .fn f fs cs _ _ (by simpa using W) (by simpa using Y) ?_ ?_
    .grind
    .grind
   | jt v L p l=>
    dsimp only;split
    .rename_i v' r;exact .jt v' L (by rw[Gz r];exact p) l
    .exact .any _
