/- Part 4 of DisputeReferee. -/
import Derived.Test.YtmehofoficaelaaGreatDoorR03
import Derived.Laws.IdiomRangeMap
import Derived.RangeFuncLeaves
import Derived.OwnWalkIn
set_option linter.all false
namespace Go.AL
open Go
section
variable{G:GT}{c:Ctx}{H:U}{w:World}{ks:mP}
def zx(ks:mP):Prop:=∀(i j:Nat) (p q:Nat×Bool),ks[i]? = some p->ks[j]? = some q->p.1=q.1->i=j
theorem Rh{i:Nat}{o:Ob}(h:(p6 ks H)[i]? = some o)(d:o≠.dead):∃v a,ks[i]? = some (v,true)/\H[v]? = some a/\o=oN (il ks) H a:=by
 unfold p6 at h;simp only[ar,aj]at h;obtain⟨p,c,b⟩:=h;split at b
 .grind
 .grind
theorem Ym{o:Ob}(h:(oN (il ks) H o).alive=true):o.alive=true/\(oN (il ks) H o).gen=o.gen:=by cases o<;>simp_all [oN,Ob.alive,Ob.gen]
theorem Q3{v i:Nat}(b:zx ks)(h:ks[i]? = some (v,true)):il ks v=some i:=by
 cases a:il ks v with
 | none=>exact absurd h (XY a i)
 | some j=>
  have:=XZ a;rw[b i j _ _ h this rfl]
theorem L8{i:Nat}{L:Loc}(h:lB (c.fL ks H) (p6 ks H) i L):∃v,ks[i]? = some (v,true)/\lB c H v L:=by obtain⟨o,f,a,b⟩:=h;obtain⟨v,d,h1,g,rfl⟩:=Rh f (by intro e;subst e;cases a);obtain⟨k,j⟩:=Ym a;refine⟨v,h1,d,g,k,?_⟩;rw[j]at b;simpa[Ctx.fL,h1]using b
theorem Xt{b:Nat}(h:lN (c.fL ks H) (p6 ks H) b):lN c H b:=by obtain⟨i,L,hl,a,e⟩:=h;obtain⟨v,_,d⟩:=L8 hl;exact⟨v,L,d,a,e⟩
theorem Dm(h:gf G c H w)(U:zx ks):gf G (c.fL ks H) (p6 ks H) w where
 inj i j L N h1 A h3 h4 P:=by obtain⟨v,k1,F⟩:=L8 h1;obtain⟨v',k2,l2⟩:=L8 A;have:=h.inj v v' L N F l2 h3 h4 P;subst this;exact U i j _ _ k1 k2 rfl
 lt b n:=h.lt b (Xt n)
 nF b n K:=by
  obtain⟨i,L,hl,q,e⟩:=n;obtain⟨v,k1,F⟩:=L8 hl;rcases K with K|⟨v',N,l2,T,Q,X⟩
  .exact h.nF b ⟨v,L,F,q,e⟩ K
  .have:=h.inj v v' L N F l2 q Q (e.trans X.symm);subst this;exact XY T i k1
 ki b n:=by
  rcases n with n|⟨v,L,l,_,q,e⟩
  .exact h.ki b n
  .exact h.lt b ⟨v,L,l,q,e⟩
 out i k hi:=by simp only[p6,List.length_map]at hi;simp[Ctx.fL,b6 hi]
 l7 i o k ho z:=by
  have I:o≠.dead:=by rintro rfl;rcases z with z|⟨z,_⟩<;>cases z
  obtain⟨v,y,h1,A,rfl⟩:=Rh ho I;rcases z with z|⟨W,hg⟩
  .cases y<;>simp[oN]at z
  .obtain⟨D,C⟩:=Ym W;have:=h.l7 v y k A (.inr ⟨D,by rw[<-C];exact hg⟩);simpa[Ctx.fL,h1]using this
 ob i o ho:=by
  by_cases I:o = .dead
  .subst I;simp[gK]
  .obtain⟨v,y,h1,A,rfl⟩:=Rh ho I;have h0:=h.ob v y A;have f:(c.fL ks H).ι i y.gen=c.ι v y.gen:=by simp[Ctx.fL,h1]
   have O:∀u d,fF c w u d->fF (c.fL ks H) w u (fL (il ks) H 40 d):=λu d V=>ze h 40 V
   cases y with
   | dead=>simp[oN,gK]
   | lu=>simp[oN,gK]
   | row t g cs=>
    simp only[oN,Ob.gen]at f ⊢;rw[f];simp only[Ob.gen]at h0
    cases a:c.ι v g with
    | none=>rw[a]at h0;simp[gK]at h0
    | some L=>
     rw[a]at h0;simp only[gK]at h0 ⊢;split
     .grind
     .grind
   | map kk es=>
    simp only[oN,Ob.gen]at f ⊢;rw[f];simp only[Ob.gen]at h0
    cases a:c.ι v 0 with
    | none=>rw[a]at h0;simp[gK]at h0
    | some L=>
     rw[a]at h0;simp only[gK]at h0 ⊢;obtain⟨q,Z,M,B,D,C,J,E⟩:=h0;refine⟨q,λx S=>?_,M,B,D,by simpa using C,λj e x P S=>?_,by simpa using E⟩
     .grind
     .grind
   | gV rf env st=>
    simp only[oN,Ob.gen]at f ⊢;rw[f];simp only[Ob.gen]at h0
    cases a:c.ι v 0 with
    | none=>rw[a]at h0;simp[gK]at h0
    | some L=>
     rw[a]at h0;simp only[gK]at h0 ⊢;obtain⟨q,r,D,C,J,E⟩:=h0;refine⟨q,r,D,λk=>?_,J,E⟩
     have key:∀(env:Env) (k:Nat),(Env.get (env.map λx=>(x.1,fL (il ks) H 40 x.2)) k)=fL (il ks) H 40 (env.get k):=by
      intro env k
      induction env with
      | nil=>rfl
      | cons p r R=>
       obtain⟨j,d⟩:=p;simp only[List.map_cons,Env.vC];split
       .rfl
       .exact R
     rw[key];exact O _ _ (C k)
   | rF s p=>
    simp only[oN,Ob.gen]at f ⊢;rw[f];simp only[Ob.gen]at h0
    cases a:c.ι v 0 with
    | none=>rw[a]at h0;simp[gK]at h0
    | some L=>
     rw[a]at h0;simpa only[gK]using h0
   | jb m since seen=>
    simp only[oN,Ob.gen]at f ⊢;rw[f];simp only[Ob.gen]at h0
    cases a:c.ι v 0 with
    | none=>rw[a]at h0;simp[gK]at h0
    | some L=>
     rw[a]at h0;simp only[gK]at h0 ⊢;obtain⟨D,C,Y,J,E⟩:=h0;exact⟨D,C,Y,O _ _ J,E⟩
   | kD=>
    simp only[oN,Ob.gen]at f ⊢;rw[f];simp only[Ob.gen]at h0
    cases a:c.ι v 0 with
    | none=>rw[a]at h0;simp[gK]at h0
    | some L=>
     rw[a]at h0;simpa only[gK]using h0
 gl g cs hg:=by obtain⟨h1,A⟩:=h.gl g cs hg;exact⟨h1,A.closed (λb n=>BQ n) (by simpa[AL.closed]using h1)⟩
 rt:=h.rt
theorem Rm(h:gf G c H w){n:Nat}(g:∀v,v<n->(ks[v]?).map (·.1)=some v):Step n c H w (c.fL ks H) (p6 ks H) w where
 os:=⟨rfl,Nat.le_refl _⟩
 tape:=rfl
 output:=rfl
 size:=Nat.le_refl _
 RT:=rfl
 Fm b a:=BQ a
 Fn b a:=by
  rcases a with a|⟨v,L,l,_,d,e⟩
  .exact .inl a
  .exact .inr (.inr ⟨v,L,l,d,e⟩)
 kept _ _ _:=rfl
 old v k L d fM:=by have:=g v d;simp only[aj]at this;obtain⟨p,f,e⟩:=this;simp only[Ctx.fL,f,e];exact fM
 own b a:=.inr (Xt a)
theorem acN(env:Env)(k:Nat):(Env.get (env.map λx=>(x.1,fL (il ks) H 40 x.2)) k)=fL (il ks) H 40 (env.get k):=by
 induction env with
 | nil=>rfl
 | cons p r a=>
  obtain⟨j,d⟩:=p;simp only[List.map_cons,Env.vC];split
  .rfl
  .exact a
theorem TI(h:gf G c H w){env:Env}{a:Act}(b:kq c w env.get a):kq (c.fL ks H) w (Env.get (env.map λx=>(x.1,fL (il ks) H 40 x.2))) a:=λk=>by rw[acN];exact ze h 40 (b k)
theorem acG(live:List Nat)(env:Env)(k:Nat):(forget live env).get k = .any\/(forget live env).get k=env.get k:=by
 unfold forget
 induction live with
 | nil=>exact .inl rfl
 | cons x r a=>
  simp only[List.map_cons,Env.vC];split
  .grind
  .exact a
theorem B8{env:Env}{a:Act}(b:kq c w env.get a)(live:List Nat):kq c w (forget live env).get a:=λk=>by
 rcases acG live env k with h|h<;>rw[h]
 .exact .any _
 .exact b k
theorem F7{x:Nat}:∀ {l:List Nat},x∈dedup l->x∈l
 | [],h=>h
 | y::r,h=>by
  unfold dedup at h;split at h
  .exact aZ _ (F7 h)
  .rcases aw.1 h with rfl|h
   .grind
   .exact aZ _ (F7 h)
theorem KF{x:Nat}:∀ {l:List Nat},x∈l->x∈dedup l
 | y::r,h=>by
  unfold dedup;split
  .rename_i a;rcases aw.1 h with rfl|h
   .exact KF a
   .exact KF h
  .rcases aw.1 h with rfl|h
   .grind
   .exact aZ _ (KF h)
theorem Mj:∀(l:List Nat),(dedup l).Nodup
 | []=>List.nodup_nil
 | y::r=>by
  unfold dedup;split
  .exact Mj r
  .rename_i a;exact cY.2 ⟨λh=>a (F7 h),Mj r⟩
theorem Wa(h:(ks.map (·.1)).Nodup):zx ks:=by
 intro i j p q f d e;have hi:(ks.map (·.1))[i]? = some p.1:=by simp[f]
 have a:(ks.map (·.1))[j]? = some q.1:=by simp[d]
 have b:=(ae.1 hi).1;have c:=(ae.1 a).1;rw[List.getElem?_eq_getElem b]at hi;rw[List.getElem?_eq_getElem c]at a;simp only[ao]at hi a;exact(List.getElem_inj h).1 (by rw[hi,a,e])
theorem We{n:Nat}{K:List Nat}(g:∀v∈K,n<=v)(c:K.Nodup):zx (iG n K):=by apply Wa;unfold iG;simp only[List.map_append,List.map_map,eI,List.map_id'];rw[c9];refine⟨eT,c,λa f b d e=>?_⟩;subst e;have:=g a d;simp at f;omega
theorem Wd{n:Nat}{K:List Nat}(v:Nat)(a:v<n):((iG n K)[v]?).map (·.1)=some v:=by unfold iG;rw[ah (by simpa using a)];simp[a]
theorem Uv{S:List Nat}:zx (l6 H S):=by apply Wa;unfold l6;simp only[List.map_map,eI,List.map_id'];exact eT
theorem Uu{S:List Nat}(v:Nat)(a:v<H.length):((l6 H S)[v]?).map (·.1)=some v:=by unfold l6;simp[a]
theorem Oi{S:List Nat}:(p6 (l6 H S) H).length=H.length:=by simp[p6,l6]
end
end Go.AL
namespace Go.AL
open Go
def Kw:Operand->Bool
 | .const (.slice none 0 0)=>true
 | _=>false
def Ds(P:Program)(t:TypeId):Bool:=match P.underlying t with
 | some (.slice _)=>true
 | _=>false
def rP(P:Program)(G:GT)(o:Oper):Option iu:=
 match o.op with
 | .binOp .eql t x y _=>if Ds P t=true/\Kw y=true then(cX G x).map (.nilS false)else none
 | .binOp .neq t x y _=>if Ds P t=true/\Kw y=true then(cX G x).map (.nilS true)else none
 | .range t x=>match P.underlying t,cX G x with
  | some .string,some a=>some (.rangeS a)
  | some (.map _ _),some a=>some (.rangeM a)
  | _,_=>none
 | .next x true=>(cX G x).map .nextS
 | .next x false=>(cX G x).map .nextM
 | .entry x=>(cX G x).map .entry
 | .call c=>match c.callee,c.argTypes.toList,c.args.toList with
  | .builtin .cap,[t],[x]=>if Ds P t then(cX G x).map .capE else none
  | .builtin .clear,[t],[x]=>match P.underlying t with
   | some (.slice e)=>match qb P e,P.info? e,cX G x with
    | some z,some i,some a=>if z.length=i.size/\0<i.size then some (.clr i.size z a)else none
    | _,_,_=>none
   | _=>none
  | .builtin .append,[t,u],[x,y]=>match P.underlying t,P.underlying u with
   | some (.slice e),some (.int .i64)=>match qb P e,P.info? e,cX G x,cX G y with
    | some z,some i,some a,some b=>if z.length=i.size/\0<i.size then some (.appZ e i.size i.bytes z a b)else none
    | _,_,_,_=>none
   | _,_=>none
  | _,_,_=>none
 | .mapEntry t m k=>match P.underlying t with
  | some (.map kt e)=>match tK P kt,DC P e,cX G m,cX G k with
   | some kk,some z,some a,some b=>some (.mapEnt kk z a b)
   | _,_,_,_=>none
  | _=>none
 | .entryStore _ m s x=>match cX G m,cX G s,cX G x with
  | some a,some b,some c=>some (.entSt a b c)
  | _,_,_=>none
 | _=>none
def xv(kv:Value):List (Value×D)->Nat->Option (Nat×D)
 | [],_=>none
 | (k,d)::r,i=>if mV kv k then some (i,d)else xv kv r (i+1)
def xu(a:KK)(z:D)(m k:D)(H:U):R:=
 match m,keyOf k with
 | .gg v,some kv=>match kY H v with
  | some (kk,es)=>if kk=a/\kk.has kv=true then(match xv kv es 0 with
    | some (j,d)=>some (.tup [d,.i j],.obj v (.map kk (lZ es kv d)))
    | none=>some (.tup [z,.i es.length],.obj v (.map kk (lZ es kv z))))else none
  | none=>none
 | _,_=>none
def zQ(m s x:D)(H:U):R:=
 match m,s with
 | .gg v,.val (.int .i64 n)=>match kY H v with
  | some (kk,es)=>match es[n.toNat]? with
   | some (k,_)=>if 0<=n then some (.any,.obj v (.map kk (es.set n.toNat (k,x))))else none
   | none=>none
  | none=>none
 | _,_=>none
def Mi(neg:Bool):D->Option D
 | .fJ=>some (.b !neg)
 | .sl _ (_::_)=>some (.b neg)
 | .fy _ _ _ _ (_+1)=>some (.b neg)
 | _=>none
def J9(t sz bytes:Nat)(z:List D)(x n:D)(a:Nat):R:=
 match x,n with
 | .fJ,.val (.int .i64 m)=>if 0<m/\pW (m*bytes) 140737488355328/\pW m 9223372036854775807 then some (.fy a 0 sz 0 m.toNat,.new (.row t 0 (List.replicate m.toNat z).flatten))else none
 | _,_=>none
def Eo(sz:Nat)(z:List D)(x:D)(H:U):R:=
 match x with
 | .fJ=>some (.any,.no)
 | .fy v g a off len=>match rowAt H v g with
  | some (t,cs)=>if a=sz/\(off+len)*sz<=cs.length then some (.any,.obj v (.row t g (cs.take (off*sz)++(List.replicate len z).flatten++cs.drop ((off+len)*sz))))else none
  | none=>none
 | _=>none
def QD(x:D)(H:U):R:=
 match x with
 | .ptr v 0 0=>match H[v]? with
  | some (.rF s p)=>if p<s.size then some (.tup [.b true,.i p,.val (.int .i32 (Utf8.decode s p).1)],.obj v (.rF s (p+(Utf8.decode s p).2)))else some (.tup [.b false],.no)
  | _=>none
 | _=>none
def Gs(x:D)(H:U)(a:Nat):R:=
 match x with
 | .gg m=>match kY H m with
  | some (_,es)=>some (.ptr a 0 0,.new (.jb (.gg m) es.length []))
  | none=>none
 | _=>none
def KN(x:D)(H:U):Option D:=
 match x with
 | .ptr v 0 0=>match H[v]? with
  | some (.jb (.gg m) since seen)=>match kY H m,seen.getLast? with
   | some (_,es),some i=>match es[i]? with
    | some (k,d)=>if es.length=since then some (.tup [rz k,d])else none
    | none=>none
   | _,_=>none
  | _=>none
 | _=>none
def l5(env:gD)(H:U)(n:Nat):iu->R
 | .nilS neg x=>lift (Mi neg (ev env x))
 | .capE x=>match ev env x with
  | .fJ=>some (.i 0,.no)
  | _=>none
 | .appZ t sz bytes z x m=>J9 t sz bytes z (ev env x) (ev env m) n
 | .clr sz z x=>Eo sz z (ev env x) H
 | .rangeS x=>match ev env x with
  | .val (.string s)=>some (.ptr n 0 0,.new (.rF s 0))
  | _=>none
 | .nextS x=>QD (ev env x) H
 | .rangeM x=>Gs (ev env x) H n
 | .entry x=>lift (KN (ev env x) H)
 | .mapEnt kk z m k=>xu kk z (ev env m) (ev env k) H
 | .entSt m s x=>zQ (ev env m) (ev env s) (ev env x) H
 | _=>none
def MW:iu->Bool
 | .nilS .. | .capE .. | .appZ .. | .clr .. | .rangeS .. | .nextS .. | .rangeM .. | .nextM .. | .entry .. | .mapEnt .. | .entSt .. => true
 | _=>false
theorem alk{op:iu}(h:MW op=true)(f:gD)(H:U)(n:Nat):gv f H n op=none:=by cases op<;>first|(cases h;done)|rfl
theorem alm{op:iu}(h:MW op=true)(f:gD):kb f op=none:=by cases op<;>first|(cases h;done)|rfl
theorem NK{P:Program}{G:GT}{o:Oper}{a:iu}(h:rP P G o=some a):MW a=true:=by
 unfold rP at h
 repeat' split at h
 all_goals first|(cases h;done)|(simp only[aj]at h;obtain⟨_,_,rfl⟩:=h;rfl)|(cases h;rfl)
section
variable{P:Program}{G:GT}{c:Ctx}{H:U}{w:World}{env:gD}{a:Act}
abbrev KO(H:U)(al:Al)(d:D)(δ:Dl):ji:=λd' H'=>d'=d/\H'=δ.app H al
theorem Mg(h:gf G c H w){al:Al}(g:mC H al)(o:Obj)(ob:Ob)(hg:ob.gen=0)(f:ob.alive=true)
  (i:(∀u d,fF c w u d->fF (c.set al.1 0 ⟨w.heap.size,0,0,false⟩) (w.alloc o) u d)->(w.alloc o).heap[w.heap.size]? = some o->gK (c.set al.1 0 ⟨w.heap.size,0,0,false⟩) (w.alloc o) (some ⟨w.heap.size,0,0,false⟩) ob) :
  gf G (c.set al.1 0 ⟨w.heap.size,0,0,false⟩) (al.2 ob) (w.alloc o)/\fF (c.set al.1 0 ⟨w.heap.size,0,0,false⟩) (w.alloc o) (.pointer (some ⟨w.heap.size,0,none⟩)) (.ptr al.1 0 0) /\
   Step H.length c H w (c.set al.1 0 ⟨w.heap.size,0,0,false⟩) (al.2 ob) (w.alloc o):=by
 have b:(⟨w.heap.size,0,0,false⟩:Loc).jr=false->w.heap.size<=(⟨w.heap.size,0,0,false⟩:Loc).b/\(⟨w.heap.size,0,0,false⟩:Loc).b<(w.alloc o).heap.size:=λ_=>⟨Nat.le_refl _,by simp⟩;have a:=(g ob).th;have hs:=M3 h a (jJ.alloc w o) ⟨w.heap.size,0,0,false⟩ b;rw[hg]at hs;have h1:=Rz h a (jJ.alloc w o) ⟨w.heap.size,0,0,false⟩ b f (by rw[hg];exact i (λu d e=>e.pc h.toHeapOK hs) (heap_alloc_new w o));rw[hg]at h1;exact⟨h1,.ptr (c:=c.set al.1 0 ⟨w.heap.size,0,0,false⟩) al.1 0 0 ⟨w.heap.size,0,0,false⟩ (Ctx.rE _ _ _ _) rfl,hs⟩
theorem Xi(h:gf G c H w){t:TypeId}(f:Ds P t=true){neg:Bool}{x d:D}{u:Value}(i:fF c w u x)(a:Mi neg x=some d)(xo k:Operand) :
  ∃r,(do eqGuard (if neg then .neq else .eql) t xo k u (.slice none 0 0);binOp (if neg then .neq else .eql) t u (.slice none 0 0)).run P w = .ok r w/\fF c w r d:=by
 have v:∃e,P.underlying t=some (.slice e):=by
  unfold Ds at f;split at f
  .exact⟨_,by assumption⟩
  .cases f
 obtain⟨e,s⟩:=v
 have j:∀(n:Nat) (ad:Option Addr) (len cap:Nat),(Op.equalIn (n+1) t (.slice ad len cap) (.slice none 0 0)).run P w = .ok ad.isNone w:=by intro n ad len cap;cases ad<;>simp[Op.equalIn,run_underlying s]
 have o:∀ad len cap,Op.equal t (.slice ad len cap) (.slice none 0 0)=Op.equalIn (9999+1) t (.slice ad len cap) (.slice none 0 0):=λ_ _ _=>rfl
 have key:∀(ad:Option Addr) (len cap:Nat),u = .slice ad len cap->(do eqGuard (if neg then .neq else .eql) t xo k u (.slice none 0 0);binOp (if neg then .neq else .eql) t u (.slice none 0 0)).run P w = .ok (.bool (if neg then !ad.isNone else ad.isNone)) w:=by rintro ad len cap rfl;have h1:=j 9999 ad len cap;cases neg<;>simp only[eqGuard,binOp,o,bq,if_false,if_true,Sem.run_bind,Bool.not_true,Sem.run_pure,Result.andThen_ok,h1]
 unfold Mi at a;split at a
 .cases a;cases i;exact⟨_,key none 0 0 rfl,by cases neg<;>exact .val _⟩
 .cases a
  cases i with
  | sl ad len cap sz es g b m p z l B E=>
   have:ad≠none:=λe=>by have:=l e;simp at b;omega
   obtain⟨q,rfl⟩:=Option.ne_none_iff_exists'.1 this;exact⟨_,key _ _ _ rfl,by cases neg<;>exact .val _⟩
 .cases a
  cases i with
  | fy _ _ _ _ _ cap L C A m p y=>exact⟨_,key _ _ _ rfl,by cases neg<;>exact .val _⟩
 .cases a
theorem ajj(h:gf G c H w){v g o:Nat}{b:TypeId}{cs xs:List D}(l:H[v]? = some (.row b g cs)){L:Loc}(q:c.ι v g=some L)(n:L.jr=false){vs:List Value}(j:Cells c w vs xs)
  (E:o+xs.length<=cs.length):∃w',(storeCells ⟨L.b,L.base+o,none⟩ vs).run P w = .ok () w'/\gf G c (H.set v (.row b g (cs.take o++xs++cs.drop (o+xs.length)))) w'/\Step H.length c H w c (H.set v (.row b g (cs.take o++xs++cs.drop (o+xs.length)))) w':=by
 obtain⟨a,h1,z,F,x⟩:=xD h l q n;have r:vs.length=xs.length:=j.len;have p:=run_storeCells_at P L.b (L.base+o) b vs 0 a w h1 (by simp;omega) j.one;simp only[cd]at p
 have k:=DB h l q n h1 (a.toList.take (L.base+o)++vs++a.toList.drop (L.base+o+vs.length)).toArray
  (by simp;omega) z (cs.take o++xs++cs.drop (o+xs.length)) (by simp;omega) (λi d m=>by
   have B:=x.rG j o;obtain⟨y,s,u,t⟩:=B.get m;refine⟨y,?_,u,t⟩;rw[<-s];simp only[db];have e:(List.take (L.base+o) a.toList).length=L.base+o:=by simp;omega
   have f:(List.take o (List.take cs.length (List.drop L.base a.toList))).length=o:=by simp;omega
   by_cases A:i<o
   .rw[ah (by simp;omega),ah (by rw[e];omega),ah (by simp;omega),ah (by rw[f];omega)];simp only[aC,aH];rw[if_pos (by omega),if_pos A,if_pos (by omega)]
   .by_cases c2:i<o+xs.length
    .rw[ah (by simp;omega),ai (by rw[e];omega),ah (by simp;omega),ai (by rw[f];omega),e,f];congr 1;omega
    .have C:i<cs.length:=by have:=(ae.1 m).1;simp at this;omega
     rw[ai (by simp;omega),ai (by simp;omega)];simp only[aH,aC,au,e,f,r];rw[if_pos (by omega)];congr 1
     omega)
 exact⟨_,p,k.1,k.2⟩
theorem ajk(h:gf G c H w){al:Al}{t e ty:TypeId}{i:TypeInfo}{z:List D}(l:P.underlying t=some (.slice e))(hi:P.info? e=some i)(J:qb P e=some z)(A:z.length=i.size)(S:0<i.size)
  {x d:D} {δ:Dl} {u:Value} (r:fF c w u x) (a:Eo i.size z x H=some (d,δ)):∃w',(Builtin.clear_ #[t] ty #[u]).run P w = .ok (.tuple #[]) w'/\iJ G c H w (KO H al d δ) (.tuple #[]) w':=by
 unfold Eo at a;split at a
 .cases a;cases r;exact⟨w,by simp[Builtin.clear_,run_underlying l],_,_,c,⟨rfl,rfl⟩,h,.any _,Step.refl _ _ _ _⟩
 .rename_i v g V off len;split at a
  .rename_i f cs K;split at a
   .rename_i I;obtain⟨rfl,E⟩:=I;cases a;have k:=te K;dsimp only at k;obtain⟨b,B,W,p⟩:=zk J w;have Q:b.cells.size=i.size:=by have:=(p c w).len;simp at this;omega
    have m:(Dl.obj v (.row f g (cs.take (off*i.size)++(List.replicate len z).flatten++cs.drop ((off+len)*i.size)))).app H al=H.set v (.row f g (cs.take (off*i.size)++(List.replicate len z).flatten++cs.drop ((off+len)*i.size))):=rfl;have q:(List.replicate len z).flatten.length=len*i.size:=by simp[A]
    have n:(.row f g (cs.take (off*i.size)++(List.replicate 0 z).flatten++cs.drop ((off+0)*i.size)))=Ob.row f g cs:=by simp
    have j:H.set v (.row f g cs)=H:=by have N:=(ae.1 k).1;have F:=(ae.1 k).2;rw[<-F];exact dT N
    cases r with
    | fy _ _ _ _ _ cap L y M T U R=>
     by_cases s:len=0
     .subst s;refine⟨w,by simp[Builtin.clear_,run_underlying l],_,_,c,⟨rfl,rfl⟩,?_,.any _,?_⟩
      .rw[m,n,j];exact h
      .rw[m,n,j];exact Step.refl _ _ _ _
     .have C:Cells c w (Builtin.zeroCells b.cells len).toList (List.replicate len z).flatten:=by
       have h1:(Builtin.zeroCells b.cells len).toList=(List.replicate len b.cells.toList).flatten:=by unfold Builtin.zeroCells;exact Mv b.cells len (by omega)
       rw[h1];exact K4 _ _ p len
      obtain⟨w',k1,k2,k3⟩:=ajj (P:=P) (o:=off*i.size) h k y M C (by rw[q,<-bh];exact E);rw[q,<-bh]at k2 k3;refine⟨w',?_,_,_,c,⟨rfl,rfl⟩,k2,.any _,k3⟩;obtain⟨O,rfl⟩:=Nat.exists_eq_succ_of_ne_zero s;simp[Builtin.clear_,run_underlying l,B,k1]
    | l3 _ _ _ _ L y ad=>
     refine⟨w,by cases ad<;>simp[Builtin.clear_,run_underlying l],_,_,c,⟨rfl,rfl⟩,?_,.any _,?_⟩
     .rw[m,n,j];exact h
     .rw[m,n,j];exact Step.refl _ _ _ _
   .cases a
  .cases a
 .cases a
theorem ajc(h:gf G c H w){al:Al}(X:mC H al){t u ty e:TypeId}{i:TypeInfo}{z:List D}(T:P.underlying t=some (.slice e))(S:P.underlying u=some (.int .i64))(hi:P.info? e=some i)(R:qb P e=some z)(xi:z.length=i.size)(O:0<i.size)
  {x y d:D} {δ:Dl} {A v:Value} (h1:fF c w A x) (V:fF c w v y) (b:J9 e i.size i.bytes z x y al.1=some (d,δ)) :
  ∃r w',(Builtin.append_ #[t,u] ty #[A,v]).run P w = .ok r w'/\iJ G c H w (KO H al d δ) r w':=by
 unfold J9 at b;split at b
 .rename_i m;split at b
  .rename_i Q;cases b;cases h1;cases V;obtain⟨a,uR,LV,B⟩:=zk R w;have CX:i.zero=some a:=by simpa[hi]using LV
   have I:a.cells.size=i.size:=by have:=(B c w).len;simp at this;omega
   obtain⟨n,rfl⟩:∃n:Nat,m=n:=⟨m.toNat,by omega⟩;obtain⟨LF,f,F⟩:=Q;simp only[pW]at f F;have E:0<n:=by omega
   have p:n*i.bytes<=140737488355328:=by
    have h1:((n*i.bytes:Nat):Int)<=140737488355328:=by rw[Int.natCast_mul];exact f
    omega
   have UJ:n<=9223372036854775807:=by omega
   have J:=grownCap_ge w n 0 e;have K:=grownCap_le_maxLen w n 0 e (by unfold maxLen;omega);have wn:IntKind.i64.wrap (n:Int)=n:=wrap_i64 (by unfold nq;omega)
   have W:(Builtin.append_ #[t,u] ty #[.slice none 0 0,.int .i64 n]).run P w = .ok (.slice (some ⟨w.heap.size,0,none⟩) n (grownCap w n 0 e))
     (w.drew.alloc (.cells (Builtin.zeroCells a.cells n++Builtin.zeroCells a.cells (grownCap w n 0 e-n)) e)):=by
    have j:¬(n=0):=by omega
    have s:∀w:World,(asInt (.int .i64 (n:Int))).run P w = .ok (n:Int) w:=λw=>by simp[asInt,asIntOf]
    have k:¬((n:Int)<=0):=by omega
    have N:max (n:Int) 0=n:=by omega
    have U:(n:Int).toNat=n:=by omega
    have g:¬(i.size=0):=by omega
    have o:¬((n:Int)<0):=by omega
    have l:¬(281474976710656<(n:Int)*(i.bytes:Int)):=by have:(n:Int)*(i.bytes:Int)<=140737488355328:=f;omega
    have OE:¬(281474976710656<Builtin.nextslicecap n 0*i.bytes):=by have:=growslice_fits (old:=0) E p;omega
    have q:¬(9223372036854775807<(n:Int)):=by omega
    simp[Builtin.append_,run_underlying T,run_underlying S,sizeOf,typeInfo,zeroValue,hi,CX,s,wn,o,l,j,g,OE,q,k,N,Question.forced,newRow,grownCap,run_firstCells_none];intro h0;exact absurd h0 (Nat.ne_of_gt (Nat.mul_pos E O))
   refine⟨_,_,W,?_⟩
   have M:Cells c w (Builtin.zeroCells a.cells n).toList (List.replicate n z).flatten:=by
    have h1:(Builtin.zeroCells a.cells n).toList=(List.replicate n a.cells.toList).flatten:=by unfold Builtin.zeroCells;exact Mv a.cells n (by omega)
    rw[h1];exact K4 _ _ B n
   have g:(Builtin.zeroCells a.cells n++Builtin.zeroCells a.cells (grownCap w n 0 e-n)).size=grownCap w n 0 e*i.size:=by simp only[b9,size_zeroCells,I,<-bh];congr 1;omega
   obtain⟨L,e1,e2,e3,e4,Z,Y⟩:=C8 h w.drew (jJ.drew w) e _ (List.replicate n z).flatten (Builtin.zeroCells a.cells n).size (Builtin.zeroCells a.cells n++Builtin.zeroCells a.cells (grownCap w n 0 e-n)) (X _).th M (by
    simp only[cV]
    exact List.take_left' (by simp)) (by simp only[b9];omega)
   have C:=Gi (c:=c) (w:=w.drew.alloc (.cells (Builtin.zeroCells a.cells n++Builtin.zeroCells a.cells (grownCap w n 0 e-n)) e)) e1 e3 al.1 0 i.size n (grownCap w n 0 e) (by rw[e4,g]) J K;rw[e2]at C;exact⟨_,_,_,⟨rfl,rfl⟩,Z,C,Y⟩
  .cases b
 .cases b
theorem ajD(h:gf G c H w){al:Al}{x d:D}{δ:Dl}{u:Value}{ty:TypeId}(o:fF c w u x)(f:QD x H=some (d,δ)):∃r w',(Instr.next u true ty).run P w = .ok r w'/\iJ G c H w (KO H al d δ) r w':=by
 unfold QD at f;split at f
 .rename_i v;split at f
  .rename_i s p a
   cases o with
   | ptr _ _ _ L m l=>
    have j:=h.ob v _ a;simp only[Ob.gen]at j;rw[m]at j;simp only[gK]at j;obtain⟨_,k,e⟩:=j;have q:=(aL.1 e).1;rw[k]
    by_cases g:p<s.size
    .rw[if_pos g]at f;cases f
     obtain⟨m1,m2⟩:=zq h a rfl rfl (ob':=.rF s (p+(Utf8.decode s p).2)) rfl m l (.stringIter s (p+(Utf8.decode s p).2)) (λw' n _=>by simp only[gK];exact⟨l,k,n⟩)
     refine⟨.tuple #[.bool true,goInt p,.int .i32 (Utf8.decode s p).1],_,?_,_,_,c,⟨rfl,rfl⟩,m1,?_,m2⟩
     .simp[Instr.next,getObj,setObj,Sem.run,e,g]
     .refine .tup [.bool true,goInt p,.int .i32 (Utf8.decode s p).1] _ rfl λi v d a b=>?_
      match i,a,b with
      | 0,a,b=>cases a;cases b;exact .val _
      | 1,a,b=>cases a;cases b;exact .val _
      | 2,a,b=>cases a;cases b;exact .val _
    .rw[if_neg g]at f;cases f;refine⟨.tuple #[.bool false],w,?_,_,_,c,⟨rfl,rfl⟩,h,?_,Step.refl _ _ _ _⟩
     .simp[Instr.next,getObj,Sem.run,e,g]
     .refine .tup [.bool false] _ rfl λi v d a b=>?_
      match i,a,b with
      | 0,a,b=>cases a;cases b;exact .val _
  .cases f
 .cases f
theorem ajo(h:gf G c H w){x d:D}{u:Value}(I:fF c w u x)(b:KN x H=some d):∃r,(Instr.entry u).run P w = .ok r w/\fF c w r d:=by
 unfold KN at b;split at b
 .rename_i v;split at b
  .rename_i m since seen f;split at b
   .rename_i kk es i J T;split at b
    .rename_i k d0 y;split at b
     .rename_i l;cases b;have z:=s6 J;dsimp only at z
      cases I with
      | ptr _ _ _ L M V=>
       have q:=h.ob v _ f;simp only[Ob.gen]at q;rw[M]at q;simp only[gK]at q;obtain⟨_,E,W,R,o⟩:=q
       cases R with
       | gg _ X S Y=>
        have p:=h.ob m _ z;simp only[Ob.gen]at p;rw[S]at p;simp only[gK]at p;obtain⟨_,C,a,g,O,B,A,Q⟩:=p;have hi:i<a.size:=by rw[B];exact(ae.1 y).1
        have N:a[i]? = some a[i]:=by simp[hi]
        obtain⟨q1,q2,q3⟩:=A i _ _ N y;have t:seen.toArray.back? = some i:=by simpa[Array.back?_eq_getElem?,List.getLast?_eq_getElem?]using T
        have s:a.find? (λe=>e.born == i)=some a[i]:=by
         rw[Array.find?_eq_some_iff_getElem];refine⟨by simp[q3],i,hi,rfl,λj U=>?_⟩;have F:j<es.length:=by rw[<-B];omega
         have:=(A j a[j] es[j] (by simp) (by simp[F])).2.2;simp[this]
         try omega
        refine⟨.tuple #[k,a[i].val],?_,?_⟩
        .rw[E];have K:g=since:=by rw[Q,l]
         subst K;simp only[aM];simp only[Instr.entry,getObj,Sem.run_bind,Sem.run,o,Result.andThen_ok,t,O,s];simp[q1]
        .refine .tup [k,a[i].val] _ rfl λj v d f n=>?_
         match j,f,n with
         | 0,f,n=>cases f;cases n;exact XU (C _ (List.mem_of_getElem? y))
         | 1,f,n=>cases f;cases n;exact q2
     .cases b
    .cases b
   .cases b
  .cases b
 .cases b
theorem ajG(h:gf G c H w){al:Al}(v:mC H al){t:TypeId}{k e:TypeId}(o:P.underlying t=some (.map k e)){x d:D}{δ:Dl}{u:Value}(p:fF c w u x)(b:Gs x H al.1=some (d,δ)) :
  ∃r w',(Instr.range t u).run P w = .ok r w'/\iJ G c H w (KO H al d δ) r w':=by
 unfold Gs at b;split at b
 .rename_i m;split at b
  .rename_i kk es q;cases b;have j:=s6 q;dsimp only at j
   cases p with
   | gg _ g l y=>
    have f:=h.ob m _ j;simp only[Ob.gen]at f;rw[l]at f;simp only[gK]at f;obtain⟨_,_,i,a,z,C,B,A⟩:=f
    obtain⟨k1,k2,k3⟩:=Mg h v (.mapIter (some g.b) a #[] a) (.jb (.gg m) es.length []) rfl rfl (λn s=>by
     simp only[gK];refine⟨trivial,trivial,g.b,n _ _ (.gg m g l y),?_⟩
     rw[<-A];exact s)
    exact⟨_,_,run_range_map w t k e g.b i a o z,_,_,_,⟨rfl,rfl⟩,k1,k2,k3⟩
  .cases b
 .cases b
theorem Ui{kv:Value}:∀ {l:List MapEntry} {i n:Nat} {v:Value},nc kv l i=some (n,v)->i<=n
 | [],_,_,_,h=>by cases h
 | a::l,i,n,v,h=>by
  unfold nc at h;split at h
  .cases h;exact Nat.le_refl _
  .have:=Ui h;omega
theorem Uj{kv:Value}:∀ {l:List MapEntry} {i j:Nat} {v:Value} {e:MapEntry},nc kv l i=some (i+j,v)->l[j]? = some e->e.val=v
 | [],_,_,_,_,h,_=>by cases h
 | a::l,i,j,v,e,h,he=>by
  unfold nc at h;split at h
  .simp only[ao,dp]at h;obtain⟨h1,rfl⟩:=h;have:j=0:=by omega
   subst this;cases he;rfl
  .cases j with
   | zero=>exact absurd (Ui h) (by omega)
   | succ j=>exact Uj (i:=i+1) (j:=j) (by rw[h];congr 2;omega) he
theorem WN(kv:Value):∀(l:List MapEntry) (es:List (Value×D)) (i:Nat),l.length=es.length ->
  (∀(j:Nat) (e:MapEntry) (x:Value×D),l[j]? = some e->es[j]? = some x->e.key=x.1/\fF c w e.val x.2) ->
  (nc kv l i=none/\xv kv es i=none)\/∃j v d,nc kv l i=some (i+j,v)/\xv kv es i=some (i+j,d)/\fF c w v d
 | [],[],i,_,_=>.inl ⟨rfl,rfl⟩
 | e::l,(k,d)::es,i,hl,h=>by
  obtain⟨b,m⟩:=h 0 e (k,d) rfl rfl;dsimp only at b m
  by_cases a:mV kv e.key=true
  .exact .inr ⟨0,e.val,d,by simp[nc,a],by simp[xv,<-b,a],m⟩
  .have g:mV kv k=false:=by rw[<-b];simpa using a
   rcases WN kv l es (i+1) (by simpa using hl) (λj e x a n=>h (j+1) e x (by simpa using a) (by simpa using n))with⟨h1,f⟩|⟨j,v,d',h1,f,o⟩
   .exact .inl ⟨by simp[nc,a,h1],by simp[xv,g,f]⟩
   .exact .inr ⟨j+1,v,d',by simp[nc,a,h1];omega,by simp[xv,g,f];omega,o⟩
theorem ajz(h:gf G c H w){al:Al}{t k e:TypeId}{kk:KK}{z:D}(hu:P.underlying t=some (.map k e))(X:tK P k=some kk)(I:DC P e=some z){m x d:D}{δ:Dl}{u v:Value}(h1:fF c w u m)(h2:fF c w v x)
  (A:xu kk z m x H=some (d,δ)):∃r w',(Instr.mapEntry t u v).run P w = .ok r w'/\iJ G c H w (KO H al d δ) r w':=by
 have Px:(kk = .str\/kk = .bool\/∃k,kk = .int k)\/∃l,kk = .ints l:=by
  obtain⟨d,_,hc⟩:=Na X;rcases hc with⟨k,_,rfl⟩|⟨_,rfl⟩|⟨_,rfl⟩|⟨_,l,_,rfl,_⟩
  .exact .inl (.inr (.inr ⟨k,rfl⟩))
  .exact .inl (.inl rfl)
  .exact .inl (.inr (.inl rfl))
  .exact .inr ⟨l,rfl⟩
 obtain⟨E,uR,FL⟩:∃E,(zeroValue e).run P w = .ok E w/\fF c w E z:=by
  unfold DC at I
  cases hi:P.info? e with
  | none=>simp[hi]at I
  | some i=>
   simp only[hi,Option.bind_some]at I
   cases AT:i.zero with
   | none=>simp[AT]at I
   | some E=>
    simp only[AT,Option.bind_some]at I;exact⟨E,by simp[zeroValue,run_typeInfo hi,AT],Q0 I⟩
 unfold xu at A;split at A
 .rename_i v0 kv Fe;split at A
  .rename_i M es Y;split at A
   .rename_i iU;obtain⟨rfl,K⟩:=iU;have s:=P' h2 Fe;subst s
    cases h1 with
    | gg _ L fM N=>
     have O:=h.ob v0 _ (s6 Y);simp only[Ob.gen]at O;rw[fM]at O;simp only[gK]at O;obtain⟨_,sQ,g,f,Z,n⟩:=O;have E0:=Qq n sQ;have Av:=run_findKey X K g.toList E0 w;have rp:=run_checkKey (w:=w) X false K;have pR:(getObj L.b).run P w = .ok (.map g f) w:=by simp[getObj,Sem.run,Z]
     have Fb:∀y',∀x∈lZ es v y',M.has x.1=true:=λy' x o=>by
      rcases WO x o with h|rfl
      .exact sQ x h
      .exact K
     have W:∀(j:Nat) (e:MapEntry) (x:Value×D),g.toList[j]? = some e->es[j]? = some x->e.key=x.1/\fF c w e.val x.2:=λj e x y o=>let ⟨a,b,_⟩:=n.2.1 j e x (by simpa using y) o;⟨a,b⟩
     have B:g.toList.length=es.length:=by simpa using n.1
     rcases WN (c:=c) (w:=w) v g.toList es 0 B W with⟨Q,g2⟩|⟨j0,R,d0,Q,g2,g3⟩
     .rw[g2]at A;cases A;rcases EL (c:=c) (w:=w) v g.toList es 0 B W with⟨f1,f2,f3⟩|⟨j,val,d,f1,f2,_⟩
      .have gU:(Instr.mapEntry t (.map (some L.b)) v).run P w = .ok (.tuple #[E,goInt f]) { w with heap:=w.heap.setIfInBounds L.b (.map (g.push { key:=v,val:=E,born:=f }) (f+1)) }:=by simp only[Instr.mapEntry,Sem.run_bind,run_underlying hu,Result.andThen_ok,pR,rp,Av,f1,uR];simp[setObj,Sem.run,Z]
       obtain⟨m1,m2⟩:=zq h (s6 Y) rfl rfl rfl fM N (.map (g.push { key:=v,val:=E,born:=f }) (f+1)) (ob':=.map M (lZ es v z)) (by
        intro w' V J;simp only[gK];refine⟨N,Fb z,_,_,V,?_⟩;rw[f3];refine⟨by simp[n.1],λi e x y o=>?_,by simp[n.2.2]⟩;rw[ef]at y;split at y
        .rename_i hi;cases y;rw[ai (by rw[hi,n.1];exact Nat.le_refl _),hi,n.1]at o;simp at o;subst o;exact⟨rfl,J _ _ FL,by rw[hi,n.1,n.2.2]⟩
        .have hi:i<es.length:=by rw[<-n.1];exact(aL.1 y).1
         rw[ah hi]at o;obtain⟨p,q,r⟩:=n.2.1 i e x y o
         exact⟨p,J _ _ q,r⟩)
       refine⟨_,_,gU,_,_,c,⟨rfl,rfl⟩,m1,.tup [E,goInt f] _ rfl (λi v d s C=>?_),m2⟩
       match i,s,C with
       | 0,s,C=>cases s;cases C;exact FL.pc h.toHeapOK m2
       | 1,s,C=>cases s;cases C;rw[n.2.2];exact .val _
      .rw[Q]at f1;cases f1
     .rw[g2]at A;cases A;rcases EL (c:=c) (w:=w) v g.toList es 0 B W with⟨f1,f2,f3⟩|⟨j,val,d,f1,f2,_,f4,f5,F,f6,f7⟩
      .rw[Q]at f1;cases f1
      .have S:0+j0=0+j/\R=val:=by rw[Q]at f1;simp only[ao,dp]at f1;exact f1
       obtain⟨S,rfl⟩:=S;have S:j0=j:=by omega
       subst S;have mJ:j0<g.size:=by simpa using f4
       have U:g[j0]? = some F:=by simpa using f6
       have Pf:M.has F.key=true:=E0 F (List.mem_of_getElem? f6)
       have PI:(Instr.keyThatStays F.key v).run P w = .ok v w:=by simp[Instr.keyThatStays,Yj Px K Pf f7]
       have Vm:j0<es.length:=by rw[<-n.1];exact mJ
       have T:F.val=R/\F.born=j0:=by refine⟨?_,(n.2.1 j0 F es[j0] U (by simp[Vm])).2.2⟩;exact Uj (kv:=v) (i:=0) f1 f6
       have gU:(Instr.mapEntry t (.map (some L.b)) v).run P w = .ok (.tuple #[R,goInt (j0:Nat)]) { w with heap:=w.heap.setIfInBounds L.b (.map (g.modify j0 λe=>{ e with key:=v }) f) }:=by simp only[Instr.mapEntry,Sem.run_bind,run_underlying hu,Result.andThen_ok,pR,rp,Av,f1,aM,U,aD,aP,PI,T.2];simp[setObj,Sem.run,Z]
       obtain⟨m1,m2⟩:=zq h (s6 Y) rfl rfl rfl fM N (.map (g.modify j0 λe=>{ e with key:=v }) f) (ob':=.map M (lZ es v d0)) (by
        intro w' V J;simp only[gK];refine⟨N,Fb d0,_,_,V,?_⟩;rw[f5];refine⟨by simp[n.1],λi e x y o=>?_,by simp[n.2.2]⟩;rw[aX]at y;rw[bM]at o;split at y
        .rename_i hi;subst hi;rw[if_pos rfl,if_pos Vm]at o;simp only[aj]at y;obtain⟨e0,h0,rfl⟩:=y;cases o;rw[U]at h0;cases h0;exact⟨rfl,J _ _ (by rw[T.1];exact g3),T.2⟩
        .rename_i hi;rw[if_neg hi]at o;obtain⟨p,q,r⟩:=n.2.1 i e x y o
         exact⟨p,J _ _ q,r⟩)
       refine⟨_,_,gU,_,_,c,⟨rfl,rfl⟩,m1,.tup [R,goInt (j0:Nat)] _ rfl (λi v d s C=>?_),m2⟩
       match i,s,C with
       | 0,s,C=>cases s;cases C;exact g3.pc h.toHeapOK m2
       | 1,s,C=>cases s;cases C;rw[aM];exact .val _
   .cases A
  .cases A
 .cases A
theorem ajn(h:gf G c H w){al:Al}{t:TypeId}{m s x d:D}{δ:Dl}{u v l:Value}(h1:fF c w u m)(U:fF c w v s)(T:fF c w l x)
  (f:zQ m s x H=some (d,δ)):∃w',(Instr.entryStore t u v l).run P w = .ok () w'/\iJ G c H w (KO H al d δ) undef w':=by
 unfold zQ at f;split at f
 .rename_i v0 n;split at f
  .rename_i kk es F;split at f
   .rename_i E X hg;split at f
    .rename_i S;cases f;cases U
     cases h1 with
     | gg _ L M K=>
      have z:=h.ob v0 _ (s6 F);simp only[Ob.gen]at z;rw[M]at z;simp only[gK]at z;obtain⟨_,C,b,a,J,k⟩:=z;have A:n.toNat<es.length:=(ae.1 hg).1;have N:n.toNat<b.size:=by rw[k.1];exact A
      have B:b.findIdx? (λe=>(e.born:Int) == n)=some n.toNat:=by
       rw[Array.findIdx?_eq_some_iff_getElem];refine⟨N,?_,λj Z=>?_⟩
       .have:=(k.2.1 n.toNat b[n.toNat] es[n.toNat] (by simp[N]) (by simp[A])).2.2;rw[this];have e:((n.toNat:Nat):Int)=n:=bV S;rw[e];simp
       .have R:j<es.length:=by omega
        have:=(k.2.1 j b[j] es[j] (by simp) (by simp[R])).2.2;rw[this];simp;omega
      have Q:(getObj L.b).run P w = .ok (.map b a) w:=by simp[getObj,Sem.run,J]
      have Y:(asInt (.int .i64 n)).run P w = .ok n w:=by simp[asInt,asIntOf]
      have V:(Instr.entryStore t (.map (some L.b)) (.int .i64 n) l).run P w = .ok () { w with heap:=w.heap.setIfInBounds L.b (.map (b.modify n.toNat λe=>{ e with val:=l }) a) }:=by simp only[Instr.entryStore,Sem.run_bind,Result.andThen_ok,Q,Y,B];simp[setObj,Sem.run,J]
      obtain⟨m1,m2⟩:=zq h (s6 F) rfl rfl rfl M K (.map (b.modify n.toNat λe=>{ e with val:=l }) a) (ob':=.map kk (es.set n.toNat (E,x))) (by
       intro w' O I;simp only[gK];refine⟨K,λy g=>?_,_,_,O,?_⟩
       .rcases dt g with g|rfl
        .exact C y g
        .exact C (E,X) (List.mem_of_getElem? hg)
       refine⟨by simp[k.1],λi e y o g=>?_,by simp[k.2.2]⟩;rw[aX]at o;rw[bM]at g;split at o
       .rename_i hi;subst hi;rw[if_pos rfl,if_pos A]at g;cases g;simp only[aj]at o;obtain⟨W,h0,rfl⟩:=o;obtain⟨p,q,r⟩:=k.2.1 _ W _ h0 hg;exact⟨p,I _ _ T,r⟩
       .rename_i hi;rw[if_neg hi]at g;obtain⟨p,q,r⟩:=k.2.1 i e y o g
        exact⟨p,I _ _ q,r⟩)
      exact⟨_,V,_,_,c,⟨rfl,rfl⟩,m1,.any _,m2⟩
    .cases f
   .cases f
  .cases f
 .cases f
theorem ak8(h:gf G c H w)(l:kq c w env a){al:Al}(N:mC H al){o:Oper}{R:iu}(b:rP P G o=some R){d:D}{δ:Dl}(g:l5 env H al.1 R=some (d,δ)) :
  ∃v w',BS ((execOp a.eval o).run P w) v w'/\iJ G c H w (KO H al d δ) v w':=by
 have plain:∀ {v:Value} {d:D},fF c w v d->iJ G c H w (KO H al d .no) v w:=λq=>⟨_,_,c,⟨rfl,rfl⟩,h,q,Step.refl _ _ _ _⟩;unfold rP at b;split at b
 .rename_i t x y ty f;split at b
  .rename_i n;simp only[aj]at b;obtain⟨X,hX,rfl⟩:=b
   have L:y = .const (.slice none 0 0):=by
    have:=n.2;unfold Kw at this;split at this
    .rfl
    .cases this
   subst L;obtain⟨C,rfl⟩:=lY g;obtain⟨r,h1,j⟩:=Xi h n.1 (iv h l hX) C x (.const (.slice none 0 0));exact⟨r,w,by simp only[execOp,f];exact jl h1,plain j⟩
  .cases b
 .rename_i t x y ty f;split at b
  .rename_i n;simp only[aj]at b;obtain⟨X,hX,rfl⟩:=b
   have L:y = .const (.slice none 0 0):=by
    have:=n.2;unfold Kw at this;split at this
    .rfl
    .cases this
   subst L;obtain⟨C,rfl⟩:=lY g;obtain⟨r,h1,j⟩:=Xi h n.1 (iv h l hX) C x (.const (.slice none 0 0));exact⟨r,w,by simp only[execOp,f];exact jl h1,plain j⟩
  .cases b
 .rename_i t x f;split at b
  .rename_i X p hX;cases b;simp only[l5]at g;split at g
   .rename_i s hs;cases g;have q:=iv h l hX;rw[hs]at q;generalize Q:a.eval x=u at q;cases q;obtain⟨k1,k2,k3⟩:=Mg h N (.stringIter s 0) (.rF s 0) rfl rfl (λ_ U=>by simp only[gK];exact⟨trivial,trivial,U⟩);refine⟨_,_,by simp only[execOp,f,Q];exact jl (v:=.pointer (some ⟨w.heap.size,0,none⟩)) (w':=w.alloc (.stringIter s 0)) (by simp[Instr.range,run_underlying p]),_,_,_,⟨rfl,rfl⟩,k1,k2,k3⟩
   .cases g
  .rename_i k e X p hX;cases b;obtain⟨r,w',h1,j⟩:=ajG (P:=P) h N p (iv h l hX) g;exact⟨r,w',by simp only[execOp,f];exact jl h1,j⟩
  .cases b
 .rename_i x f;simp only[aj]at b;obtain⟨X,hX,rfl⟩:=b;obtain⟨r,w',h1,j⟩:=ajD (P:=P) (ty:=o.type) h (iv h l hX) g;exact⟨r,w',by simp only[execOp,f];exact jl h1,j⟩
 .simp only[aj]at b;obtain⟨X,hX,rfl⟩:=b;cases g
 .rename_i x f;simp only[aj]at b;obtain⟨X,hX,rfl⟩:=b;obtain⟨C,rfl⟩:=lY g;obtain⟨r,h1,j⟩:=ajo (P:=P) h (iv h l hX) C;exact⟨r,w,by simp only[execOp,f];exact jl h1,plain j⟩
 .rename_i cl f;split at b
  .rename_i t x F E B;split at b
   .rename_i O;simp only[aj]at b;obtain⟨X,hX,rfl⟩:=b;have A:cl.argTypes = #[t]:=by rw[<-bH (xs:=cl.argTypes),E]
    have K:cl.args = #[x]:=by rw[<-bH (xs:=cl.args),B]
    have q:=iv h l hX;simp only[l5]at g;split at g
    .rename_i S;cases g;rw[S]at q;generalize Q:a.eval x=u at q;cases q
     have W:∃e,P.underlying t=some (.slice e):=by
      unfold Ds at O;split at O
      .exact⟨_,by assumption⟩
      .cases O
     obtain⟨e,p⟩:=W;refine⟨.int .i64 0,w,by rw[wh f F,A,K];exact jl (by simp[Q,Builtin.cap_,run_underlying p,goInt]),plain (.val _)⟩
    .cases g
   .cases b
  .rename_i t x F E B;have A:cl.argTypes = #[t]:=by rw[<-bH (xs:=cl.argTypes),E]
   have K:cl.args = #[x]:=by rw[<-bH (xs:=cl.args),B]
   split at b
   .rename_i e p;split at b
    .rename_i z i X I hi hX;split at b
     .rename_i n;cases b;obtain⟨w',h1,j⟩:=ajk (P:=P) (al:=al) (ty:=o.type) h p hi I n.1 n.2 (iv h l hX) g;exact⟨_,w',by rw[wh f F,A,K];exact jl (by simpa using h1),j⟩
     .cases b
    .cases b
   .cases b
  .rename_i t u x y F E B;have A:cl.argTypes = #[t,u]:=by rw[<-bH (xs:=cl.argTypes),E]
   have K:cl.args = #[x,y]:=by rw[<-bH (xs:=cl.args),B]
   split at b
   .rename_i e p M;split at b
    .rename_i z i X Y I hi hX J;split at b
     .rename_i n;cases b;obtain⟨r,w',h1,j⟩:=ajc (P:=P) (ty:=o.type) h N p M hi I n.1 n.2 (iv h l hX) (iv h l J) g;exact⟨r,w',by rw[wh f F,A,K];exact jl (by simpa using h1),j⟩
     .cases b
    .cases b
   .cases b
  .cases b
 .rename_i t m k f;split at b
  .rename_i kt e p;split at b
   .rename_i kk z X Y T I hX J;cases b;obtain⟨r,w',h1,j⟩:=ajz (P:=P) (al:=al) h p T I (iv h l hX) (iv h l J) g;exact⟨r,w',by simp only[execOp,f];exact jl h1,j⟩
   .cases b
  .cases b
 .rename_i t m s x f;split at b
  .rename_i X Y Z hX J V;cases b;obtain⟨w',h1,j⟩:=ajn (P:=P) (al:=al) (t:=t) h (iv h l hX) (iv h l J) (iv h l V) g;exact⟨_,w',by simp only[execOp,f];exact Hb h1,j⟩
  .cases b
 .cases b
end
end Go.AL
namespace Go.AL
open Go
abbrev FW(ro:Option Nat):Fence:={ Fence.wide with round:=ro }
theorem Ek{a:Option Nat}{n:Nat}{P:Program}{f:FuncId}{args:Array Value}{w:World}{R:Ending->World->Prop}:CallsIn (FW a) n P f args w R↔Calls P f args w R:=
 callsIn_wide (n:=n)
inductive ri(c:Ctx):List Nat->List Deferred->Prop
 | nil:ri c [] []
 | cons {v:Nat} {vs:List Nat} {ds:List Deferred} (L:Loc) (h1:c.ι v 0=some L) (h2:L.jr=false) (h:ri c vs ds):ri c (v::vs) ({ target:=.collected L.b,args:=#[] }::ds)
theorem ri.mono{c c':Ctx}(d:∀v L,c.ι v 0=some L->c'.ι v 0=some L){vs:List Nat}{ds:List Deferred}(h:ri c vs ds):ri c' vs ds:=by
 induction h with
 | nil=>exact .nil
 | cons L h1 b _ a=>exact .cons L (d _ _ h1) b a
structure kH(G:GT)(N:Nat)(c:Ctx)(w:World)(s:St)(a:Act):Prop where
 fG:gf G c s.H w
 env:kq c w s.env.get a
 size:N<=a.tmps.size
 marks:ri c s.marks a.defers
def sF(N:Nat):Option Tmp->Bool
 | some d=>decide (d<N)
 | none=>true
def NJ(P:Program)(G:GT)(o:Oper):Option iu:=match mQ P G o with
 | some op=>some op
 | none=>rP P G o
def vw(P:Program)(G:GT)(N:Nat)(ops:Array Oper)(o:Oper):Option gI:=
 match NJ P G o with
 | none=>none
 | some op=>if sF N o.dst=true then(match o.guard with
   | none=>some ⟨o.dst,op,none⟩
   | some (j,want)=>match (ops[j]?).bind (·.dst)with
    | some t=>some ⟨o.dst,op,some (t,want)⟩
    | none=>none)else none
def oU(P:Program)(G:GT)(N:Nat)(ops:Array Oper):List Oper->Option (List gI)
 | []=>some []
 | o::r=>match vw P G N ops o,oU P G N ops r with
  | some e,some l=>some (e::l)
  | _,_=>none
section
variable{P:Program}{G:GT}{c:Ctx}{w:World}{env:gD}{a:Act}{N:Nat}
theorem aj5{env:Env}{a:Act}{c:Ctx}{w:World}(b:kq c w env.get a)(hN:N<=a.tmps.size){dst:Option Tmp}(f:sF N dst=true){v:Value}{d:D}(h:fF c w v d) :
  kq c w (put env dst d).get (a.put dst v):=by
 cases dst with
 | none=>exact b
 | some t=>
  have g:t<a.tmps.size:=aK (by simpa[sF]using f) hN;intro k;simp only[put,Env.vC,Act.put];split
  .simp_all
  .rename_i e;have:(a.tmps.setIfInBounds t v).getD k undef=a.tmps.getD k undef:=by simp_all
   rw[this];exact b k
theorem XA{a:Act}{dst:Option Tmp}{v:Value}:(a.put dst v).tmps.size=a.tmps.size:=by cases dst<;>simp[Act.put]
theorem put_defers{a:Act}{dst:Option Tmp}{v:Value}:(a.put dst v).defers=a.defers:=by cases dst<;>rfl
theorem kq.carry{c c':Ctx}{w w':World}(h:∀v d,fF c w v d->fF c' w' v d)(b:kq c w env a):kq c' w' env a:=λk=>h _ _ (b k)
theorem kH.next{c':Ctx}{w':World}{H':U}{s:St}(hs:kH G N c w s a)(fG:gf G c' H' w')(e:Step s.H.length c s.H w c' H' w'){dst:Option Tmp}(g:sF N dst=true)
  {v:Value} {d:D} (f:fF c' w' v d):kH G N c' w' { s with env:=put s.env dst d,H:=H' } (a.put dst v) where
 fG:=fG
 env:=aj5 (hs.env.carry λ_ _ h=>h.pc hs.fG.toHeapOK e) hs.size g f
 size:=by rw[XA];exact hs.size
 marks:=by
  rw[put_defers];refine hs.marks.mono λv L h=>e.old v 0 L ?_ h;rcases bw v s.H.length with b|b
  .exact b
  .rw[hs.fG.out v 0 b]at h;cases h
theorem tU(p:kq c w env a){ops:Array Oper}{o:Oper}{g:Option (Nat×Bool)}(hg:match o.guard with
   | none=>g=none
   | some (j,d)=>∃t,(ops[j]?).bind (·.dst)=some t/\g=some (t,d)) {b:Bool} (h:guardOf env g=some b):Region.wanted o (yielded ops a.tmps)=b:=by
 unfold Region.wanted;split at hg
 .rename_i l;subst hg;simp only[guardOf,ao]at h;simp[l,h]
 .rename_i j d l;obtain⟨t,n,rfl⟩:=hg;simp only[guardOf]at h;split at h
  .rename_i x m;cases h;have f:=p t;rw[m]at f;generalize e:a.tmps.getD t undef=v at f;cases f
   have i:a.tmps[t]? = some (.bool x):=by
    rw[cJ]at e
    cases k:a.tmps[t]? with
    | none=>rw[k]at e;simp[undef]at e
    | some q=>rw[k]at e;simpa using e
   simp only[l,yielded,n,Option.bind_some,i];cases x<;>cases d<;>rfl
  .rename_i vs m;cases h;have f:=p t;rw[m]at f;generalize e:a.tmps.getD t undef=v at f;cases f
   have i:a.tmps[t]? = some (.tuple vs)\/a.tmps[t]? = none:=by
    rw[cJ]at e
    cases k:a.tmps[t]? with
    | none=>exact .inr rfl
    | some q=>rw[k]at e;exact .inl (by simpa using e)
   rcases i with i|i<;>simp only[l,yielded,n,Option.bind_some,i]<;>cases d<;>rfl
  .cases h
theorem Tn{o:Oper}{op:iu}(h:NJ P G o=some op):mQ P G o=some op\/rP P G o=some op:=by
 unfold NJ at h;split at h
 .grind
 .exact .inr h
theorem Tk{o:Oper}{a:iu}(b:mQ P G o=some a\/rP P G o=some a){f:gD}{H:U}{n:Nat}{r:D×Dl}(h:gv f H n a=some r):mQ P G o=some a:=by refine b.resolve_right λc=>?_;rw[alk (NK c)]at h;cases h
theorem Er{o:Oper}{a:iu}(b:mQ P G o=some a\/rP P G o=some a){f:gD}{r:FuncId×List D}(h:kb f a=some r):mQ P G o=some a:=by refine b.resolve_right λc=>?_;rw[alm (NK c)]at h;cases h
theorem yk{ops:Array Oper}{o:Oper}{e:gI}(h:vw P G N ops o=some e) :
  (mQ P G o=some e.op\/rP P G o=some e.op)/\e.dst=o.dst/\(sF N o.dst=true)/\(match o.guard with
   | none=>e.guard=none
   | some (j,a)=>∃t,(ops[j]?).bind (·.dst)=some t/\e.guard=some (t,a)):=by
 unfold vw at h;split at h
 .cases h
 .rename_i op b;split at h
  .rename_i c;split at h
   .rename_i hg;cases h;exact⟨Tn b,rfl,c,by simp[hg]⟩
   .rename_i j a hg;split at h
    .rename_i t d;cases h;exact⟨Tn b,rfl,c,t,d,rfl⟩
    .cases h
  .cases h
theorem A7{o:Oper}{a:iu}(h:mQ P G o=some a):∀c,o.op≠.defer c:=by intro c b;simp[mQ,b]at h
theorem W4{o:Oper}{a:iu}(h:rP P G o=some a):∀c,o.op≠.defer c:=by intro c b;simp[rP,b]at h
theorem alL{e:Option Nat}{n:Nat}{o:Oper}{s:St}{f:iu}{d:D}{δ:Dl}{next:Act->World->Prop}{Q:Exit->Act->World->Prop}(hs:kH G N c w s a)(i:rP P G o=some f)
  (p:sF N o.dst=true) {al:Al} (q:mC s.H al) (h:l5 s.env.get s.H al.1 f=some (d,δ))
  (k:∀c' w' l,kH G N c' w' { s with env:=put s.env o.dst d,H:=δ.app s.H al } l->Step s.H.length c s.H w c' (δ.app s.H al) w'->next l w'):o.wpIn (FW e) n P a w next Q:=by
 obtain⟨v,w',b,d',H',c',⟨rfl,rfl⟩,fG,m,j⟩:=ak8 (P:=P) hs.fG hs.env q i h;refine⟨λ_ _=>trivial,?_⟩;rw[Oper.semAt_plain (FW e) a.eval o (W4 i)];have g:=k c' w' (a.put o.dst v) (hs.next fG j p m) j;rcases b with b|⟨b,rfl⟩
 .rw[b];exact g
 .rw[b];exact g
theorem alI{ro:Option Nat}{n:Nat}{o:Oper}{s:St}{x:X}{next:Act->World->Prop}{Q:Exit->Act->World->Prop}(hs:kH G N c w s a)(r:rP P G o=some (.nextM x))
  (l:sF N o.dst=true) {v m since:Nat} {seen:List Nat} {kk:KK} {es:List (Value×D)} (hx:ev s.env.get x = .ptr v 0 0) (g:s.H[v]? = some (.jb (.gg m) since seen)) (hm:s.H[m]? = some (.map kk es)) (oK:es.length=since)
  (k0:(∀i,i<es.length->i∈seen)->∀c' w' C,kH G N c' w' { s with env:=put s.env o.dst (.tup [.b false]) } C->Step s.H.length c s.H w c' s.H w'->next C w')
  (k1:∀i k d,es[i]? = some (k,d)->i ∉ seen->∀c' w' C,kH G N c' w' { s with env:=put s.env o.dst (.tup [.b true,rz k,d]),H:=s.H.set v (.jb (.gg m) since (seen ++ [i])) } C ->
   Step s.H.length c s.H w c' (s.H.set v (.jb (.gg m) since (seen ++ [i]))) w'->next C w'):o.wpIn (FW ro) n P a w next Q:=by
 have ig:∃y,o.op = .next y false/\cX G y=some x:=by
  unfold rP at r
  repeat' split at r
  all_goals first|(cases r;done)|(simp only[aj]at r;obtain⟨_,_,R⟩:=r;cases R;done)|skip
  simp only[aj]at r;obtain⟨X,hX,R⟩:=r;cases R;exact⟨_,by assumption,hX⟩
 obtain⟨y,ho,hX⟩:=ig;have O:=iv hs.fG hs.env hX;rw[hx]at O;generalize hu:a.eval y=u at O
 cases O with
 | ptr _ _ _ L fM gR=>
  have J:=hs.fG.ob v _ g;simp only[Ob.gen]at J;rw[fM]at J;simp only[gK]at J;obtain⟨_,K,bm,CO,t⟩:=J
  cases CO with
  | gg _ q AU LR=>
   have F:=hs.fG.ob m _ hm;simp only[Ob.gen]at F;rw[AU]at F;simp only[gK]at F;obtain⟨_,sQ,f,b,Fk,ij,M,E6⟩:=F;have kJ:b=since:=by rw[E6,oK]
   subst kJ;refine⟨λ_ _=>trivial,?_⟩;rw[Oper.semAt_plain (FW ro) a.eval o (W4 r)]
   have Z:∀e∈f.toList,e.born<b:=by
    intro e z;obtain⟨i,hi⟩:=aA.1 z;have E:i<es.length:=by rw[<-ij];have:=(ae.1 hi).1;simpa using this
    have:=(M i e es[i] (by simpa using hi) (by simp[E])).2.2;omega
   have VR:=next_test_false seen.toArray f b b Z (Nat.le_refl _)
   have A:(leftOf f seen.toArray).filter (λe=>decide (e.born<b))=leftOf f seen.toArray:=by apply Array.filter_eq_self.2;intro e z;simp only[decide_eq_true_eq];exact Z e (by simpa using (dQ.1 z).1)
   have lV:(leftOf f seen.toArray).filter (λe=>decide (e.born>=b)) = #[]:=by apply Array.filter_eq_empty_iff.2;intro e z;have:=Z e (by simpa using (dQ.1 z).1);simp;omega
   have Vh:∀w1:World,w1.heap=w.heap->(getObj L.b).run P w1 = .ok (.mapIter (some q.b) b seen.toArray b) w1:=λw1 h1=>by simp[getObj,Sem.run,h1,t]
   have Vi:∀w1:World,w1.heap=w.heap->(getObj q.b).run P w1 = .ok (.map f b) w1:=λw1 h1=>by simp[getObj,Sem.run,h1,Fk]
   have py:∀e,e∈(leftOf f seen.toArray).toList->∃i k d,es[i]? = some (k,d)/\i ∉ seen/\e.key=k/\fF c w e.val d/\e.born=i:=by
    intro e z
    have vF:e∈f/\(!seen.toArray.contains e.born)=true:=by have:=dQ.1 (show e∈leftOf f seen.toArray by simpa using z);exact this
    obtain⟨i,hi⟩:=aA.1 (show e∈f.toList by simpa using vF.1);have E:i<es.length:=by rw[<-ij];have:=(ae.1 hi).1;simpa using this
    obtain⟨q1,q2,q3⟩:=M i e es[i] (by simpa using hi) (by simp[E]);refine⟨i,es[i].1,es[i].2,by simp[E],?_,q1,q2,q3⟩;have:=vF.2;rw[q3]at this;simpa using this
   by_cases I:(leftOf f seen.toArray) = #[]
   .have T:(execOp a.eval o).run P w = .ok (.value (.tuple #[.bool false])) w:=by
     have B:(Instr.next (.pointer (some ⟨L.b,0,none⟩)) false o.type).run P w = .ok (.tuple #[.bool false]) w:=by have Fh:(f.filter λe => !(seen.toArray).contains e.born) = #[]:=I;simp only[Instr.next,Sem.run_bind,Vh w rfl,Result.andThen_ok,Vi w rfl,VR,bq,if_false,Sem.run_pure,Fh];simp[choose,Sem.run,Question.forced]
     simp only[execOp,ho,hu];rw[K];simp[B]
    rw[T];refine k0 (λi hi=>?_) c w _ (hs.next hs.fG (Step.refl _ _ _ _) l (.tup [.bool false] _ rfl λj v d g l=>?_)) (Step.refl _ _ _ _)
    .by_cases gq:i∈seen
     .exact gq
     .exfalso;have AA:i<f.size:=by omega
      have Y:=(M i f[i] es[i] (by simp[AA]) (by simp[hi])).2.2
      have:f[i]∈leftOf f seen.toArray:=by refine dQ.2 ⟨Array.getElem_mem _,?_⟩;rw[Y];simpa using gq
      rw[I]at this;simp at this
    .match j,g,l with
     | 0,g,l=>cases g;cases l;exact .val _
   .have gS:(leftOf f seen.toArray).isEmpty=false:=by
     cases hq:(leftOf f seen.toArray).isEmpty with
     | false=>rfl
     | true=>exact absurd (Array.isEmpty_iff.1 hq) I
    have jM:0<(leftOf f seen.toArray).size:=by
     rcases eA (leftOf f seen.toArray).size with h|h
     .exact absurd (Array.eq_empty_of_size_eq_zero h) I
     .exact h
    have O1:∃(i:Nat) (w1:World),i<(leftOf f seen.toArray).size/\jJ w w1/\w1.heap=w.heap/\(choose (.mapNext (leftOf f seen.toArray).size)).run P w = .ok i w1:=by
     by_cases hf:(Question.mapNext (leftOf f seen.toArray).size).forced=true
     .exact⟨0,w,jM,jJ.refl w,rfl,by simp[choose,Sem.run,hf]⟩
     .exact⟨w.tape w.drawn (.mapNext (leftOf f seen.toArray).size) % (leftOf f seen.toArray).size,{ w with drawn:=w.drawn+1 },Nat.mod_lt _ jM,jJ.drew w,rfl,by simp[choose,Sem.run,hf,Question.cut]⟩
    obtain⟨i,w1,hi,Vj,V,W⟩:=O1;obtain⟨p,k,d,h1,B,h3,h4,h5⟩:=py (leftOf f seen.toArray)[i] (by simp);have xc:=hs.fG.oY Vj
    obtain⟨m1,m2⟩:=zq xc g rfl rfl (ob':=.jb (.gg m) b (seen ++ [p])) rfl fM gR (.mapIter (some q.b) b (seen ++ [p]).toArray b) (λw' pV sV=>by
     simp only[gK]
     exact⟨gR,K,q.b,.gg m q AU LR,pV⟩)
    have U:Step s.H.length c s.H w c (s.H.set v (.jb (.gg m) b (seen ++ [p]))) { w1 with heap:=w1.heap.setIfInBounds L.b (.mapIter (some q.b) b (seen ++ [p]).toArray b) }:=(Bv _ Vj).trans m2 (Nat.le_refl _)
    have T:(execOp a.eval o).run P w = .ok (.value (.tuple #[.bool true,k,(leftOf f seen.toArray)[i].val])) { w1 with heap:=w1.heap.setIfInBounds L.b (.mapIter (some q.b) b (seen ++ [p]).toArray b) }:=by
     have mL:(setObj L.b (.mapIter (some q.b) b (seen ++ [p]).toArray b)).run P w1 = .ok () { w1 with heap:=w1.heap.setIfInBounds L.b (.mapIter (some q.b) b (seen ++ [p]).toArray b) }:=by simp[setObj,Sem.run,V,t]
     have B:(Instr.next (.pointer (some ⟨L.b,0,none⟩)) false o.type).run P w = .ok (.tuple #[.bool true,k,(leftOf f seen.toArray)[i].val]) { w1 with heap:=w1.heap.setIfInBounds L.b (.mapIter (some q.b) b (seen ++ [p]).toArray b) }:=by
      have Fh:(f.filter λe => !(seen.toArray).contains e.born)=leftOf f seen.toArray:=rfl;have iV:((if (leftOf f seen.toArray).isEmpty then #[none]else #[])++(leftOf f seen.toArray ++ #[]).map some)=(leftOf f seen.toArray).map some:=by simp[gS]
      simp only[Instr.next,Sem.run_bind,Vh w rfl,Result.andThen_ok,Vi w rfl,VR,bq,if_false,Sem.run_pure,Fh,A,lV,iV,Array.size_map,W];have S:((leftOf f seen.toArray).map some)[i]? = some (some (leftOf f seen.toArray)[i]):=by simp[hi]
      simp only[S,Sem.run_bind];rw[h5,show seen.toArray.push p=(seen ++ [p]).toArray by simp,mL];simp[h3]
     simp only[execOp,ho,hu];rw[K];simp[B]
    rw[T];refine k1 p k d h1 B c _ _ (hs.next m1 U l (.tup [.bool true,k,(leftOf f seen.toArray)[i].val] _ rfl λj v d g l=>?_)) U
    match j,g,l with
    | 0,g,l=>cases g;cases l;exact .val _
    | 1,g,l=>cases g;cases l;exact XU (sQ _ (List.mem_of_getElem? h1))
    | 2,g,l=>cases g;cases l;exact h4.pc hs.fG.toHeapOK U
theorem alJ{e:Option Nat}{n:Nat}{o:Oper}{s:St}{f:iu}{d:D}{δ:Dl}{next:Act->World->Prop}{Q:Exit->Act->World->Prop}(hs:kH G N c w s a)(i:mQ P G o=some f)
  (p:sF N o.dst=true) {al:Al} (q:mC s.H al) (h:gv s.env.get s.H al.1 f=some (d,δ))
  (k:∀c' w' l,kH G N c' w' { s with env:=put s.env o.dst d,H:=δ.app s.H al } l->Step s.H.length c s.H w c' (δ.app s.H al) w'->next l w'):o.wpIn (FW e) n P a w next Q:=by
 obtain⟨v,w',b,d',H',c',⟨rfl,rfl⟩,fG,m,j⟩:=Xx (P:=P) (K:=λd' H'=>d'=d/\H'=δ.app s.H al) hs.fG hs.env q i (SE h ⟨rfl,rfl⟩);refine⟨λ_ _=>trivial,?_⟩;rw[Oper.semAt_plain (FW e) a.eval o (A7 i)];have g:=k c' w' (a.put o.dst v) (hs.next fG j p m) j;rcases b with b|⟨b,rfl⟩
 .rw[b];exact g
 .rw[b];exact g
end
end Go.AL
namespace Go.AL
open Go
section
variable{P:Program}{G:GT}{c:Ctx}{w:World}{env:gD}{a:Act}{N:Nat}
theorem To{o:Oper}{b:iu}(a:mQ P G o=some b)(h:FR b=true):∃cl,o.op = .call cl:=by
 unfold mQ at a;split at a
 all_goals first|exact⟨_,by assumption⟩|skip
 all_goals exfalso
 all_goals try simp only[ay,ag,aB]at a
 all_goals (repeat' first|(obtain⟨_,_,a⟩:=a)|split at a|simp only[ag]at a)
 all_goals first|(simp[FR]at h;done)|(cases a<;>simp[FR]at h)
theorem MI{H:U}(fG:gf G c H w)(t:kq c w env a){o:Oper}{l:iu}(b:mQ P G o=some l){f:FuncId}{args:List D}(d:kb env l=some (f,args))(s:rT P f=true) :
  ∃vs:List Value,(execOp a.eval o).run P w = .ok (.enter f vs.toArray) w/\je c w vs args:=by
 have K:=b;unfold mQ at b
 cases j:o.op with
 | call cl=>
  simp only[j,ay,ag]at b;obtain⟨xs,B,b⟩:=b;have u:=zH fG t cl.args.toList B;split at b
  .rename_i g r;split at b
   .have q:g=f/\List.map (ev env) xs=args:=by
     cases b;have E:kb env (if G.nw g=true then iu.callN g xs else iu.call g xs)=some (g,xs.map (ev env)):=by split<;>rfl
     rw[E]at d;simpa using d
    obtain⟨rfl,rfl⟩:=q;refine⟨_,?_,u⟩;have e:cl.args.map a.eval=(cl.args.toList.map a.eval).toArray:=by cases cl.args;simp
    simp only[execOp,j,resolve,r,Act.eval,Deferred.ofValue,Sem.run_bind,Sem.run_pure,Result.andThen_ok,invoke];rw[<-e];have h:=MJ (P:=P) s (cl.args.map a.eval) w;simpa using h
   .cases b
  .rename_i x L r;simp only[ag,aB,ao]at b;obtain⟨X,hX,rfl⟩:=b;simp only[kb]at d;split at d
   .rename_i k first cap pQ
    cases d;have m:=iv fG t hX;rw[pQ]at m;generalize C:a.eval x=v at m
    cases m with
    | fn _ fs cs _ _ J p I F=>
     refine⟨fs++cl.args.toList.map a.eval++cs,?_,((je.Ge J I).append u).append (je.Ge p F)⟩;simp only[execOp,j,resolve,r,C,Deferred.ofValue,Sem.run_bind,Sem.run_pure,Result.andThen_ok,invoke];have h:=MJ (P:=P) s (fs.toArray++cl.args.map a.eval++cs.toArray) w;have p:fs.toArray++cl.args.map a.eval++cs.toArray=(fs++cl.args.toList.map a.eval++cs).toArray:=by cases cl.args;simp
     rw[p]at h ⊢;exact h
   .cases d
  .split at b
   .simp only[ag]at b;obtain⟨A,_,b⟩:=b;split at b
    .simp only[ag]at b;obtain⟨i,_,z,_,y,_,b⟩:=b;split at b
     .split at b
      .cases b;cases d
      .cases b
     .cases b
    .cases b
   .cases b
  .split at b
   .simp only[ag]at b;obtain⟨A,_,b⟩:=b;split at b
    .simp only[ag]at b;obtain⟨y,_,b⟩:=b;split at b
     .simp only[ag]at b;obtain⟨n,_,b⟩:=b;split at b
      .cases b;cases d
      .cases b
     .cases b
    .cases b
   .cases b
  .split at b
   .split at b
    .cases b;cases d
    .cases b;cases d
    .cases b;cases d
    .cases b
   .cases b
  .cases b;cases d
  .cases b;cases d
  .cases b
 | _=>
  have h1:FR l=true:=by unfold kb at d;unfold FR;split at d<;>first|rfl|cases d
  obtain⟨cl,h⟩:=To K h1;rw[j]at h;cases h
end
end Go.AL
namespace Go.AL
open Go
abbrev Fp:=Nat×Option (Nat×Nat)
def mN:D->List Fp
 | .fy v _ _ _ _=>[(v,none)]
 | .gg v=>[(v,none)]
 | _=>[]
def ub(n:Nat):D->List Fp
 | .ptr v _ o=>[(v,some (o,n))]
 | _=>[]
def gA(f:gD)(H:U):iu->List Fp
 | .ld1 x=>ub 1 (ev f x)
 | .ldN n x=>ub n (ev f x)
 | .st1 a _=>ub 1 (ev f a)
 | .stN n a _=>ub n (ev f a)
 | .lookup _ _ _ m _=>mN (ev f m)
 | .mapUpd _ m _ _=>mN (ev f m)
 | .len .map x=>mN (ev f x)
 | .b2s x=>mN (ev f x)
 | .slcArr sz n x _ _=>ub (n*sz) (ev f x)
 | .app _ _ _ x y=>mN (ev f x)++mN (ev f y)
 | .copy _ x y=>mN (ev f x)++mN (ev f y)
 | .call g args=>((args.map (ev f)).map (gZ H 40)).flatten.map λv=>(v,none)
 | .callN g args=>((args.map (ev f)).map (gZ H 40)).flatten.map λv=>(v,none)
 | .callv g args=>match kb f (.callv g args)with
  | some (_,ds)=>(ds.map (gZ H 40)).flatten.map λv=>(v,none)
  | none=>[]
 | _=>[]
def jy(n:Nat):Dl->List Fp
 | .no=>[]
 | .cells v o xs=>[(v,some (o,xs.length))]
 | .obj v _=>[(v,none)]
 | .new _=>[(n,none)]
def tq:Fp->Fp->Bool
 | (v,none),(u,_)=>v != u
 | (v,some _),(u,none)=>v != u
 | (v,some (o,n)),(u,some (p,m))=>v != u||decide (o+n<=p)||decide (p+m<=o)
def tt(a b:List Fp):Bool:=a.all λx=>b.all λy=>tq x y
def Alike(x:Fp)(H1 H2:U):Prop:=
 match x with
 | (v,none)=>H1[v]? = H2[v]?
 | (v,some (o,n))=>H1[v]? = H2[v]?\/∃t g cs ds,H1[v]? = some (.row t g cs)/\H2[v]? = some (.row t g ds)/\cs.length=ds.length/\∀i,o<=i->i<o+n->cs[i]? = ds[i]?
def ti(l:List Fp)(H1 H2:U):Prop:=∀x∈l,Alike x H1 H2
def im:X->List Nat
 | .t k=>[k]
 | .c _=>[]
def wm(l:List X):List Nat:=(l.map im).flatten
def wj:Option X->List Nat
 | some x=>im x
 | none=>[]
def gM:iu->List Nat
 | .mv x=>im x
 | .pick c a b=>im c++im a++im b
 | .box _ x=>im x
 | .alloc _ _=>[]
 | .build _ ps=>(ps.map λp=>im p.2.2).flatten
 | .buildSl _ _ _ _ ps=>(ps.map λp=>im p.2).flatten
 | .ld1 x=>im x
 | .ldN _ x=>im x
 | .st1 a x=>im a++im x
 | .stN _ a x=>im a++im x
 | .nilck x=>im x
 | .arith _ x y=>im x++im y
 | .eqS _ _ _ x y=>im x++im y
 | .un _ x=>im x
 | .conv _ x=>im x
 | .b2s x=>im x
 | .mkfn _ a b=>wm a++wm b
 | .mkmap _=>[]
 | .mksl _ _ _ _ l c=>im l++im c
 | .slc _ x lo hi=>im x++wj lo++wj hi
 | .slcS x lo hi=>im x++wj lo++wj hi
 | .slc3 _ x lo hi mx=>im x++wj lo++im hi++im mx
 | .slcArr _ _ x lo hi=>im x++wj lo++wj hi
 | .fieldA _ x=>im x
 | .field _ _ _ x=>im x
 | .idxA _ x i=>im x++im i
 | .idxArr _ _ x i=>im x++im i
 | .idx _ _ _ x i=>im x++im i
 | .idxStr x i=>im x++im i
 | .lookup _ _ _ m k=>im m++im k
 | .mapUpd _ m k x=>im m++im k++im x
 | .ext x _=>im x
 | .call _ args=>wm args
 | .callN _ args=>wm args
 | .callv f args=>im f++wm args
 | .app _ _ _ x y=>im x++im y
 | .copy _ x y=>im x++im y
 | .len _ x=>im x
 | .minmax _ xs=>wm xs
 | .nilS _ x | .capE x | .clr _ _ x | .rangeS x | .nextS x | .rangeM x | .nextM x | .entry x=>im x
 | .mapEnt _ _ m k=>im m++im k
 | .entSt m s x=>im m++im s++im x
 | .appZ _ _ _ _ x n=>im x++im n
def Gn:iu->Bool
 | .mv _ | .pick .. | .build .. | .nilck _ | .arith .. | .eqS .. | .un .. | .conv .. | .mkfn .. | .slc .. | .slcS .. | .slc3 .. | .fieldA .. | .field .. | .idxA .. | .idxArr .. | .idx .. | .idxStr .. | .ext .. | .minmax ..
 | .len .slice _ | .len .string _=>true
 | _=>false
def QV:iu->Bool
 | .ld1 _ | .ldN .. | .b2s _ | .slcArr .. | .lookup .. | .len .. | .call .. | .callv .. => true
 | op=>Gn op
def MX(a b:iu):Bool:=Gn a||Gn b||(QV a&&QV b)
section
variable{f f':gD}
theorem zV{x:X}(h:∀t∈im x,f t=f' t):ev f x=ev f' x:=by
 cases x with
 | t k=>exact h k (by simp[im])
 | c d=>rfl
theorem zW{l:List X}(h:∀t∈wm l,f t=f' t):l.map (ev f)=l.map (ev f'):=
 ak λx a=>zV λt b=>h t (a7.2 ⟨_,aq.2 ⟨x,a,rfl⟩,b⟩)
theorem QO:∀ {l:List (Nat×Nat×X)},(∀t∈(l.map λp=>im p.2.2).flatten,f t=f' t)->partsOf f l=partsOf f' l
 | [],_=>rfl
 | (o,n,x)::r,h=>by have h1:ev f x=ev f' x:=zV λt a=>h t (by simp[a]);have b:=QO (l:=r) λt a=>h t (by simp only[List.map_cons,aQ,List.mem_append];exact .inr a);simp only[partsOf,h1,b]
theorem wH{x:Option X}{n:Int}(h:∀t∈wj x,f t=f' t):gN f x n=gN f' x n:=by
 cases x with
 | none=>rfl
 | some x=>simp only[gN,zV (x:=x) h]
theorem V5:∀ {l:List X},(∀t∈wm l,f t=f' t)->qt f l=qt f' l
 | [],_=>rfl
 | x::r,h=>by have h1:ev f x=ev f' x:=zV λt a=>h t (by simp[wm,a]);have b:=V5 (l:=r) λt a=>h t (by simp only[wm,List.map_cons,aQ,List.mem_append];exact .inr a);simp only[qt,h1,b]
theorem SD{op:iu}(h:∀t∈gM op,f t=f' t)(H:U)(n:Nat):gv f H n op=gv f' H n op:=by
 have e:∀ {x:X},(∀t∈im x,t∈gM op)->ev f x=ev f' x:=λr=>zV λt d=>h t (r t d);cases op<;>simp only[gv]<;>first|rfl|skip
 case mv x=>rw[e (x:=x) (λt d=>by simpa[gM]using d)]
 case pick c a b=>rw[e (x:=c) (λt d=>by simp[gM,d]),e (x:=a) (λt d=>by simp[gM,d]),e (x:=b) (λt d=>by simp[gM,d])]
 case box x=>rw[e (x:=x) (λt d=>by simpa[gM]using d)]
 case build z ps=>simp only[BY,QO (f:=f) (f':=f') (l:=ps) (λt d=>h t (by simpa[gM]using d))]
 case buildSl t sz z m ps=>
  have:=QO (f:=f) (f':=f') (l:=ps.map λp=>(p.1*sz,sz,p.2)) (λt d=>h t (by simpa[gM,List.map_map,eI]using d));simp only[x9,this]
 case ld1 x=>rw[e (x:=x) (λt d=>by simpa[gM]using d)]
 case ldN n x=>rw[e (x:=x) (λt d=>by simpa[gM]using d)]
 case st1 a x=>rw[e (x:=a) (λt d=>by simp[gM,d]),e (x:=x) (λt d=>by simp[gM,d])]
 case stN n a x=>rw[e (x:=a) (λt d=>by simp[gM,d]),e (x:=x) (λt d=>by simp[gM,d])]
 case nilck x=>rw[e (x:=x) (λt d=>by simpa[gM]using d)]
 case arith op x y=>rw[e (x:=x) (λt d=>by simp[gM,d]),e (x:=y) (λt d=>by simp[gM,d])]
 case eqS b ls neg x y=>rw[e (x:=x) (λt d=>by simp[gM,d]),e (x:=y) (λt d=>by simp[gM,d])]
 case un op x=>rw[e (x:=x) (λt d=>by simpa[gM]using d)]
 case conv k x=>rw[e (x:=x) (λt d=>by simpa[gM]using d)]
 case b2s x=>rw[e (x:=x) (λt d=>by simpa[gM]using d)]
 case mkfn g a b=>rw[zW (f:=f) (f':=f') (l:=a) (λt d=>h t (by simp[gM,d])),zW (f:=f) (f':=f') (l:=b) (λt d=>h t (by simp[gM,d]))]
 case mksl t sz Nt z l c=>rw[e (x:=l) (λt d=>by simp[gM,d]),e (x:=c) (λt d=>by simp[gM,d])]
 case slc sz x lo hi=>
  have q:∀n,gN f lo n=gN f' lo n:=λn=>wH λt d=>h t (by simp[gM,d]);have j:∀n,gN f hi n=gN f' hi n:=λn=>wH λt d=>h t (by simp[gM,d]);simp only[tg,q,j,e (x:=x) (λt d=>by simp[gM,d])]
 case slc3 sz x lo hi mx=>
  have q:∀n,gN f lo n=gN f' lo n:=λn=>wH λt d=>h t (by simp[gM,d]);have j:∀n,gN f (some hi) n=gN f' (some hi) n:=λn=>wH λt d=>h t (by simp only[wj]at d;simp[gM,d]);have s:∀n,gN f (some mx) n=gN f' (some mx) n:=λn=>wH λt d=>h t (by simp only[wj]at d;simp[gM,d]);simp only[xG,q,j,s,e (x:=x) (λt d=>by simp[gM,d])]
 case slcArr sz m x lo hi=>
  have q:∀n,gN f lo n=gN f' lo n:=λn=>wH λt d=>h t (by simp[gM,d]);have j:∀n,gN f hi n=gN f' hi n:=λn=>wH λt d=>h t (by simp[gM,d]);simp only[zl,q,j,e (x:=x) (λt d=>by simp[gM,d])]
 case slcS x lo hi=>
  have q:∀n,gN f lo n=gN f' lo n:=λn=>wH λt d=>h t (by simp[gM,d]);have j:∀n,gN f hi n=gN f' hi n:=λn=>wH λt d=>h t (by simp[gM,d]);simp only[MS,q,j,e (x:=x) (λt d=>by simp[gM,d])]
 case fieldA o x=>rw[e (x:=x) (λt d=>by simpa[gM]using d)]
 case field o n b x=>rw[e (x:=x) (λt d=>by simpa[gM]using d)]
 case idxA sz x i=>rw[e (x:=x) (λt d=>by simp[gM,d]),e (x:=i) (λt d=>by simp[gM,d])]
 case idxArr sz n x i=>rw[e (x:=x) (λt d=>by simp[gM,d]),e (x:=i) (λt d=>by simp[gM,d])]
 case idx sz n b x i=>rw[e (x:=x) (λt d=>by simp[gM,d]),e (x:=i) (λt d=>by simp[gM,d])]
 case idxStr x i=>rw[e (x:=x) (λt d=>by simp[gM,d]),e (x:=i) (λt d=>by simp[gM,d])]
 case lookup kk z ok m k=>rw[e (x:=m) (λt d=>by simp[gM,d]),e (x:=k) (λt d=>by simp[gM,d])]
 case mapUpd kk m k x=>rw[e (x:=m) (λt d=>by simp[gM,d]),e (x:=k) (λt d=>by simp[gM,d]),e (x:=x) (λt d=>by simp[gM,d])]
 case ext x i=>rw[e (x:=x) (λt d=>by simpa[gM]using d)]
 case app t sz Nt x y=>rw[e (x:=x) (λt d=>by simp[gM,d]),e (x:=y) (λt d=>by simp[gM,d])]
 case copy sz x y=>rw[e (x:=x) (λt d=>by simp[gM,d]),e (x:=y) (λt d=>by simp[gM,d])]
 case len k x=>rw[e (x:=x) (λt d=>by simpa[gM]using d)]
 case minmax b xs=>simp only[C6,V5 (f:=f) (f':=f') (l:=xs) (λt d=>h t (by simpa[gM]using d))]
end
end Go.AL
namespace Go.AL
open Go
theorem Ki{f f':gD}{op:iu}(h:∀t∈gM op,f t=f' t):kb f op=kb f' op:=by
 cases op<;>first|rfl|skip
 case call g args=>simp only[kb,zW (f:=f) (f':=f') (l:=args) (λt a=>h t (by simpa[gM]using a))]
 case callN g args=>simp only[kb,zW (f:=f) (f':=f') (l:=args) (λt a=>h t (by simpa[gM]using a))]
 case callv g args=>
  simp only[kb,zW (f:=f) (f':=f') (l:=args) (λt a=>h t (by simp[gM,a])),zV (f:=f) (f':=f') (x:=g) (λt a=>h t (by simp[gM,a]))]
theorem K6{f f':gD}{op:iu}(h:∀t∈gM op,f t=f' t)(H:U):gA f H op=gA f' H op:=by
 have c:∀ {x:X},(∀t∈im x,t∈gM op)->ev f x=ev f' x:=λd=>zV λt b=>h t (d t b);have e:=Ki h;cases op<;>simp only[gA]<;>first|rfl|skip
 case ld1 x=>rw[c (x:=x) (λt b=>by simpa[gM]using b)]
 case ldN n x=>rw[c (x:=x) (λt b=>by simpa[gM]using b)]
 case b2s x=>rw[c (x:=x) (λt b=>by simpa[gM]using b)]
 case slcArr sz n x lo hi=>rw[c (x:=x) (λt b=>by simp[gM,b])]
 case st1 a x=>rw[c (x:=a) (λt b=>by simp[gM,b])]
 case stN n a x=>rw[c (x:=a) (λt b=>by simp[gM,b])]
 case lookup kk z ok m k=>rw[c (x:=m) (λt b=>by simp[gM,b])]
 case mapUpd kk m k x=>rw[c (x:=m) (λt b=>by simp[gM,b])]
 case app t sz Nt x y=>rw[c (x:=x) (λt b=>by simp[gM,b]),c (x:=y) (λt b=>by simp[gM,b])]
 case copy sz x y=>rw[c (x:=x) (λt b=>by simp[gM,b]),c (x:=y) (λt b=>by simp[gM,b])]
 case len k x=>cases k<;>simp only[gA]<;>rw[c (x:=x) (λt b=>by simpa[gM]using b)]
 case call g args=>rw[zW (f:=f) (f':=f') (l:=args) (λt b=>h t (by simpa[gM]using b))]
 case callN g args=>rw[zW (f:=f) (f':=f') (l:=args) (λt b=>h t (by simpa[gM]using b))]
 case callv g args=>rw[e]
section
variable{H1 H2:U}
theorem MC{v:Nat}(h:H1[v]? = H2[v]?)(g:Nat):rowAt H1 v g=rowAt H2 v g:=by simp only[rowAt,h]
theorem Qm{v:Nat}(h:H1[v]? = H2[v]?):kY H1 v=kY H2 v:=by simp only[kY,h]
theorem Gz{v o n:Nat}(h:Alike (v,some (o,n)) H1 H2)(g:Nat) :
  (rowAt H1 v g=none/\rowAt H2 v g=none)\/∃t cs ds,rowAt H1 v g=some (t,cs)/\rowAt H2 v g=some (t,ds)/\cs.length=ds.length/\∀i,o<=i->i<o+n->cs[i]? = ds[i]? := by
 rcases h with h|⟨t,d,cs,ds,h1,a,c,b⟩
 .rw[MC h g]
  cases f:rowAt H2 v g with
  | none=>exact .inl ⟨rfl,rfl⟩
  | some p=>exact .inr ⟨p.1,p.2,p.2,rfl,rfl,rfl,λ_ _ _=>rfl⟩
 .by_cases e:d=g
  .exact .inr ⟨t,cs,ds,by simp[rowAt,h1,e],by simp[rowAt,a,e],c,b⟩
  .exact .inl ⟨by simp[rowAt,h1,e],by simp[rowAt,a,e]⟩
theorem Rs{sz:Nat}{d:D}(h:ti (mN d) H1 H2):ko sz H1 d=ko sz H2 d:=by
 unfold ko;split<;>first|rfl|skip
 rename_i v g a off len;have:=h (v,none) (by simp[mN]);rw[MC this]
theorem ti.left{a b:List Fp}(h:ti (a++b) H1 H2):ti a H1 H2:=λx c=>h x (bz _ c)
theorem ti.right{a b:List Fp}(h:ti (a++b) H1 H2):ti b H1 H2:=λx c=>h x (bP _ c)
theorem Zi{f:gD}{op:iu}(h:ti (gA f H1 op) H1 H2)(n:Nat):gv f H1 n op=gv f H2 n op:=by
 cases op<;>simp only[gv]<;>first|rfl|skip
 case ld1 x=>
  congr 1;simp only[gA]at h;unfold vW;split<;>first|rfl|skip
  rename_i v g o b;rw[b]at h;rcases Gz (h (v,some (o,1)) (by simp[ub])) g with⟨d,c⟩|⟨t,cs,ds,d,c,e,j⟩
  .rw[d,c]
  .grind
 case ldN m x=>
  congr 1;simp only[gA]at h;unfold uW;split<;>first|rfl|skip
  rename_i v g o b;rw[b]at h;rcases Gz (h (v,some (o,m)) (by simp[ub])) g with⟨d,c⟩|⟨t,cs,ds,d,c,e,j⟩
  .rw[d,c]
  .rw[d,c]
   have:(cs.drop o).take m=(ds.drop o).take m:=by
    apply bN;intro i;simp only[aC,aH];split
    .grind
    .rfl
   simp only[e,this]
 case st1 a x=>
  simp only[gA]at h;unfold Bs;split<;>first|rfl|skip
  rename_i v g o b;rw[b]at h;rcases Gz (h (v,some (o,1)) (by simp[ub])) g with⟨d,c⟩|⟨t,cs,ds,d,c,e,j⟩
  .rw[d,c]
  .grind
 case stN m a x=>
  simp only[gA]at h;unfold Bt;split<;>first|rfl|skip
  rename_i v g o xs b _;rw[b]at h;rcases Gz (h (v,some (o,m)) (by simp[ub])) g with⟨d,c⟩|⟨t,cs,ds,d,c,e,j⟩
  .rw[d,c]
  .grind
 case slcArr sz m x lo hi=>
  congr 1;simp only[gA]at h;unfold zl;split<;>first|rfl|skip
  rename_i v g o l r b _ _;rw[b]at h;rcases Gz (h (v,some (o,m*sz)) (by simp[ub])) g with⟨d,c⟩|⟨t,cs,ds,d,c,e,j⟩
  .rw[d,c]
  .grind
 case lookup kk z ok m k=>
  congr 1;simp only[gA]at h;unfold AZ;split<;>first|rfl|skip
  rename_i v kv b _;rw[b]at h;rw[Qm (h (v,none) (by simp[mN]))]
 case mapUpd kk m k x=>
  simp only[gA]at h;unfold y6;split<;>first|rfl|skip
  rename_i v kv b _;rw[b]at h;rw[Qm (h (v,none) (by simp[mN]))]
 case b2s x=>
  congr 1;simp only[gA]at h;unfold BW;rw[Rs (sz:=1) h]
 case len k x=>
  congr 1;unfold mM;split<;>first|rfl|skip
  rename_i v b;simp only[gA]at h;rw[b]at h;rw[Qm (h (v,none) (by simp[mN]))]
 case app t sz Nt x y=>
  simp only[gA]at h;unfold rN;rw[Rs (sz:=sz) h.right];split<;>first|rfl|skip
  split<;>first|rfl|skip
  rename_i v g p off len b;rw[b]at h;rw[MC (h (v,none) (by simp[mN]))]
 case copy sz x y=>
  simp only[gA]at h;unfold yl;rw[Rs (sz:=sz) h.right];split<;>first|rfl|skip
  rename_i v g p off len q n b _;rw[b]at h;rw[MC (h (v,none) (by simp[mN]))]
theorem zh(H:U)(v g:Nat):rowAt H v g=match rowsOf H v with|some (t,g',cs)=>if g'=g then some (t,cs)else none|none=>none:=by
 unfold rowAt rowsOf
 cases H[v]? with
 | none=>rfl
 | some o=>cases o<;>rfl
theorem Gv:∀(k:Nat) (d:D),(∀v∈gZ H1 k d,rowsOf H1 v=rowsOf H2 v)->gZ H2 k d=gZ H1 k d/\fL (λ_=>none) H2 k d=fL (λ_=>none) H1 k d
 | 0,d,_=>⟨rfl,rfl⟩
 | k+1,d,h=>by
  have f:∀(ds:List D),(∀v∈(ds.map (gZ H1 k)).flatten,rowsOf H1 v=rowsOf H2 v)->ds.map (gZ H2 k)=ds.map (gZ H1 k)/\ds.map (fL (λ_=>none) H2 k)=ds.map (fL (λ_=>none) H1 k):=by intro ds q;have h1:∀d∈ds,∀v∈gZ H1 k d,rowsOf H1 v=rowsOf H2 v:=λd j v c=>q v (a7.2 ⟨_,aq.2 ⟨d,j,rfl⟩,c⟩);exact⟨ak λd j=>(Gv k d (h1 d j)).1,ak λd j=>(Gv k d (h1 d j)).2⟩
  unfold gZ at h;unfold gZ fL
  by_cases r:closed d=true
  .grind
  .simp only[if_neg r]at h ⊢
   cases d with
   | agg cs=>obtain⟨a,b⟩:=f cs h;simp only[a,b,and_self]
   | tup cs=>obtain⟨a,b⟩:=f cs h;simp only[a,b,and_self]
   | fV cs=>obtain⟨a,b⟩:=f cs h;simp only[a,b,and_self]
   | sl sz es=>
    have h1:∀e∈es,e.map (gZ H2 k)=e.map (gZ H1 k)/\e.map (fL (λ_=>none) H2 k)=e.map (fL (λ_=>none) H1 k):=λe i=>f e λv c=>h v (a7.2 ⟨_,aq.2 ⟨e,i,rfl⟩,c⟩);have a:es.map (λe=>(e.map (gZ H2 k)).flatten)=es.map (λe=>(e.map (gZ H1 k)).flatten):=ak λe i=>by rw[(h1 e i).1]
    have b:es.map (λx=>x.map (fL (λ_=>none) H2 k))=es.map (λx=>x.map (fL (λ_=>none) H1 k)):=ak λe i=>(h1 e i).2;simp only[a,b,and_self]
   | fn g x y=>
    obtain⟨a,b⟩:=f x λv c=>h v (bz _ c);obtain⟨w,s⟩:=f y λv c=>h v (bP _ c);simp only[a,b,w,s,and_self]
   | fy v g sz off len=>
    have c:rowsOf H1 v=rowsOf H2 v:=h v (by simp);simp only[zh,<-c]
    cases n:rowsOf H1 v with
    | none=>exact⟨rfl,rfl⟩
    | some p=>
     obtain⟨t,o,cs⟩:=p;obtain⟨l,l2⟩:=f cs λu m=>h u (by simp only[n];exact aZ _ m);refine⟨by simp only[l],?_⟩
     by_cases hg:o=g
     .grind
     .grind
   | ptr v g off=>
    have c:rowsOf H1 v=rowsOf H2 v:=h v (by simp);simp only[zh,<-c]
    cases n:rowsOf H1 v with
    | none=>exact⟨rfl,rfl⟩
    | some p=>
     obtain⟨t,o,cs⟩:=p;obtain⟨l,l2⟩:=f cs λu m=>h u (by simp only[n];exact aZ _ m);refine⟨by simp only[l],?_⟩
     by_cases hg:o=g
     .grind
     .grind
   | _=>exact⟨rfl,rfl⟩
