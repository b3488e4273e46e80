/- Part 4 of DisputeWorkers. -/
import Derived.Test.YtmehofoficaelaaGreatDoorW03
import Derived.Laws.IdiomRangeMap
import Derived.RangeFuncLeaves
import Derived.OwnWalkIn
set_option linter.all false
namespace Go.AL
open Go
section
variable{G:GT}{c:Ctx}{H:U}{w:World}{ks:nL}
def AU(ks:nL):Prop:=∀(i j:Nat) (p q:Nat×Bool),ks[i]? = some p->ks[j]? = some q->p.1=q.1->i=j
theorem TB{i:Nat}{o:Ob}(h:(rC ks H)[i]? = some o)(d:o≠.dead):∃v a,ks[i]? = some (v,true)/\H[v]? = some a/\o=pG (iI ks) H a:=by
 unfold rC at h;simp only[au,aj]at h;obtain⟨p,c,b⟩:=h;split at b
 .grind
 .grind
theorem aaQ{o:Ob}(h:(pG (iI ks) H o).alive=true):o.alive=true/\(pG (iI ks) H o).gen=o.gen:=by cases o<;>simp_all [pG,Ob.alive,Ob.gen]
theorem Tr{v i:Nat}(b:AU ks)(h:ks[i]? = some (v,true)):iI ks v=some i:=by
 cases a:iI ks v with
 | none=>exact absurd h (aat a i)
 | some j=>
  have:=aau a;rw[b i j _ _ h this rfl]
theorem Oi{i:Nat}{L:Loc}(h:lY (c.gq ks H) (rC ks H) i L):∃v,ks[i]? = some (v,true)/\lY c H v L:=by obtain⟨o,f,a,b⟩:=h;obtain⟨v,d,h1,g,rfl⟩:=TB f (by intro e;subst e;cases a);obtain⟨k,j⟩:=aaQ a;refine⟨v,h1,d,g,k,?_⟩;rw[j]at b;simpa[Ctx.gq,h1]using b
theorem Z'{b:Nat}(h:mh (c.gq ks H) (rC ks H) b):mh c H b:=by obtain⟨i,L,hl,a,e⟩:=h;obtain⟨v,_,d⟩:=Oi hl;exact⟨v,L,d,a,e⟩
theorem EU(h:gE G c H w)(T:AU ks):gE G (c.gq ks H) (rC ks H) w where
 inj i j L M h1 A h3 h4 O:=by obtain⟨v,k1,F⟩:=Oi h1;obtain⟨v',k2,l2⟩:=Oi A;have:=h.inj v v' L M F l2 h3 h4 O;subst this;exact T i j _ _ k1 k2 rfl
 lt b n:=h.lt b (Z' n)
 nF b n K:=by
  obtain⟨i,L,hl,q,e⟩:=n;obtain⟨v,k1,F⟩:=Oi hl;rcases K with K|⟨v',M,l2,S,P,W⟩
  .exact h.nF b ⟨v,L,F,q,e⟩ K
  .have:=h.inj v v' L M F l2 q P (e.trans W.symm);subst this;exact aat S i k1
 kO b n:=by
  rcases n with n|⟨v,L,l,_,q,e⟩
  .exact h.kO b n
  .exact h.lt b ⟨v,L,l,q,e⟩
 out i k hi:=by simp only[rC,List.length_map]at hi;simp[Ctx.gq,bk hi]
 mD i o k ho z:=by
  have I:o≠.dead:=by rintro rfl;rcases z with z|⟨z,_⟩<;>cases z
  obtain⟨v,y,h1,A,rfl⟩:=TB ho I;rcases z with z|⟨V,hg⟩
  .cases y<;>simp[pG]at z
  .obtain⟨D,C⟩:=aaQ V;have:=h.mD v y k A (.inr ⟨D,by rw[<-C];exact hg⟩);simpa[Ctx.gq,h1]using this
 ob i o ho:=by
  by_cases I:o = .dead
  .subst I;simp[ia]
  .obtain⟨v,y,h1,A,rfl⟩:=TB ho I;have h0:=h.ob v y A;have f:(c.gq ks H).ι i y.gen=c.ι v y.gen:=by simp[Ctx.gq,h1]
   have N:∀u d,gh c w u d->gh (c.gq ks H) w u (gq (iI ks) H 40 d):=λu d U=>AD h 40 U
   cases y with
   | dead=>simp[pG,ia]
   | lT=>simp[pG,ia]
   | row t g cs=>
    simp only[pG,Ob.gen]at f ⊢;rw[f];simp only[Ob.gen]at h0
    cases a:c.ι v g with
    | none=>rw[a]at h0;simp[ia]at h0
    | some L=>
     rw[a]at h0;simp only[ia]at h0 ⊢;split
     .grind
     .grind
   | map kk es=>
    simp only[pG,Ob.gen]at f ⊢;rw[f];simp only[Ob.gen]at h0
    cases a:c.ι v 0 with
    | none=>rw[a]at h0;simp[ia]at h0
    | some L=>
     rw[a]at h0;simp only[ia]at h0 ⊢;obtain⟨q,Y,arr,B,D,C,J,E⟩:=h0;refine⟨q,λx R=>?_,arr,B,D,by simpa using C,λj e x O R=>?_,by simpa using E⟩
     .grind
     .grind
   | ib rf env st=>
    simp only[pG,Ob.gen]at f ⊢;rw[f];simp only[Ob.gen]at h0
    cases a:c.ι v 0 with
    | none=>rw[a]at h0;simp[ia]at h0
    | some L=>
     rw[a]at h0;simp only[ia]at h0 ⊢;obtain⟨q,r,D,C,J,E⟩:=h0;refine⟨q,r,D,λk=>?_,J,E⟩
     have key:∀(env:Env) (k:Nat),(Env.get (env.map λx=>(x.1,gq (iI ks) H 40 x.2)) k)=gq (iI ks) H 40 (env.get k):=by
      intro env k
      induction env with
      | nil=>rfl
      | cons p r Q=>
       obtain⟨j,d⟩:=p;simp only[List.map_cons,Env.wW];split
       .rfl
       .exact Q
     rw[key];exact N _ _ (C k)
   | sO s p=>
    simp only[pG,Ob.gen]at f ⊢;rw[f];simp only[Ob.gen]at h0
    cases a:c.ι v 0 with
    | none=>rw[a]at h0;simp[ia]at h0
    | some L=>
     rw[a]at h0;simpa only[ia]using h0
   | jl m since seen=>
    simp only[pG,Ob.gen]at f ⊢;rw[f];simp only[Ob.gen]at h0
    cases a:c.ι v 0 with
    | none=>rw[a]at h0;simp[ia]at h0
    | some L=>
     rw[a]at h0;simp only[ia]at h0 ⊢;obtain⟨D,C,X,J,E⟩:=h0;exact⟨D,C,X,N _ _ J,E⟩
   | ja=>
    simp only[pG,Ob.gen]at f ⊢;rw[f];simp only[Ob.gen]at h0
    cases a:c.ι v 0 with
    | none=>rw[a]at h0;simp[ia]at h0
    | some L=>
     rw[a]at h0;simpa only[ia]using h0
 gl g cs hg:=by obtain⟨h1,A⟩:=h.gl g cs hg;exact⟨h1,A.closed (λb n=>Df n) (by simpa[AL.closed]using h1)⟩
 rt:=h.rt
theorem TG(h:gE G c H w){n:Nat}(g:∀v,v<n->(ks[v]?).map (·.1)=some v):Step n c H w (c.gq ks H) (rC ks H) w where
 os:=⟨rfl,Nat.le_refl _⟩
 tape:=rfl
 output:=rfl
 size:=Nat.le_refl _
 RT:=rfl
 Fm b a:=Df a
 Fn b a:=by
  rcases a with a|⟨v,L,l,_,d,e⟩
  .exact .inl a
  .exact .inr (.inr ⟨v,L,l,d,e⟩)
 kept _ _ _:=rfl
 old v k L d gp:=by have:=g v d;simp only[aj]at this;obtain⟨p,f,e⟩:=this;simp only[Ctx.gq,f,e];exact gp
 own b a:=.inr (Z' a)
theorem afh(env:Env)(k:Nat):(Env.get (env.map λx=>(x.1,gq (iI ks) H 40 x.2)) k)=gq (iI ks) H 40 (env.get k):=by
 induction env with
 | nil=>rfl
 | cons p r a=>
  obtain⟨j,d⟩:=p;simp only[List.map_cons,Env.wW];split
  .rfl
  .exact a
theorem VU(h:gE G c H w){env:Env}{a:Act}(b:kT c w env.get a):kT (c.gq ks H) w (Env.get (env.map λx=>(x.1,gq (iI ks) H 40 x.2))) a:=λk=>by rw[afh];exact AD h 40 (b k)
theorem afc(live:List Nat)(env:Env)(k:Nat):(forget live env).get k = .any\/(forget live env).get k=env.get k:=by
 unfold forget
 induction live with
 | nil=>exact .inl rfl
 | cons x r a=>
  simp only[List.map_cons,Env.wW];split
  .grind
  .exact a
theorem Dy{env:Env}{a:Act}(b:kT c w env.get a)(live:List Nat):kT c w (forget live env).get a:=λk=>by
 rcases afc live env k with h|h<;>rw[h]
 .exact .any _
 .exact b k
theorem Ih{x:Nat}:∀ {l:List Nat},x∈dedup l->x∈l
 | [],h=>h
 | y::r,h=>by
  unfold dedup at h;split at h
  .exact aX _ (Ih h)
  .rcases av.1 h with rfl|h
   .grind
   .exact aX _ (Ih h)
theorem MW{x:Nat}:∀ {l:List Nat},x∈l->x∈dedup l
 | y::r,h=>by
  unfold dedup;split
  .rename_i a;rcases av.1 h with rfl|h
   .exact MW a
   .exact MW h
  .rcases av.1 h with rfl|h
   .grind
   .exact aX _ (MW h)
theorem Ox:∀(l:List Nat),(dedup l).Nodup
 | []=>List.nodup_nil
 | y::r=>by
  unfold dedup;split
  .exact Ox r
  .rename_i a;exact cM.2 ⟨λh=>a (Ih h),Ox r⟩
theorem YO(h:(ks.map (·.1)).Nodup):AU ks:=by
 intro i j p q f d e;have hi:(ks.map (·.1))[i]? = some p.1:=by simp[f]
 have a:(ks.map (·.1))[j]? = some q.1:=by simp[d]
 have b:=(ae.1 hi).1;have c:=(ae.1 a).1;rw[List.getElem?_eq_getElem b]at hi;rw[List.getElem?_eq_getElem c]at a;simp only[aq]at hi a;exact(List.getElem_inj h).1 (by rw[hi,a,e])
theorem YR{n:Nat}{K:List Nat}(g:∀v∈K,n<=v)(c:K.Nodup):AU (ji n K):=by apply YO;unfold ji;simp only[List.map_append,cz,eY,List.map_id'];rw[cO];refine⟨fh,c,λa f b d e=>?_⟩;subst e;have:=g a d;simp at f;omega
theorem YQ{n:Nat}{K:List Nat}(v:Nat)(a:v<n):((ji n K)[v]?).map (·.1)=some v:=by unfold ji;rw[ah (by simpa using a)];simp[a]
theorem WQ{S:List Nat}:AU (mC H S):=by apply YO;unfold mC;simp only[cz,eY,List.map_id'];exact fh
theorem WO{S:List Nat}(v:Nat)(a:v<H.length):((mC H S)[v]?).map (·.1)=some v:=by unfold mC;simp[a]
theorem Qv{S:List Nat}:(rC (mC H S) H).length=H.length:=by simp[rC,mC]
end
end Go.AL
namespace Go.AL
open Go
def MP:Operand->Bool
 | .const (.slice none 0 0)=>true
 | _=>false
def EZ(P:Program)(t:TypeId):Bool:=match P.underlying t with
 | some (.slice _)=>true
 | _=>false
def sX(P:Program)(G:GT)(o:Oper):Option iL:=
 match o.op with
 | .binOp .eql t x y _=>if EZ P t=true/\MP y=true then(cX G x).map (.nilS false)else none
 | .binOp .neq t x y _=>if EZ P t=true/\MP y=true then(cX G x).map (.nilS true)else none
 | .range t x=>match P.underlying t,cX G x with
  | some .string,some a=>some (.rangeS a)
  | some (.map _ _),some a=>some (.rangeM a)
  | _,_=>none
 | .next x true=>(cX G x).map .nextS
 | .next x false=>(cX G x).map .nextM
 | .entry x=>(cX G x).map .entry
 | .call c=>match c.callee,c.argTypes.toList,c.args.toList with
  | .builtin .cap,[t],[x]=>if EZ P t then(cX G x).map .capE else none
  | .builtin .clear,[t],[x]=>match P.underlying t with
   | some (.slice e)=>match rG P e,P.info? e,cX G x with
    | some z,some i,some a=>if z.length=i.size/\0<i.size then some (.clr i.size z a)else none
    | _,_,_=>none
   | _=>none
  | .builtin .append,[t,u],[x,y]=>match P.underlying t,P.underlying u with
   | some (.slice e),some (.int .i64)=>match rG P e,P.info? e,cX G x,cX G y with
    | some z,some i,some a,some b=>if z.length=i.size/\0<i.size then some (.appZ e i.size i.bytes z a b)else none
    | _,_,_,_=>none
   | _,_=>none
  | _,_,_=>none
 | .mapEntry t m k=>match P.underlying t with
  | some (.map kt e)=>match uY P kt,Fe P e,cX G m,cX G k with
   | some kk,some z,some a,some b=>some (.mapEnt kk z a b)
   | _,_,_,_=>none
  | _=>none
 | .entryStore _ m s x=>match cX G m,cX G s,cX G x with
  | some a,some b,some c=>some (.entSt a b c)
  | _,_,_=>none
 | _=>none
def yI(kv:Value):List (Value×D)->Nat->Option (Nat×D)
 | [],_=>none
 | (k,d)::r,i=>if nX kv k then some (i,d)else yI kv r (i+1)
def yH(a:KK)(z:D)(m k:D)(H:U):R:=
 match m,keyOf k with
 | .gD v,some kv=>match lM H v with
  | some (kk,es)=>if kk=a/\kk.has kv=true then(match yI kv es 0 with
    | some (j,d)=>some (.tup [d,.i j],.obj v (.map kk (mu es kv d)))
    | none=>some (.tup [z,.i es.length],.obj v (.map kk (mu es kv z))))else none
  | none=>none
 | _,_=>none
def Ba(m s x:D)(H:U):R:=
 match m,s with
 | .gD v,.val (.int .i64 n)=>match lM H v with
  | some (kk,es)=>match es[n.toNat]? with
   | some (k,_)=>if 0<=n then some (.any,.obj v (.map kk (es.set n.toNat (k,x))))else none
   | none=>none
  | none=>none
 | _,_=>none
def Ow(neg:Bool):D->Option D
 | .gg=>some (.b !neg)
 | .sl _ (_::_)=>some (.b neg)
 | .fY _ _ _ _ (_+1)=>some (.b neg)
 | _=>none
def Mq(t sz bytes:Nat)(z:List D)(x n:D)(a:Nat):R:=
 match x,n with
 | .gg,.val (.int .i64 m)=>if 0<m/\rm (m*bytes) 140737488355328/\rm m 9223372036854775807 then some (.fY a 0 sz 0 m.toNat,.new (.row t 0 (List.replicate m.toNat z).flatten))else none
 | _,_=>none
def Ga(sz:Nat)(z:List D)(x:D)(H:U):R:=
 match x with
 | .gg=>some (.any,.no)
 | .fY v g a off len=>match rowAt H v g with
  | some (t,cs)=>if a=sz/\(off+len)*sz<=cs.length then some (.any,.obj v (.row t g (cs.take (off*sz)++(List.replicate len z).flatten++cs.drop ((off+len)*sz))))else none
  | none=>none
 | _=>none
def S2(x:D)(H:U):R:=
 match x with
 | .ptr v 0 0=>match H[v]? with
  | some (.sO s p)=>if p<s.size then some (.tup [.b true,.i p,.val (.int .i32 (Utf8.decode s p).1)],.obj v (.sO s (p+(Utf8.decode s p).2)))else some (.tup [.b false],.no)
  | _=>none
 | _=>none
def ID(x:D)(H:U)(a:Nat):R:=
 match x with
 | .gD m=>match lM H m with
  | some (_,es)=>some (.ptr a 0 0,.new (.jl (.gD m) es.length []))
  | none=>none
 | _=>none
def M4(x:D)(H:U):Option D:=
 match x with
 | .ptr v 0 0=>match H[v]? with
  | some (.jl (.gD m) since seen)=>match lM H m,seen.getLast? with
   | some (_,es),some i=>match es[i]? with
    | some (k,d)=>if es.length=since then some (.tup [sJ k,d])else none
    | none=>none
   | _,_=>none
  | _=>none
 | _=>none
def mz(env:gP)(H:U)(n:Nat):iL->R
 | .nilS neg x=>lift (Ow neg (ev env x))
 | .capE x=>match ev env x with
  | .gg=>some (.i 0,.no)
  | _=>none
 | .appZ t sz bytes z x m=>Mq t sz bytes z (ev env x) (ev env m) n
 | .clr sz z x=>Ga sz z (ev env x) H
 | .rangeS x=>match ev env x with
  | .val (.string s)=>some (.ptr n 0 0,.new (.sO s 0))
  | _=>none
 | .nextS x=>S2 (ev env x) H
 | .rangeM x=>ID (ev env x) H n
 | .entry x=>lift (M4 (ev env x) H)
 | .mapEnt kk z m k=>yH kk z (ev env m) (ev env k) H
 | .entSt m s x=>Ba (ev env m) (ev env s) (ev env x) H
 | _=>none
def Pa:iL->Bool
 | .nilS .. | .capE .. | .appZ .. | .clr .. | .rangeS .. | .nextS .. | .rangeM .. | .nextM .. | .entry .. | .mapEnt .. | .entSt .. => true
 | _=>false
theorem aol{op:iL}(h:Pa op=true)(f:gP)(H:U)(n:Nat):gN f H n op=none:=by cases op<;>first|(cases h;done)|rfl
theorem aom{op:iL}(h:Pa op=true)(f:gP):kK f op=none:=by cases op<;>first|(cases h;done)|rfl
theorem PZ{P:Program}{G:GT}{o:Oper}{a:iL}(h:sX P G o=some a):Pa a=true:=by
 unfold sX at h
 repeat' split at h
 all_goals first|(cases h;done)|(simp only[aj]at h;obtain⟨_,_,rfl⟩:=h;rfl)|(cases h;rfl)
section
variable{P:Program}{G:GT}{c:Ctx}{H:U}{w:World}{env:gP}{a:Act}
abbrev KO(H:U)(al:Al)(d:D)(δ:Dl):jE:=λd' H'=>d'=d/\H'=δ.app H al
theorem Ou(h:gE G c H w){al:Al}(e:nk H al)(o:Obj)(ob:Ob)(hg:ob.gen=0)(i:ob.alive=true)
  (f:(∀u d,gh c w u d->gh (c.set al.1 0 ⟨w.heap.size,0,0,false⟩) (w.alloc o) u d)->(w.alloc o).heap[w.heap.size]? = some o->ia (c.set al.1 0 ⟨w.heap.size,0,0,false⟩) (w.alloc o) (some ⟨w.heap.size,0,0,false⟩) ob) :
  gE G (c.set al.1 0 ⟨w.heap.size,0,0,false⟩) (al.2 ob) (w.alloc o)/\gh (c.set al.1 0 ⟨w.heap.size,0,0,false⟩) (w.alloc o) (.pointer (some ⟨w.heap.size,0,none⟩)) (.ptr al.1 0 0) /\
   Step H.length c H w (c.set al.1 0 ⟨w.heap.size,0,0,false⟩) (al.2 ob) (w.alloc o):=by
 have b:(⟨w.heap.size,0,0,false⟩:Loc).jO=false->w.heap.size<=(⟨w.heap.size,0,0,false⟩:Loc).b/\(⟨w.heap.size,0,0,false⟩:Loc).b<(w.alloc o).heap.size:=λ_=>⟨Nat.le_refl _,by simp⟩;have a:=(e ob).uz;have hs:=Ph h a (kj.alloc w o) ⟨w.heap.size,0,0,false⟩ b;rw[hg]at hs;have h1:=TR h a (kj.alloc w o) ⟨w.heap.size,0,0,false⟩ b i (by rw[hg];exact f (λu d g=>g.qb h.toHeapOK hs) (heap_alloc_new w o));rw[hg]at h1;exact⟨h1,.ptr (c:=c.set al.1 0 ⟨w.heap.size,0,0,false⟩) al.1 0 0 ⟨w.heap.size,0,0,false⟩ (Ctx.sN _ _ _ _) rfl,hs⟩
theorem ZZ(h:gE G c H w){t:TypeId}(f:EZ P t=true){neg:Bool}{x d:D}{u:Value}(i:gh c w u x)(a:Ow neg x=some d)(xo k:Operand) :
  ∃r,(do eqGuard (if neg then .neq else .eql) t xo k u (.slice none 0 0);binOp (if neg then .neq else .eql) t u (.slice none 0 0)).run P w = .ok r w/\gh c w r d:=by
 have v:∃e,P.underlying t=some (.slice e):=by
  unfold EZ at f;split at f
  .exact⟨_,by assumption⟩
  .cases f
 obtain⟨e,s⟩:=v
 have j:∀(n:Nat) (ad:Option Addr) (len cap:Nat),(Op.equalIn (n+1) t (.slice ad len cap) (.slice none 0 0)).run P w = .ok ad.isNone w:=by intro n ad len cap;cases ad<;>simp[Op.equalIn,run_underlying s]
 have p:∀ad len cap,Op.equal t (.slice ad len cap) (.slice none 0 0)=Op.equalIn (9999+1) t (.slice ad len cap) (.slice none 0 0):=λ_ _ _=>rfl
 have key:∀(ad:Option Addr) (len cap:Nat),u = .slice ad len cap->(do eqGuard (if neg then .neq else .eql) t xo k u (.slice none 0 0);binOp (if neg then .neq else .eql) t u (.slice none 0 0)).run P w = .ok (.bool (if neg then !ad.isNone else ad.isNone)) w:=by rintro ad len cap rfl;have h1:=j 9999 ad len cap;cases neg<;>simp only[eqGuard,binOp,p,bC,if_false,if_true,Sem.run_bind,Bool.not_true,Sem.run_pure,Result.andThen_ok,h1]
 unfold Ow at a;split at a
 .cases a;cases i;exact⟨_,key none 0 0 rfl,by cases neg<;>exact .val _⟩
 .cases a
  cases i with
  | sl ad len cap sz es g b m o z l B E=>
   have:ad≠none:=λe=>by have:=l e;simp at b;omega
   obtain⟨q,rfl⟩:=Option.ne_none_iff_exists'.1 this;exact⟨_,key _ _ _ rfl,by cases neg<;>exact .val _⟩
 .cases a
  cases i with
  | fY _ _ _ _ _ cap L C A m o y=>exact⟨_,key _ _ _ rfl,by cases neg<;>exact .val _⟩
 .cases a
theorem amd(h:gE G c H w){v g o:Nat}{a:TypeId}{cs xs:List D}(l:H[v]? = some (.row a g cs)){L:Loc}(p:c.ι v g=some L)(j:L.jO=false){vs:List Value}(f:Cells c w vs xs)
  (C:o+xs.length<=cs.length):∃w',(storeCells ⟨L.b,L.base+o,none⟩ vs).run P w = .ok () w'/\gE G c (H.set v (.row a g (cs.take o++xs++cs.drop (o+xs.length)))) w'/\Step H.length c H w c (H.set v (.row a g (cs.take o++xs++cs.drop (o+xs.length)))) w':=by
 obtain⟨arr,h1,x,E,u⟩:=yQ h l p j;have q:vs.length=xs.length:=f.len;have n:=run_storeCells_at P L.b (L.base+o) a vs 0 arr w h1 (by simp;omega) f.one;simp only[cy]at n
 have k:=Fc h l p j h1 (arr.toList.take (L.base+o)++vs++arr.toList.drop (L.base+o+vs.length)).toArray
  (by simp;omega) x (cs.take o++xs++cs.drop (o+xs.length)) (by simp;omega) (λi d m=>by
   have A:=u.sP f o;obtain⟨y,r,t,s⟩:=A.get m;refine⟨y,?_,t,s⟩;rw[<-r];simp only[du];have e:(List.take (L.base+o) arr.toList).length=L.base+o:=by simp;omega
   have b:(List.take o (List.take cs.length (List.drop L.base arr.toList))).length=o:=by simp;omega
   by_cases z:i<o
   .rw[ah (by simp;omega),ah (by rw[e];omega),ah (by simp;omega),ah (by rw[b];omega)];simp only[aF,aG];rw[if_pos (by omega),if_pos z,if_pos (by omega)]
   .by_cases c2:i<o+xs.length
    .rw[ah (by simp;omega),ai (by rw[e];omega),ah (by simp;omega),ai (by rw[b];omega),e,b];congr 1;omega
    .have B:i<cs.length:=by have:=(ae.1 m).1;simp at this;omega
     rw[ai (by simp;omega),ai (by simp;omega)];simp only[aG,aF,ak,e,b,q];rw[if_pos (by omega)];congr 1
     omega)
 exact⟨_,n,k.1,k.2⟩
theorem ame(h:gE G c H w){al:Al}{t e ty:TypeId}{i:TypeInfo}{z:List D}(l:P.underlying t=some (.slice e))(hi:P.info? e=some i)(K:rG P e=some z)(A:z.length=i.size)(S:0<i.size)
  {x d:D} {δ:Dl} {u:Value} (r:gh c w u x) (a:Ga i.size z x H=some (d,δ)):∃w',(Builtin.clear_ #[t] ty #[u]).run P w = .ok (.tuple #[]) w'/\jm G c H w (KO H al d δ) (.tuple #[]) w':=by
 unfold Ga at a;split at a
 .cases a;cases r;exact⟨w,by simp[Builtin.clear_,run_underlying l],_,_,c,⟨rfl,rfl⟩,h,.any _,Step.refl _ _ _ _⟩
 .rename_i v g V off len;split at a
  .rename_i f cs M;split at a
   .rename_i I;obtain⟨rfl,E⟩:=I;cases a;have k:=uv M;dsimp only at k;obtain⟨b,B,W,p⟩:=AJ K w;have Q:b.cells.size=i.size:=by have:=(p c w).len;simp at this;omega
    have n:(Dl.obj v (.row f g (cs.take (off*i.size)++(List.replicate len z).flatten++cs.drop ((off+len)*i.size)))).app H al=H.set v (.row f g (cs.take (off*i.size)++(List.replicate len z).flatten++cs.drop ((off+len)*i.size))):=rfl;have q:(List.replicate len z).flatten.length=len*i.size:=by simp[A]
    have m:(.row f g (cs.take (off*i.size)++(List.replicate 0 z).flatten++cs.drop ((off+0)*i.size)))=Ob.row f g cs:=by simp
    have j:H.set v (.row f g cs)=H:=by have N:=(ae.1 k).1;have F:=(ae.1 k).2;rw[<-F];exact eA N
    cases r with
    | fY _ _ _ _ _ cap L y J T U R=>
     by_cases s:len=0
     .subst s;refine⟨w,by simp[Builtin.clear_,run_underlying l],_,_,c,⟨rfl,rfl⟩,?_,.any _,?_⟩
      .rw[n,m,j];exact h
      .rw[n,m,j];exact Step.refl _ _ _ _
     .have C:Cells c w (Builtin.zeroCells b.cells len).toList (List.replicate len z).flatten:=by
       have h1:(Builtin.zeroCells b.cells len).toList=(List.replicate len b.cells.toList).flatten:=by unfold Builtin.zeroCells;exact OL b.cells len (by omega)
       rw[h1];exact Ni _ _ p len
      obtain⟨w',k1,k2,k3⟩:=amd (P:=P) (o:=off*i.size) h k y J C (by rw[q,<-bn];exact E);rw[q,<-bn]at k2 k3;refine⟨w',?_,_,_,c,⟨rfl,rfl⟩,k2,.any _,k3⟩;obtain⟨O,rfl⟩:=Nat.exists_eq_succ_of_ne_zero s;simp[Builtin.clear_,run_underlying l,B,k1]
    | mw _ _ _ _ L y ad=>
     refine⟨w,by cases ad<;>simp[Builtin.clear_,run_underlying l],_,_,c,⟨rfl,rfl⟩,?_,.any _,?_⟩
     .rw[n,m,j];exact h
     .rw[n,m,j];exact Step.refl _ _ _ _
   .cases a
  .cases a
 .cases a
theorem al6(h:gE G c H w){al:Al}(S:nk H al){t u ty e:TypeId}{i:TypeInfo}{z:List D}(V:P.underlying t=some (.slice e))(U:P.underlying u=some (.int .i64))(hi:P.info? e=some i)(T:rG P e=some z)(xk:z.length=i.size)(O:0<i.size)
  {x y d:D} {δ:Dl} {A v:Value} (h1:gh c w A x) (W:gh c w v y) (b:Mq e i.size i.bytes z x y al.1=some (d,δ)) :
  ∃r w',(Builtin.append_ #[t,u] ty #[A,v]).run P w = .ok r w'/\jm G c H w (KO H al d δ) r w':=by
 unfold Mq at b;split at b
 .rename_i m;split at b
  .rename_i Q;cases b;cases h1;cases W;obtain⟨a,vW,N7,B⟩:=AJ T w;have Es:i.zero=some a:=by simpa[hi]using N7
   have I:a.cells.size=i.size:=by have:=(B c w).len;simp at this;omega
   obtain⟨n,rfl⟩:∃n:Nat,m=n:=⟨m.toNat,by omega⟩;obtain⟨rW,f,F⟩:=Q;simp only[rm]at f F;have E:0<n:=by omega
   have p:n*i.bytes<=140737488355328:=by
    have h1:((n*i.bytes:Nat):Int)<=140737488355328:=by rw[Int.natCast_mul];exact f
    omega
   have W7:n<=9223372036854775807:=by omega
   have J:=grownCap_ge w n 0 e;have N:=grownCap_le_maxLen w n 0 e (by unfold maxLen;omega);have wn:IntKind.i64.wrap (n:Int)=n:=wrap_i64 (by unfold oq;omega)
   have R:(Builtin.append_ #[t,u] ty #[.slice none 0 0,.int .i64 n]).run P w = .ok (.slice (some ⟨w.heap.size,0,none⟩) n (grownCap w n 0 e))
     (w.drew.alloc (.cells (Builtin.zeroCells a.cells n++Builtin.zeroCells a.cells (grownCap w n 0 e-n)) e)):=by
    have j:¬(n=0):=by omega
    have q:∀w:World,(asInt (.int .i64 (n:Int))).run P w = .ok (n:Int) w:=λw=>by simp[asInt,asIntOf]
    have k:¬((n:Int)<=0):=by omega
    have M:max (n:Int) 0=n:=by omega
    have D7:(n:Int).toNat=n:=by omega
    have g:¬(i.size=0):=by omega
    have s:¬((n:Int)<0):=by omega
    have l:¬(281474976710656<(n:Int)*(i.bytes:Int)):=by have:(n:Int)*(i.bytes:Int)<=140737488355328:=f;omega
    have QP:¬(281474976710656<Builtin.nextslicecap n 0*i.bytes):=by have:=growslice_fits (old:=0) E p;omega
    have o:¬(9223372036854775807<(n:Int)):=by omega
    simp[Builtin.append_,run_underlying V,run_underlying U,sizeOf,typeInfo,zeroValue,hi,Es,q,wn,s,l,j,g,QP,o,k,M,Question.forced,newRow,grownCap,run_firstCells_none];intro h0;exact absurd h0 (Nat.ne_of_gt (Nat.mul_pos E O))
   refine⟨_,_,R,?_⟩
   have K:Cells c w (Builtin.zeroCells a.cells n).toList (List.replicate n z).flatten:=by
    have h1:(Builtin.zeroCells a.cells n).toList=(List.replicate n a.cells.toList).flatten:=by unfold Builtin.zeroCells;exact OL a.cells n (by omega)
    rw[h1];exact Ni _ _ B n
   have g:(Builtin.zeroCells a.cells n++Builtin.zeroCells a.cells (grownCap w n 0 e-n)).size=grownCap w n 0 e*i.size:=by simp only[cD,size_zeroCells,I,<-bn];congr 1;omega
   obtain⟨L,e1,e2,e3,Z,Y,X⟩:=EE h w.drew (kj.drew w) e _ (List.replicate n z).flatten (Builtin.zeroCells a.cells n).size (Builtin.zeroCells a.cells n++Builtin.zeroCells a.cells (grownCap w n 0 e-n)) (S _).uz K (by
    simp only[de]
    exact List.take_left' (by simp)) (by simp only[cD];omega)
   have C:=Iu (c:=c) (w:=w.drew.alloc (.cells (Builtin.zeroCells a.cells n++Builtin.zeroCells a.cells (grownCap w n 0 e-n)) e)) e1 e3 al.1 0 i.size n (grownCap w n 0 e) (by rw[Z,g]) J N;rw[e2]at C;exact⟨_,_,_,⟨rfl,rfl⟩,Y,C,X⟩
  .cases b
 .cases b
theorem amx(h:gE G c H w){al:Al}{x d:D}{δ:Dl}{u:Value}{ty:TypeId}(o:gh c w u x)(f:S2 x H=some (d,δ)):∃r w',(Instr.next u true ty).run P w = .ok r w'/\jm G c H w (KO H al d δ) r w':=by
 unfold S2 at f;split at f
 .rename_i v;split at f
  .rename_i s p a
   cases o with
   | ptr _ _ _ L m l=>
    have g:=h.ob v _ a;simp only[Ob.gen]at g;rw[m]at g;simp only[ia]at g;obtain⟨_,k,e⟩:=g;have q:=(aP.1 e).1;rw[k]
    by_cases j:p<s.size
    .rw[if_pos j]at f;cases f
     obtain⟨m1,m2⟩:=AQ h a rfl rfl (ob':=.sO s (p+(Utf8.decode s p).2)) rfl m l (.stringIter s (p+(Utf8.decode s p).2)) (λw' n _=>by simp only[ia];exact⟨l,k,n⟩)
     refine⟨.tuple #[.bool true,goInt p,.int .i32 (Utf8.decode s p).1],_,?_,_,_,c,⟨rfl,rfl⟩,m1,?_,m2⟩
     .simp[Instr.next,getObj,setObj,Sem.run,e,j]
     .refine .tup [.bool true,goInt p,.int .i32 (Utf8.decode s p).1] _ rfl λi v d a b=>?_
      match i,a,b with
      | 0,a,b=>cases a;cases b;exact .val _
      | 1,a,b=>cases a;cases b;exact .val _
      | 2,a,b=>cases a;cases b;exact .val _
    .rw[if_neg j]at f;cases f;refine⟨.tuple #[.bool false],w,?_,_,_,c,⟨rfl,rfl⟩,h,?_,Step.refl _ _ _ _⟩
     .simp[Instr.next,getObj,Sem.run,e,j]
     .refine .tup [.bool false] _ rfl λi v d a b=>?_
      match i,a,b with
      | 0,a,b=>cases a;cases b;exact .val _
  .cases f
 .cases f
theorem ami(h:gE G c H w){x d:D}{u:Value}(I:gh c w u x)(a:M4 x H=some d):∃r,(Instr.entry u).run P w = .ok r w/\gh c w r d:=by
 unfold M4 at a;split at a
 .rename_i v;split at a
  .rename_i m since seen b;split at a
   .rename_i kk es i J R;split at a
    .rename_i k d0 t;split at a
     .rename_i g;cases a;have y:=ue J;dsimp only at y
      cases I with
      | ptr _ _ _ L M T=>
       have p:=h.ob v _ b;simp only[Ob.gen]at p;rw[M]at p;simp only[ia]at p;obtain⟨_,E,V,B,n⟩:=p
       cases B with
       | gD _ X S W=>
        have o:=h.ob m _ y;simp only[Ob.gen]at o;rw[S]at o;simp only[ia]at o;obtain⟨_,C,arr,f,O,A,z,Q⟩:=o;have hi:i<arr.size:=by rw[A];exact(ae.1 t).1
        have N:arr[i]? = some arr[i]:=by simp[hi]
        obtain⟨q1,q2,q3⟩:=z i _ _ N t;have s:seen.toArray.back? = some i:=by simpa[Array.back?_eq_getElem?,List.getLast?_eq_getElem?]using R
        have q:arr.find? (λe=>e.born == i)=some arr[i]:=by
         rw[Array.find?_eq_some_iff_getElem];refine⟨by simp[q3],i,hi,rfl,λj U=>?_⟩;have F:j<es.length:=by rw[<-A];omega
         have:=(z j arr[j] es[j] (by simp) (by simp[F])).2.2;simp[this]
         try omega
        refine⟨.tuple #[k,arr[i].val],?_,?_⟩
        .rw[E];have K:f=since:=by rw[Q,g]
         subst K;simp only[aQ];simp only[Instr.entry,getObj,Sem.run_bind,Sem.run,n,Result.andThen_ok,s,O,q];simp[q1]
        .refine .tup [k,arr[i].val] _ rfl λj v d b l=>?_
         match j,b,l with
         | 0,b,l=>cases b;cases l;exact aar (C _ (List.mem_of_getElem? t))
         | 1,b,l=>cases b;cases l;exact q2
     .cases a
    .cases a
   .cases a
  .cases a
 .cases a
theorem amA(h:gE G c H w){al:Al}(n:nk H al){t:TypeId}{k e:TypeId}(o:P.underlying t=some (.map k e)){x d:D}{δ:Dl}{u:Value}(p:gh c w u x)(b:ID x H al.1=some (d,δ)) :
  ∃r w',(Instr.range t u).run P w = .ok r w'/\jm G c H w (KO H al d δ) r w':=by
 unfold ID at b;split at b
 .rename_i m;split at b
  .rename_i kk es q;cases b;have i:=ue q;dsimp only at i
   cases p with
   | gD _ g j v=>
    have f:=h.ob m _ i;simp only[Ob.gen]at f;rw[j]at f;simp only[ia]at f;obtain⟨_,_,arr,a,y,B,A,z⟩:=f
    obtain⟨k1,k2,k3⟩:=Ou h n (.mapIter (some g.b) a #[] a) (.jl (.gD m) es.length []) rfl rfl (λl s=>by
     simp only[ia];refine⟨trivial,trivial,g.b,l _ _ (.gD m g j v),?_⟩
     rw[<-z];exact s)
    exact⟨_,_,run_range_map w t k e g.b arr a o y,_,_,_,⟨rfl,rfl⟩,k1,k2,k3⟩
  .cases b
 .cases b
theorem WA{kv:Value}:∀ {l:List MapEntry} {i n:Nat} {v:Value},od kv l i=some (n,v)->i<=n
 | [],_,_,_,h=>by cases h
 | a::l,i,n,v,h=>by
  unfold od at h;split at h
  .cases h;exact Nat.le_refl _
  .have:=WA h;omega
theorem WB{kv:Value}:∀ {l:List MapEntry} {i j:Nat} {v:Value} {e:MapEntry},od kv l i=some (i+j,v)->l[j]? = some e->e.val=v
 | [],_,_,_,_,h,_=>by cases h
 | a::l,i,j,v,e,h,he=>by
  unfold od at h;split at h
  .simp only[aq,dC]at h;obtain⟨h1,rfl⟩:=h;have:j=0:=by omega
   subst this;cases he;rfl
  .cases j with
   | zero=>exact absurd (WA h) (by omega)
   | succ j=>exact WB (i:=i+1) (j:=j) (by rw[h];congr 2;omega) he
theorem Zt(kv:Value):∀(l:List MapEntry) (es:List (Value×D)) (i:Nat),l.length=es.length ->
  (∀(j:Nat) (e:MapEntry) (x:Value×D),l[j]? = some e->es[j]? = some x->e.key=x.1/\gh c w e.val x.2) ->
  (od kv l i=none/\yI kv es i=none)\/∃j v d,od kv l i=some (i+j,v)/\yI kv es i=some (i+j,d)/\gh c w v d
 | [],[],i,_,_=>.inl ⟨rfl,rfl⟩
 | e::l,(k,d)::es,i,hl,h=>by
  obtain⟨b,m⟩:=h 0 e (k,d) rfl rfl;dsimp only at b m
  by_cases a:nX kv e.key=true
  .exact .inr ⟨0,e.val,d,by simp[od,a],by simp[yI,<-b,a],m⟩
  .have g:nX kv k=false:=by rw[<-b];simpa using a
   rcases Zt kv l es (i+1) (by simpa using hl) (λj e x a n=>h (j+1) e x (by simpa using a) (by simpa using n))with⟨h1,f⟩|⟨j,v,d',h1,f,o⟩
   .exact .inl ⟨by simp[od,a,h1],by simp[yI,g,f]⟩
   .exact .inr ⟨j+1,v,d',by simp[od,a,h1];omega,by simp[yI,g,f];omega,o⟩
theorem amt(h:gE G c H w){al:Al}{t k e:TypeId}{kk:KK}{z:D}(hu:P.underlying t=some (.map k e))(V:uY P k=some kk)(F:Fe P e=some z){m x d:D}{δ:Dl}{u v:Value}(h1:gh c w u m)(h2:gh c w v x)
  (y:yH kk z m x H=some (d,δ)):∃r w',(Instr.mapEntry t u v).run P w = .ok r w'/\jm G c H w (KO H al d δ) r w':=by
 have RN:(kk = .str\/kk = .bool\/∃k,kk = .int k)\/∃l,kk = .ints l:=by
  obtain⟨d,_,hc⟩:=Pq V;rcases hc with⟨k,_,rfl⟩|⟨_,rfl⟩|⟨_,rfl⟩|⟨_,l,_,rfl,_⟩
  .exact .inl (.inr (.inr ⟨k,rfl⟩))
  .exact .inl (.inl rfl)
  .exact .inl (.inr (.inl rfl))
  .exact .inr ⟨l,rfl⟩
 obtain⟨C,vW,HQ⟩:∃C,(zeroValue e).run P w = .ok C w/\gh c w C z:=by
  unfold Fe at F
  cases hi:P.info? e with
  | none=>simp[hi]at F
  | some i=>
   simp only[hi,Option.bind_some]at F
   cases B8:i.zero with
   | none=>simp[B8]at F
   | some C=>
    simp only[B8,Option.bind_some]at F;exact⟨C,by simp[zeroValue,run_typeInfo hi,B8],To F⟩
 unfold yH at y;split at y
 .rename_i v0 kv G7;split at y
  .rename_i K es X;split at y
   .rename_i jx;obtain⟨rfl,J⟩:=jx;have o:=Sq h2 G7;subst o
    cases h1 with
    | gD _ L gp M=>
     have N:=h.ob v0 _ (ue X);simp only[Ob.gen]at N;rw[gp]at N;simp only[ia]at N;obtain⟨_,tP,arr,f,Z,g⟩:=N;have GX:=SL g tP;have BK:=run_findKey V J arr.toList GX w;have sA:=run_checkKey (w:=w) V false J;have pv:(getObj L.b).run P w = .ok (.map arr f) w:=by simp[getObj,Sem.run,Z]
     have G5:∀y',∀x∈mu es v y',K.has x.1=true:=λy' x n=>by
      rcases Zu x n with h|rfl
      .exact tP x h
      .exact J
     have W:∀(j:Nat) (e:MapEntry) (x:Value×D),arr.toList[j]? = some e->es[j]? = some x->e.key=x.1/\gh c w e.val x.2:=λj e x s n=>let ⟨a,b,_⟩:=g.2.1 j e x (by simpa using s) n;⟨a,b⟩
     have A:arr.toList.length=es.length:=by simpa using g.1
     rcases Zt (c:=c) (w:=w) v arr.toList es 0 A W with⟨O,g2⟩|⟨j0,Q,d0,O,g2,g3⟩
     .rw[g2]at y;cases y;rcases Gw (c:=c) (w:=w) v arr.toList es 0 A W with⟨f1,f2,f3⟩|⟨j,val,d,f1,f2,_⟩
      .have Y:(Instr.mapEntry t (.map (some L.b)) v).run P w = .ok (.tuple #[C,goInt f]) { w with heap:=w.heap.setIfInBounds L.b (.map (arr.push { key:=v,val:=C,born:=f }) (f+1)) }:=by simp only[Instr.mapEntry,Sem.run_bind,run_underlying hu,Result.andThen_ok,pv,sA,BK,f1,vW];simp[setObj,Sem.run,Z]
       obtain⟨m1,m2⟩:=AQ h (ue X) rfl rfl rfl gp M (.map (arr.push { key:=v,val:=C,born:=f }) (f+1)) (ob':=.map K (mu es v z)) (by
        intro w' U I;simp only[ia];refine⟨M,G5 z,_,_,U,?_⟩;rw[f3];refine⟨by simp[g.1],λi e x s n=>?_,by simp[g.2.2]⟩;rw[eJ]at s;split at s
        .rename_i hi;cases s;rw[ai (by rw[hi,g.1];exact Nat.le_refl _),hi,g.1]at n;simp at n;subst n;exact⟨rfl,I _ _ HQ,by rw[hi,g.1,g.2.2]⟩
        .have hi:i<es.length:=by rw[<-g.1];exact(aP.1 s).1
         rw[ah hi]at n;obtain⟨p,q,r⟩:=g.2.1 i e x s n
         exact⟨p,I _ _ q,r⟩)
       refine⟨_,_,Y,_,_,c,⟨rfl,rfl⟩,m1,.tup [C,goInt f] _ rfl (λi v d o B=>?_),m2⟩
       match i,o,B with
       | 0,o,B=>cases o;cases B;exact HQ.qb h.toHeapOK m2
       | 1,o,B=>cases o;cases B;rw[g.2.2];exact .val _
      .rw[O]at f1;cases f1
     .rw[g2]at y;cases y;rcases Gw (c:=c) (w:=w) v arr.toList es 0 A W with⟨f1,f2,f3⟩|⟨j,val,d,f1,f2,_,f4,f5,E,f6,f7⟩
      .rw[O]at f1;cases f1
      .have R:0+j0=0+j/\Q=val:=by rw[O]at f1;simp only[aq,dC]at f1;exact f1
       obtain⟨R,rfl⟩:=R;have R:j0=j:=by omega
       subst R;have nD:j0<arr.size:=by simpa using f4
       have T:arr[j0]? = some E:=by simpa using f6
       have Rz:K.has E.key=true:=GX E (List.mem_of_getElem? f6)
       have RY:(Instr.keyThatStays E.key v).run P w = .ok v w:=by simp[Instr.keyThatStays,aaN RN J Rz f7]
       have XP:j0<es.length:=by rw[<-g.1];exact nD
       have S:E.val=Q/\E.born=j0:=by refine⟨?_,(g.2.1 j0 E es[j0] T (by simp[XP])).2.2⟩;exact WB (kv:=v) (i:=0) f1 f6
       have Y:(Instr.mapEntry t (.map (some L.b)) v).run P w = .ok (.tuple #[Q,goInt (j0:Nat)]) { w with heap:=w.heap.setIfInBounds L.b (.map (arr.modify j0 λe=>{ e with key:=v }) f) }:=by simp only[Instr.mapEntry,Sem.run_bind,run_underlying hu,Result.andThen_ok,pv,sA,BK,f1,aQ,T,aH,aZ,RY,S.2];simp[setObj,Sem.run,Z]
       obtain⟨m1,m2⟩:=AQ h (ue X) rfl rfl rfl gp M (.map (arr.modify j0 λe=>{ e with key:=v }) f) (ob':=.map K (mu es v d0)) (by
        intro w' U I;simp only[ia];refine⟨M,G5 d0,_,_,U,?_⟩;rw[f5];refine⟨by simp[g.1],λi e x s n=>?_,by simp[g.2.2]⟩;rw[bg]at s;rw[bW]at n;split at s
        .rename_i hi;subst hi;rw[if_pos rfl,if_pos XP]at n;simp only[aj]at s;obtain⟨e0,h0,rfl⟩:=s;cases n;rw[T]at h0;cases h0;exact⟨rfl,I _ _ (by rw[S.1];exact g3),S.2⟩
        .rename_i hi;rw[if_neg hi]at n;obtain⟨p,q,r⟩:=g.2.1 i e x s n
         exact⟨p,I _ _ q,r⟩)
       refine⟨_,_,Y,_,_,c,⟨rfl,rfl⟩,m1,.tup [Q,goInt (j0:Nat)] _ rfl (λi v d o B=>?_),m2⟩
       match i,o,B with
       | 0,o,B=>cases o;cases B;exact g3.qb h.toHeapOK m2
       | 1,o,B=>cases o;cases B;rw[aQ];exact .val _
   .cases y
  .cases y
 .cases y
theorem amh(h:gE G c H w){al:Al}{t:TypeId}{m s x d:D}{δ:Dl}{u v k:Value}(h1:gh c w u m)(U:gh c w v s)(T:gh c w k x)
  (b:Ba m s x H=some (d,δ)):∃w',(Instr.entryStore t u v k).run P w = .ok () w'/\jm G c H w (KO H al d δ) undef w':=by
 unfold Ba at b;split at b
 .rename_i v0 n;split at b
  .rename_i kk es E;split at b
   .rename_i C W hg;split at b
    .rename_i S;cases b;cases U
     cases h1 with
     | gD _ L K F=>
      have o:=h.ob v0 _ (ue E);simp only[Ob.gen]at o;rw[K]at o;simp only[ia]at o;obtain⟨_,B,arr,a,J,g⟩:=o;have A:n.toNat<es.length:=(ae.1 hg).1;have M:n.toNat<arr.size:=by rw[g.1];exact A
      have z:arr.findIdx? (λe=>(e.born:Int) == n)=some n.toNat:=by
       rw[Array.findIdx?_eq_some_iff_getElem];refine⟨M,?_,λj Y=>?_⟩
       .have:=(g.2.1 n.toNat arr[n.toNat] es[n.toNat] (by simp[M]) (by simp[A])).2.2;rw[this];have e:((n.toNat:Nat):Int)=n:=b7 S;rw[e];simp
       .have Q:j<es.length:=by omega
        have:=(g.2.1 j arr[j] es[j] (by simp) (by simp[Q])).2.2;rw[this];simp;omega
      have O:(getObj L.b).run P w = .ok (.map arr a) w:=by simp[getObj,Sem.run,J]
      have X:(asInt (.int .i64 n)).run P w = .ok n w:=by simp[asInt,asIntOf]
      have R:(Instr.entryStore t (.map (some L.b)) (.int .i64 n) k).run P w = .ok () { w with heap:=w.heap.setIfInBounds L.b (.map (arr.modify n.toNat λe=>{ e with val:=k }) a) }:=by simp only[Instr.entryStore,Sem.run_bind,Result.andThen_ok,O,X,z];simp[setObj,Sem.run,J]
      obtain⟨m1,m2⟩:=AQ h (ue E) rfl rfl rfl K F (.map (arr.modify n.toNat λe=>{ e with val:=k }) a) (ob':=.map kk (es.set n.toNat (C,x))) (by
       intro w' N I;simp only[ia];refine⟨F,λy f=>?_,_,_,N,?_⟩
       .rcases dH f with f|rfl
        .exact B y f
        .exact B (C,W) (List.mem_of_getElem? hg)
       refine⟨by simp[g.1],λi e y l f=>?_,by simp[g.2.2]⟩;rw[bg]at l;rw[bW]at f;split at l
       .rename_i hi;subst hi;rw[if_pos rfl,if_pos A]at f;cases f;simp only[aj]at l;obtain⟨V,h0,rfl⟩:=l;obtain⟨p,q,r⟩:=g.2.1 _ V _ h0 hg;exact⟨p,I _ _ T,r⟩
       .rename_i hi;rw[if_neg hi]at f;obtain⟨p,q,r⟩:=g.2.1 i e y l f
        exact⟨p,I _ _ q,r⟩)
      exact⟨_,R,_,_,c,⟨rfl,rfl⟩,m1,.any _,m2⟩
    .cases b
   .cases b
  .cases b
 .cases b
theorem an9(h:gE G c H w)(l:kT c w env a){al:Al}(L:nk H al){o:Oper}{R:iL}(b:sX P G o=some R){d:D}{δ:Dl}(g:mz env H al.1 R=some (d,δ)) :
  ∃v w',Dj ((execOp a.eval o).run P w) v w'/\jm G c H w (KO H al d δ) v w':=by
 have plain:∀ {v:Value} {d:D},gh c w v d->jm G c H w (KO H al d .no) v w:=λq=>⟨_,_,c,⟨rfl,rfl⟩,h,q,Step.refl _ _ _ _⟩;unfold sX at b;split at b
 .rename_i t x y ty f;split at b
  .rename_i n;simp only[aj]at b;obtain⟨X,hX,rfl⟩:=b
   have M:y = .const (.slice none 0 0):=by
    have:=n.2;unfold MP at this;split at this
    .rfl
    .cases this
   subst M;obtain⟨C,rfl⟩:=mr g;obtain⟨r,h1,j⟩:=ZZ h n.1 (iM h l hX) C x (.const (.slice none 0 0));exact⟨r,w,by simp only[execOp,f];exact jI h1,plain j⟩
  .cases b
 .rename_i t x y ty f;split at b
  .rename_i n;simp only[aj]at b;obtain⟨X,hX,rfl⟩:=b
   have M:y = .const (.slice none 0 0):=by
    have:=n.2;unfold MP at this;split at this
    .rfl
    .cases this
   subst M;obtain⟨C,rfl⟩:=mr g;obtain⟨r,h1,j⟩:=ZZ h n.1 (iM h l hX) C x (.const (.slice none 0 0));exact⟨r,w,by simp only[execOp,f];exact jI h1,plain j⟩
  .cases b
 .rename_i t x f;split at b
  .rename_i X p hX;cases b;simp only[mz]at g;split at g
   .rename_i s hs;cases g;have q:=iM h l hX;rw[hs]at q;generalize Q:a.eval x=u at q;cases q;obtain⟨k1,k2,k3⟩:=Ou h L (.stringIter s 0) (.sO s 0) rfl rfl (λ_ U=>by simp only[ia];exact⟨trivial,trivial,U⟩);refine⟨_,_,by simp only[execOp,f,Q];exact jI (v:=.pointer (some ⟨w.heap.size,0,none⟩)) (w':=w.alloc (.stringIter s 0)) (by simp[Instr.range,run_underlying p]),_,_,_,⟨rfl,rfl⟩,k1,k2,k3⟩
   .cases g
  .rename_i k e X p hX;cases b;obtain⟨r,w',h1,j⟩:=amA (P:=P) h L p (iM h l hX) g;exact⟨r,w',by simp only[execOp,f];exact jI h1,j⟩
  .cases b
 .rename_i x f;simp only[aj]at b;obtain⟨X,hX,rfl⟩:=b;obtain⟨r,w',h1,j⟩:=amx (P:=P) (ty:=o.type) h (iM h l hX) g;exact⟨r,w',by simp only[execOp,f];exact jI h1,j⟩
 .simp only[aj]at b;obtain⟨X,hX,rfl⟩:=b;cases g
 .rename_i x f;simp only[aj]at b;obtain⟨X,hX,rfl⟩:=b;obtain⟨C,rfl⟩:=mr g;obtain⟨r,h1,j⟩:=ami (P:=P) h (iM h l hX) C;exact⟨r,w,by simp only[execOp,f];exact jI h1,plain j⟩
 .rename_i cl f;split at b
  .rename_i t x F E B;split at b
   .rename_i O;simp only[aj]at b;obtain⟨X,hX,rfl⟩:=b;have A:cl.argTypes = #[t]:=by rw[<-bP (xs:=cl.argTypes),E]
    have K:cl.args = #[x]:=by rw[<-bP (xs:=cl.args),B]
    have q:=iM h l hX;simp only[mz]at g;split at g
    .rename_i S;cases g;rw[S]at q;generalize Q:a.eval x=u at q;cases q
     have W:∃e,P.underlying t=some (.slice e):=by
      unfold EZ at O;split at O
      .exact⟨_,by assumption⟩
      .cases O
     obtain⟨e,p⟩:=W;refine⟨.int .i64 0,w,by rw[xx f F,A,K];exact jI (by simp[Q,Builtin.cap_,run_underlying p,goInt]),plain (.val _)⟩
    .cases g
   .cases b
  .rename_i t x F E B;have A:cl.argTypes = #[t]:=by rw[<-bP (xs:=cl.argTypes),E]
   have K:cl.args = #[x]:=by rw[<-bP (xs:=cl.args),B]
   split at b
   .rename_i e p;split at b
    .rename_i z i X I hi hX;split at b
     .rename_i n;cases b;obtain⟨w',h1,j⟩:=ame (P:=P) (al:=al) (ty:=o.type) h p hi I n.1 n.2 (iM h l hX) g;exact⟨_,w',by rw[xx f F,A,K];exact jI (by simpa using h1),j⟩
     .cases b
    .cases b
   .cases b
  .rename_i t u x y F E B;have A:cl.argTypes = #[t,u]:=by rw[<-bP (xs:=cl.argTypes),E]
   have K:cl.args = #[x,y]:=by rw[<-bP (xs:=cl.args),B]
   split at b
   .rename_i e p N;split at b
    .rename_i z i X Y I hi hX J;split at b
     .rename_i n;cases b;obtain⟨r,w',h1,j⟩:=al6 (P:=P) (ty:=o.type) h L p N hi I n.1 n.2 (iM h l hX) (iM h l J) g;exact⟨r,w',by rw[xx f F,A,K];exact jI (by simpa using h1),j⟩
     .cases b
    .cases b
   .cases b
  .cases b
 .rename_i t m k f;split at b
  .rename_i kt e p;split at b
   .rename_i kk z X Y T I hX J;cases b;obtain⟨r,w',h1,j⟩:=amt (P:=P) (al:=al) h p T I (iM h l hX) (iM h l J) g;exact⟨r,w',by simp only[execOp,f];exact jI h1,j⟩
   .cases b
  .cases b
 .rename_i t m s x f;split at b
  .rename_i X Y Z hX J V;cases b;obtain⟨w',h1,j⟩:=amh (P:=P) (al:=al) (t:=t) h (iM h l hX) (iM h l J) (iM h l V) g;exact⟨_,w',by simp only[execOp,f];exact Jg h1,j⟩
  .cases b
 .cases b
end
end Go.AL
namespace Go.AL
open Go
abbrev FW(ro:Option Nat):Fence:={ Fence.wide with round:=ro }
theorem F7{a:Option Nat}{n:Nat}{P:Program}{f:FuncId}{args:Array Value}{w:World}{R:Ending->World->Prop}:CallsIn (FW a) n P f args w R↔Calls P f args w R:=
 callsIn_wide (n:=n)
inductive sq(c:Ctx):List Nat->List Deferred->Prop
 | nil:sq c [] []
 | cons {v:Nat} {vs:List Nat} {ds:List Deferred} (L:Loc) (h1:c.ι v 0=some L) (h2:L.jO=false) (h:sq c vs ds):sq c (v::vs) ({ target:=.collected L.b,args:=#[] }::ds)
theorem sq.mono{c c':Ctx}(d:∀v L,c.ι v 0=some L->c'.ι v 0=some L){vs:List Nat}{ds:List Deferred}(h:sq c vs ds):sq c' vs ds:=by
 induction h with
 | nil=>exact .nil
 | cons L h1 b _ a=>exact .cons L (d _ _ h1) b a
structure lq(G:GT)(N:Nat)(c:Ctx)(w:World)(s:St)(a:Act):Prop where
 gf:gE G c s.H w
 env:kT c w s.env.get a
 size:N<=a.tmps.size
 marks:sq c s.marks a.defers
def tD(N:Nat):Option Tmp->Bool
 | some d=>decide (d<N)
 | none=>true
def PY(P:Program)(G:GT)(o:Oper):Option iL:=match nN P G o with
 | some op=>some op
 | none=>sX P G o
def wQ(P:Program)(G:GT)(N:Nat)(ops:Array Oper)(o:Oper):Option ic:=
 match PY P G o with
 | none=>none
 | some op=>if tD N o.dst=true then(match o.guard with
   | none=>some ⟨o.dst,op,none⟩
   | some (j,want)=>match (ops[j]?).bind (·.dst)with
    | some t=>some ⟨o.dst,op,some (t,want)⟩
    | none=>none)else none
def pM(P:Program)(G:GT)(N:Nat)(ops:Array Oper):List Oper->Option (List ic)
 | []=>some []
 | o::r=>match wQ P G N ops o,pM P G N ops r with
  | some e,some l=>some (e::l)
  | _,_=>none
section
variable{P:Program}{G:GT}{c:Ctx}{w:World}{env:gP}{a:Act}{N:Nat}
theorem am2{env:Env}{a:Act}{c:Ctx}{w:World}(b:kT c w env.get a)(hN:N<=a.tmps.size){dst:Option Tmp}(f:tD N dst=true){v:Value}{d:D}(h:gh c w v d) :
  kT c w (put env dst d).get (a.put dst v):=by
 cases dst with
 | none=>exact b
 | some t=>
  have g:t<a.tmps.size:=aO (by simpa[tD]using f) hN;intro k;simp only[put,Env.wW,Act.put];split
  .simp_all
  .rename_i e;have:(a.tmps.setIfInBounds t v).getD k undef=a.tmps.getD k undef:=by simp_all
   rw[this];exact b k
theorem aai{a:Act}{dst:Option Tmp}{v:Value}:(a.put dst v).tmps.size=a.tmps.size:=by cases dst<;>simp[Act.put]
theorem put_defers{a:Act}{dst:Option Tmp}{v:Value}:(a.put dst v).defers=a.defers:=by cases dst<;>rfl
theorem kT.carry{c c':Ctx}{w w':World}(h:∀v d,gh c w v d->gh c' w' v d)(b:kT c w env a):kT c' w' env a:=λk=>h _ _ (b k)
theorem lq.next{c':Ctx}{w':World}{H':U}{s:St}(hs:lq G N c w s a)(gf:gE G c' H' w')(e:Step s.H.length c s.H w c' H' w'){dst:Option Tmp}(g:tD N dst=true)
  {v:Value} {d:D} (f:gh c' w' v d):lq G N c' w' { s with env:=put s.env dst d,H:=H' } (a.put dst v) where
 gf:=gf
 env:=am2 (hs.env.carry λ_ _ h=>h.qb hs.gf.toHeapOK e) hs.size g f
 size:=by rw[aai];exact hs.size
 marks:=by
  rw[put_defers];refine hs.marks.mono λv L h=>e.old v 0 L ?_ h;rcases bH v s.H.length with b|b
  .exact b
  .rw[hs.gf.out v 0 b]at h;cases h
theorem u9(p:kT c w env a){ops:Array Oper}{o:Oper}{g:Option (Nat×Bool)}(hg:match o.guard with
   | none=>g=none
   | some (j,d)=>∃t,(ops[j]?).bind (·.dst)=some t/\g=some (t,d)) {b:Bool} (h:guardOf env g=some b):Region.wanted o (yielded ops a.tmps)=b:=by
 unfold Region.wanted;split at hg
 .rename_i l;subst hg;simp only[guardOf,aq]at h;simp[l,h]
 .rename_i j d l;obtain⟨t,n,rfl⟩:=hg;simp only[guardOf]at h;split at h
  .rename_i x m;cases h;have f:=p t;rw[m]at f;generalize e:a.tmps.getD t undef=v at f;cases f
   have i:a.tmps[t]? = some (.bool x):=by
    rw[cT]at e
    cases k:a.tmps[t]? with
    | none=>rw[k]at e;simp[undef]at e
    | some q=>rw[k]at e;simpa using e
   simp only[l,yielded,n,Option.bind_some,i];cases x<;>cases d<;>rfl
  .rename_i vs m;cases h;have f:=p t;rw[m]at f;generalize e:a.tmps.getD t undef=v at f;cases f
   have i:a.tmps[t]? = some (.tuple vs)\/a.tmps[t]? = none:=by
    rw[cT]at e
    cases k:a.tmps[t]? with
    | none=>exact .inr rfl
    | some q=>rw[k]at e;exact .inl (by simpa using e)
   rcases i with i|i<;>simp only[l,yielded,n,Option.bind_some,i]<;>cases d<;>rfl
  .cases h
theorem Vu{o:Oper}{op:iL}(h:PY P G o=some op):nN P G o=some op\/sX P G o=some op:=by
 unfold PY at h;split at h
 .grind
 .exact .inr h
theorem Vr{o:Oper}{a:iL}(b:nN P G o=some a\/sX P G o=some a){f:gP}{H:U}{n:Nat}{r:D×Dl}(h:gN f H n a=some r):nN P G o=some a:=by refine b.resolve_right λc=>?_;rw[aol (PZ c)]at h;cases h
theorem Gc{o:Oper}{a:iL}(b:nN P G o=some a\/sX P G o=some a){f:gP}{r:FuncId×List D}(h:kK f a=some r):nN P G o=some a:=by refine b.resolve_right λc=>?_;rw[aom (PZ c)]at h;cases h
theorem zx{ops:Array Oper}{o:Oper}{e:ic}(h:wQ P G N ops o=some e) :
  (nN P G o=some e.op\/sX P G o=some e.op)/\e.dst=o.dst/\(tD N o.dst=true)/\(match o.guard with
   | none=>e.guard=none
   | some (j,a)=>∃t,(ops[j]?).bind (·.dst)=some t/\e.guard=some (t,a)):=by
 unfold wQ at h;split at h
 .cases h
 .rename_i op b;split at h
  .rename_i c;split at h
   .rename_i hg;cases h;exact⟨Vu b,rfl,c,by simp[hg]⟩
   .rename_i j a hg;split at h
    .rename_i t d;cases h;exact⟨Vu b,rfl,c,t,d,rfl⟩
    .cases h
  .cases h
theorem Ck{o:Oper}{a:iL}(h:nN P G o=some a):∀c,o.op≠.defer c:=by intro c b;simp[nN,b]at h
theorem ZK{o:Oper}{a:iL}(h:sX P G o=some a):∀c,o.op≠.defer c:=by intro c b;simp[sX,b]at h
theorem aoQ{e:Option Nat}{n:Nat}{o:Oper}{s:St}{f:iL}{d:D}{δ:Dl}{next:Act->World->Prop}{Q:Exit->Act->World->Prop}(hs:lq G N c w s a)(i:sX P G o=some f)
  (q:tD N o.dst=true) {al:Al} (m:nk s.H al) (h:mz s.env.get s.H al.1 f=some (d,δ))
  (k:∀c' w' l,lq G N c' w' { s with env:=put s.env o.dst d,H:=δ.app s.H al } l->Step s.H.length c s.H w c' (δ.app s.H al) w'->next l w'):o.wpIn (FW e) n P a w next Q:=by
 obtain⟨v,w',b,d',H',c',⟨rfl,rfl⟩,gf,p,j⟩:=an9 (P:=P) hs.gf hs.env m i h;refine⟨λ_ _=>trivial,?_⟩;rw[Oper.semAt_plain (FW e) a.eval o (ZK i)];have g:=k c' w' (a.put o.dst v) (hs.next gf j q p) j;rcases b with b|⟨b,rfl⟩
 .rw[b];exact g
 .rw[b];exact g
theorem aoN{ro:Option Nat}{n:Nat}{o:Oper}{s:St}{x:X}{next:Act->World->Prop}{Q:Exit->Act->World->Prop}(hs:lq G N c w s a)(q:sX P G o=some (.nextM x))
  (g:tD N o.dst=true) {v m since:Nat} {seen:List Nat} {kk:KK} {es:List (Value×D)} (hx:ev s.env.get x = .ptr v 0 0) (f:s.H[v]? = some (.jl (.gD m) since seen)) (hm:s.H[m]? = some (.map kk es)) (nH:es.length=since)
  (k0:(∀i,i<es.length->i∈seen)->∀c' w' B,lq G N c' w' { s with env:=put s.env o.dst (.tup [.b false]) } B->Step s.H.length c s.H w c' s.H w'->next B w')
  (k1:∀i k d,es[i]? = some (k,d)->i ∉ seen->∀c' w' B,lq G N c' w' { s with env:=put s.env o.dst (.tup [.b true,sJ k,d]),H:=s.H.set v (.jl (.gD m) since (seen ++ [i])) } B ->
   Step s.H.length c s.H w c' (s.H.set v (.jl (.gD m) since (seen ++ [i]))) w'->next B w'):o.wpIn (FW ro) n P a w next Q:=by
 have iG:∃y,o.op = .next y false/\cX G y=some x:=by
  unfold sX at q
  repeat' split at q
  all_goals first|(cases q;done)|(simp only[aj]at q;obtain⟨_,_,R⟩:=q;cases R;done)|skip
  simp only[aj]at q;obtain⟨X,hX,R⟩:=q;cases R;exact⟨_,by assumption,hX⟩
 obtain⟨y,ho,hX⟩:=iG;have O:=iM hs.gf hs.env hX;rw[hx]at O;generalize hu:a.eval y=u at O
 cases O with
 | ptr _ _ _ L gp iu=>
  have I:=hs.gf.ob v _ f;simp only[Ob.gen]at I;rw[gp]at I;simp only[ia]at I;obtain⟨_,J,bm,tU,r⟩:=I
  cases tU with
  | gD _ p B9 N4=>
   have E:=hs.gf.ob m _ hm;simp only[Ob.gen]at E;rw[B9]at E;simp only[ia]at E;obtain⟨_,tP,arr,b,Hl,iA,K,G2⟩:=E;have qg:b=since:=by rw[G2,nH]
   subst qg;refine⟨λ_ _=>trivial,?_⟩;rw[Oper.semAt_plain (FW ro) a.eval o (ZK q)]
   have Y:∀e∈arr.toList,e.born<b:=by
    intro e t;obtain⟨i,hi⟩:=aC.1 t;have C:i<es.length:=by rw[<-iA];have:=(ae.1 hi).1;simpa using this
    have:=(K i e es[i] (by simpa using hi) (by simp[C])).2.2;omega
   have Yo:=next_test_false seen.toArray arr b b Y (Nat.le_refl _)
   have z:(leftOf arr seen.toArray).filter (λe=>decide (e.born<b))=leftOf arr seen.toArray:=by apply Array.filter_eq_self.2;intro e t;simp only[decide_eq_true_eq];exact Y e (by simpa using (et.1 t).1)
   have mV:(leftOf arr seen.toArray).filter (λe=>decide (e.born>=b)) = #[]:=by apply Array.filter_eq_empty_iff.2;intro e t;have:=Y e (by simpa using (et.1 t).1);simp;omega
   have XI:∀w1:World,w1.heap=w.heap->(getObj L.b).run P w1 = .ok (.mapIter (some p.b) b seen.toArray b) w1:=λw1 h1=>by simp[getObj,Sem.run,h1,r]
   have XJ:∀w1:World,w1.heap=w.heap->(getObj p.b).run P w1 = .ok (.map arr b) w1:=λw1 h1=>by simp[getObj,Sem.run,h1,Hl]
   have pW:∀e,e∈(leftOf arr seen.toArray).toList->∃i k d,es[i]? = some (k,d)/\i ∉ seen/\e.key=k/\gh c w e.val d/\e.born=i:=by
    intro e t
    have w6:e∈arr/\(!seen.toArray.contains e.born)=true:=by have:=et.1 (show e∈leftOf arr seen.toArray by simpa using t);exact this
    obtain⟨i,hi⟩:=aC.1 (show e∈arr.toList by simpa using w6.1);have C:i<es.length:=by rw[<-iA];have:=(ae.1 hi).1;simpa using this
    obtain⟨q1,q2,q3⟩:=K i e es[i] (by simpa using hi) (by simp[C]);refine⟨i,es[i].1,es[i].2,by simp[C],?_,q1,q2,q3⟩;have:=w6.2;rw[q3]at this;simpa using this
   by_cases F:(leftOf arr seen.toArray) = #[]
   .have M:(execOp a.eval o).run P w = .ok (.value (.tuple #[.bool false])) w:=by
     have A:(Instr.next (.pointer (some ⟨L.b,0,none⟩)) false o.type).run P w = .ok (.tuple #[.bool false]) w:=by have Z:(arr.filter λe => !(seen.toArray).contains e.born) = #[]:=F;simp only[Instr.next,Sem.run_bind,XI w rfl,Result.andThen_ok,XJ w rfl,Yo,bC,if_false,Sem.run_pure,Z];simp[choose,Sem.run,Question.forced]
     simp only[execOp,ho,hu];rw[J];simp[A]
    rw[M];refine k0 (λi hi=>?_) c w _ (hs.next hs.gf (Step.refl _ _ _ _) g (.tup [.bool false] _ rfl λj v d f g=>?_)) (Step.refl _ _ _ _)
    .by_cases gH:i∈seen
     .exact gH
     .exfalso;have BQ:i<arr.size:=by omega
      have W:=(K i arr[i] es[i] (by simp[BQ]) (by simp[hi])).2.2
      have:arr[i]∈leftOf arr seen.toArray:=by refine et.2 ⟨Array.getElem_mem _,?_⟩;rw[W];simpa using gH
      rw[F]at this;simp at this
    .match j,f,g with
     | 0,f,g=>cases f;cases g;exact .val _
   .have ie:(leftOf arr seen.toArray).isEmpty=false:=by
     cases hq:(leftOf arr seen.toArray).isEmpty with
     | false=>rfl
     | true=>exact absurd (Array.isEmpty_iff.1 hq) F
    have ke:0<(leftOf arr seen.toArray).size:=by
     rcases dM (leftOf arr seen.toArray).size with h|h
     .exact absurd (Array.eq_empty_of_size_eq_zero h) F
     .exact h
    have Rj:∃(i:Nat) (w1:World),i<(leftOf arr seen.toArray).size/\kj w w1/\w1.heap=w.heap/\(choose (.mapNext (leftOf arr seen.toArray).size)).run P w = .ok i w1:=by
     by_cases hf:(Question.mapNext (leftOf arr seen.toArray).size).forced=true
     .exact⟨0,w,ke,kj.refl w,rfl,by simp[choose,Sem.run,hf]⟩
     .exact⟨w.tape w.drawn (.mapNext (leftOf arr seen.toArray).size) % (leftOf arr seen.toArray).size,{ w with drawn:=w.drawn+1 },Nat.mod_lt _ ke,kj.drew w,rfl,by simp[choose,Sem.run,hf,Question.cut]⟩
    obtain⟨i,w1,hi,XK,U,V⟩:=Rj;obtain⟨l,k,d,h1,A,h3,h4,h5⟩:=pW (leftOf arr seen.toArray)[i] (by simp);have yq:=hs.gf.pQ XK
    obtain⟨m1,m2⟩:=AQ yq f rfl rfl (ob':=.jl (.gD m) b (seen ++ [l])) rfl gp iu (.mapIter (some p.b) b (seen ++ [l]).toArray b) (λw' rl tT=>by
     simp only[ia]
     exact⟨iu,J,p.b,.gD m p B9 N4,rl⟩)
    have T:Step s.H.length c s.H w c (s.H.set v (.jl (.gD m) b (seen ++ [l]))) { w1 with heap:=w1.heap.setIfInBounds L.b (.mapIter (some p.b) b (seen ++ [l]).toArray b) }:=(CR _ XK).trans m2 (Nat.le_refl _)
    have M:(execOp a.eval o).run P w = .ok (.value (.tuple #[.bool true,k,(leftOf arr seen.toArray)[i].val])) { w1 with heap:=w1.heap.setIfInBounds L.b (.mapIter (some p.b) b (seen ++ [l]).toArray b) }:=by
     have nG:(setObj L.b (.mapIter (some p.b) b (seen ++ [l]).toArray b)).run P w1 = .ok () { w1 with heap:=w1.heap.setIfInBounds L.b (.mapIter (some p.b) b (seen ++ [l]).toArray b) }:=by simp[setObj,Sem.run,U,r]
     have A:(Instr.next (.pointer (some ⟨L.b,0,none⟩)) false o.type).run P w = .ok (.tuple #[.bool true,k,(leftOf arr seen.toArray)[i].val]) { w1 with heap:=w1.heap.setIfInBounds L.b (.mapIter (some p.b) b (seen ++ [l]).toArray b) }:=by
      have Z:(arr.filter λe => !(seen.toArray).contains e.born)=leftOf arr seen.toArray:=rfl;have jk:((if (leftOf arr seen.toArray).isEmpty then #[none]else #[])++(leftOf arr seen.toArray ++ #[]).map some)=(leftOf arr seen.toArray).map some:=by simp[ie]
      simp only[Instr.next,Sem.run_bind,XI w rfl,Result.andThen_ok,XJ w rfl,Yo,bC,if_false,Sem.run_pure,Z,z,mV,jk,Array.size_map,V];have S:((leftOf arr seen.toArray).map some)[i]? = some (some (leftOf arr seen.toArray)[i]):=by simp[hi]
      simp only[S,Sem.run_bind];rw[h5,show seen.toArray.push l=(seen ++ [l]).toArray by simp,nG];simp[h3]
     simp only[execOp,ho,hu];rw[J];simp[A]
    rw[M];refine k1 l k d h1 A c _ _ (hs.next m1 T g (.tup [.bool true,k,(leftOf arr seen.toArray)[i].val] _ rfl λj v d f g=>?_)) T
    match j,f,g with
    | 0,f,g=>cases f;cases g;exact .val _
    | 1,f,g=>cases f;cases g;exact aar (tP _ (List.mem_of_getElem? h1))
    | 2,f,g=>cases f;cases g;exact h4.qb hs.gf.toHeapOK T
theorem aoO{e:Option Nat}{n:Nat}{o:Oper}{s:St}{f:iL}{d:D}{δ:Dl}{next:Act->World->Prop}{Q:Exit->Act->World->Prop}(hs:lq G N c w s a)(i:nN P G o=some f)
  (q:tD N o.dst=true) {al:Al} (m:nk s.H al) (h:gN s.env.get s.H al.1 f=some (d,δ))
  (k:∀c' w' l,lq G N c' w' { s with env:=put s.env o.dst d,H:=δ.app s.H al } l->Step s.H.length c s.H w c' (δ.app s.H al) w'->next l w'):o.wpIn (FW e) n P a w next Q:=by
 obtain⟨v,w',b,d',H',c',⟨rfl,rfl⟩,gf,p,j⟩:=aaf (P:=P) (K:=λd' H'=>d'=d/\H'=δ.app s.H al) hs.gf hs.env m i (UR h ⟨rfl,rfl⟩);refine⟨λ_ _=>trivial,?_⟩;rw[Oper.semAt_plain (FW e) a.eval o (Ck i)];have g:=k c' w' (a.put o.dst v) (hs.next gf j q p) j;rcases b with b|⟨b,rfl⟩
 .rw[b];exact g
 .rw[b];exact g
end
end Go.AL
namespace Go.AL
open Go
section
variable{P:Program}{G:GT}{c:Ctx}{w:World}{env:gP}{a:Act}{N:Nat}
theorem Vv{o:Oper}{b:iL}(a:nN P G o=some b)(h:HW b=true):∃cl,o.op = .call cl:=by
 unfold nN at a;split at a
 all_goals first|exact⟨_,by assumption⟩|skip
 all_goals exfalso
 all_goals try simp only[aA,ag,aD]at a
 all_goals (repeat' first|(obtain⟨_,_,a⟩:=a)|split at a|simp only[ag]at a)
 all_goals first|(simp[HW]at h;done)|(cases a<;>simp[HW]at h)
theorem O0{H:U}(gf:gE G c H w)(t:kT c w env a){o:Oper}{l:iL}(b:nN P G o=some l){f:FuncId}{args:List D}(d:kK env l=some (f,args))(r:s5 P f=true) :
  ∃vs:List Value,(execOp a.eval o).run P w = .ok (.enter f vs.toArray) w/\jC c w vs args:=by
 have J:=b;unfold nN at b
 cases j:o.op with
 | call cl=>
  simp only[j,aA,ag]at b;obtain⟨xs,A,b⟩:=b;have s:=A1 gf t cl.args.toList A;split at b
  .rename_i g BI;split at b
   .have q:g=f/\List.map (ev env) xs=args:=by
     cases b;have C:kK env (if G.nw g=true then iL.callN g xs else iL.call g xs)=some (g,xs.map (ev env)):=by split<;>rfl
     rw[C]at d;simpa using d
    obtain⟨rfl,rfl⟩:=q;refine⟨_,?_,s⟩;have e:cl.args.map a.eval=(cl.args.toList.map a.eval).toArray:=by cases cl.args;simp
    simp only[execOp,j,resolve,BI,Act.eval,Deferred.ofValue,Sem.run_bind,Sem.run_pure,Result.andThen_ok,invoke];rw[<-e];have h:=O1 (P:=P) r (cl.args.map a.eval) w;simpa using h
   .cases b
  .rename_i x K BI;simp only[ag,aD,aq]at b;obtain⟨X,hX,rfl⟩:=b;simp only[kK]at d;split at d
   .rename_i k first cap rk
    cases d;have m:=iM gf t hX;rw[rk]at m;generalize B:a.eval x=v at m
    cases m with
    | fn _ fs cs _ _ I p F E=>
     refine⟨fs++cl.args.toList.map a.eval++cs,?_,((jC.Iq I F).append s).append (jC.Iq p E)⟩;simp only[execOp,j,resolve,BI,B,Deferred.ofValue,Sem.run_bind,Sem.run_pure,Result.andThen_ok,invoke];have h:=O1 (P:=P) r (fs.toArray++cl.args.map a.eval++cs.toArray) w;have p:fs.toArray++cl.args.map a.eval++cs.toArray=(fs++cl.args.toList.map a.eval++cs).toArray:=by cases cl.args;simp
     rw[p]at h ⊢;exact h
   .cases d
  .split at b
   .simp only[ag]at b;obtain⟨y,_,b⟩:=b;split at b
    .simp only[ag]at b;obtain⟨i,_,z,_,u,_,b⟩:=b;split at b
     .split at b
      .cases b;cases d
      .cases b
     .cases b
    .cases b
   .cases b
  .split at b
   .simp only[ag]at b;obtain⟨y,_,b⟩:=b;split at b
    .simp only[ag]at b;obtain⟨u,_,b⟩:=b;split at b
     .simp only[ag]at b;obtain⟨n,_,b⟩:=b;split at b
      .cases b;cases d
      .cases b
     .cases b
    .cases b
   .cases b
  .split at b
   .split at b
    .cases b;cases d
    .cases b;cases d
    .cases b;cases d
    .cases b
   .cases b
  .cases b;cases d
  .cases b;cases d
  .cases b
 | _=>
  have h1:HW l=true:=by unfold kK at d;unfold HW;split at d<;>first|rfl|cases d
  obtain⟨cl,h⟩:=Vv J h1;rw[j]at h;cases h
end
end Go.AL
namespace Go.AL
open Go
abbrev Fp:=Nat×Option (Nat×Nat)
def nJ:D->List Fp
 | .fY v _ _ _ _=>[(v,none)]
 | .gD v=>[(v,none)]
 | _=>[]
def vh(n:Nat):D->List Fp
 | .ptr v _ o=>[(v,some (o,n))]
 | _=>[]
def gT(f:gP)(H:U):iL->List Fp
 | .ld1 x=>vh 1 (ev f x)
 | .ldN n x=>vh n (ev f x)
 | .st1 a _=>vh 1 (ev f a)
 | .stN n a _=>vh n (ev f a)
 | .lookup _ _ _ m _=>nJ (ev f m)
 | .mapUpd _ m _ _=>nJ (ev f m)
 | .len .map x=>nJ (ev f x)
 | .b2s x=>nJ (ev f x)
 | .slcArr sz n x _ _=>vh (n*sz) (ev f x)
 | .app _ _ _ x y=>nJ (ev f x)++nJ (ev f y)
 | .copy _ x y=>nJ (ev f x)++nJ (ev f y)
 | .call g args=>((args.map (ev f)).map (iC H 40)).flatten.map λv=>(v,none)
 | .callN g args=>((args.map (ev f)).map (iC H 40)).flatten.map λv=>(v,none)
 | .callv g args=>match kK f (.callv g args)with
  | some (_,ds)=>(ds.map (iC H 40)).flatten.map λv=>(v,none)
  | none=>[]
 | _=>[]
def jV(n:Nat):Dl->List Fp
 | .no=>[]
 | .cells v o xs=>[(v,some (o,xs.length))]
 | .obj v _=>[(v,none)]
 | .new _=>[(n,none)]
def uG:Fp->Fp->Bool
 | (v,none),(u,_)=>v != u
 | (v,some _),(u,none)=>v != u
 | (v,some (o,n)),(u,some (p,m))=>v != u||decide (o+n<=p)||decide (p+m<=o)
def uH(a b:List Fp):Bool:=a.all λx=>b.all λy=>uG x y
def Alike(x:Fp)(H1 H2:U):Prop:=
 match x with
 | (v,none)=>H1[v]? = H2[v]?
 | (v,some (o,n))=>H1[v]? = H2[v]?\/∃t g cs ds,H1[v]? = some (.row t g cs)/\H2[v]? = some (.row t g ds)/\cs.length=ds.length/\∀i,o<=i->i<o+n->cs[i]? = ds[i]?
def uA(l:List Fp)(H1 H2:U):Prop:=∀x∈l,Alike x H1 H2
def iJ:X->List Nat
 | .t k=>[k]
 | .c _=>[]
def xC(l:List X):List Nat:=(l.map iJ).flatten
def xB:Option X->List Nat
 | some x=>iJ x
 | none=>[]
def ik:iL->List Nat
 | .mv x=>iJ x
 | .pick c a b=>iJ c++iJ a++iJ b
 | .box _ x=>iJ x
 | .alloc _ _=>[]
 | .build _ ps=>(ps.map λp=>iJ p.2.2).flatten
 | .buildSl _ _ _ _ ps=>(ps.map λp=>iJ p.2).flatten
 | .ld1 x=>iJ x
 | .ldN _ x=>iJ x
 | .st1 a x=>iJ a++iJ x
 | .stN _ a x=>iJ a++iJ x
 | .nilck x=>iJ x
 | .arith _ x y=>iJ x++iJ y
 | .eqS _ _ _ x y=>iJ x++iJ y
 | .un _ x=>iJ x
 | .conv _ x=>iJ x
 | .b2s x=>iJ x
 | .mkfn _ a b=>xC a++xC b
 | .mkmap _=>[]
 | .mksl _ _ _ _ l c=>iJ l++iJ c
 | .slc _ x lo hi=>iJ x++xB lo++xB hi
 | .slcS x lo hi=>iJ x++xB lo++xB hi
 | .slc3 _ x lo hi mx=>iJ x++xB lo++iJ hi++iJ mx
 | .slcArr _ _ x lo hi=>iJ x++xB lo++xB hi
 | .fieldA _ x=>iJ x
 | .field _ _ _ x=>iJ x
 | .idxA _ x i=>iJ x++iJ i
 | .idxArr _ _ x i=>iJ x++iJ i
 | .idx _ _ _ x i=>iJ x++iJ i
 | .idxStr x i=>iJ x++iJ i
 | .lookup _ _ _ m k=>iJ m++iJ k
 | .mapUpd _ m k x=>iJ m++iJ k++iJ x
 | .ext x _=>iJ x
 | .call _ args=>xC args
 | .callN _ args=>xC args
 | .callv f args=>iJ f++xC args
 | .app _ _ _ x y=>iJ x++iJ y
 | .copy _ x y=>iJ x++iJ y
 | .len _ x=>iJ x
 | .minmax _ xs=>xC xs
 | .nilS _ x | .capE x | .clr _ _ x | .rangeS x | .nextS x | .rangeM x | .nextM x | .entry x=>iJ x
 | .mapEnt _ _ m k=>iJ m++iJ k
 | .entSt m s x=>iJ m++iJ s++iJ x
 | .appZ _ _ _ _ x n=>iJ x++iJ n
def Iz:iL->Bool
 | .mv _ | .pick .. | .build .. | .nilck _ | .arith .. | .eqS .. | .un .. | .conv .. | .mkfn .. | .slc .. | .slcS .. | .slc3 .. | .fieldA .. | .field .. | .idxA .. | .idxArr .. | .idx .. | .idxStr .. | .ext .. | .minmax ..
 | .len .slice _ | .len .string _=>true
 | _=>false
def Tj:iL->Bool
 | .ld1 _ | .ldN .. | .b2s _ | .slcArr .. | .lookup .. | .len .. | .call .. | .callv .. => true
 | op=>Iz op
def Pb(a b:iL):Bool:=Iz a||Iz b||(Tj a&&Tj b)
section
variable{f f':gP}
theorem Bf{x:X}(h:∀t∈iJ x,f t=f' t):ev f x=ev f' x:=by
 cases x with
 | t k=>exact h k (by simp[iJ])
 | c d=>rfl
theorem Bg{l:List X}(h:∀t∈xC l,f t=f' t):l.map (ev f)=l.map (ev f'):=
 aw λx a=>Bf λt b=>h t (bh.2 ⟨_,ar.2 ⟨x,a,rfl⟩,b⟩)
theorem Tc:∀ {l:List (Nat×Nat×X)},(∀t∈(l.map λp=>iJ p.2.2).flatten,f t=f' t)->partsOf f l=partsOf f' l
 | [],_=>rfl
 | (o,n,x)::r,h=>by have h1:ev f x=ev f' x:=Bf λt a=>h t (by simp[a]);have b:=Tc (l:=r) λt a=>h t (by simp only[List.map_cons,a7,List.mem_append];exact .inr a);simp only[partsOf,h1,b]
theorem xT{x:Option X}{n:Int}(h:∀t∈xB x,f t=f' t):ig f x n=ig f' x n:=by
 cases x with
 | none=>rfl
 | some x=>simp only[ig,Bf (x:=x) h]
theorem YH:∀ {l:List X},(∀t∈xC l,f t=f' t)->r9 f l=r9 f' l
 | [],_=>rfl
 | x::r,h=>by have h1:ev f x=ev f' x:=Bf λt a=>h t (by simp[xC,a]);have b:=YH (l:=r) λt a=>h t (by simp only[xC,List.map_cons,a7,List.mem_append];exact .inr a);simp only[r9,h1,b]
theorem UQ{op:iL}(h:∀t∈ik op,f t=f' t)(H:U)(n:Nat):gN f H n op=gN f' H n op:=by
 have e:∀ {x:X},(∀t∈iJ x,t∈ik op)->ev f x=ev f' x:=λr=>Bf λt d=>h t (r t d);cases op<;>simp only[gN]<;>first|rfl|skip
 case mv x=>rw[e (x:=x) (λt d=>by simpa[ik]using d)]
 case pick c a b=>rw[e (x:=c) (λt d=>by simp[ik,d]),e (x:=a) (λt d=>by simp[ik,d]),e (x:=b) (λt d=>by simp[ik,d])]
 case box x=>rw[e (x:=x) (λt d=>by simpa[ik]using d)]
 case build z ps=>simp only[Dq,Tc (f:=f) (f':=f') (l:=ps) (λt d=>h t (by simpa[ik]using d))]
 case buildSl t sz z m ps=>
  have:=Tc (f:=f) (f':=f') (l:=ps.map λp=>(p.1*sz,sz,p.2)) (λt d=>h t (by simpa[ik,cz,eY]using d));simp only[zn,this]
 case ld1 x=>rw[e (x:=x) (λt d=>by simpa[ik]using d)]
 case ldN n x=>rw[e (x:=x) (λt d=>by simpa[ik]using d)]
 case st1 a x=>rw[e (x:=a) (λt d=>by simp[ik,d]),e (x:=x) (λt d=>by simp[ik,d])]
 case stN n a x=>rw[e (x:=a) (λt d=>by simp[ik,d]),e (x:=x) (λt d=>by simp[ik,d])]
 case nilck x=>rw[e (x:=x) (λt d=>by simpa[ik]using d)]
 case arith op x y=>rw[e (x:=x) (λt d=>by simp[ik,d]),e (x:=y) (λt d=>by simp[ik,d])]
 case eqS b ls neg x y=>rw[e (x:=x) (λt d=>by simp[ik,d]),e (x:=y) (λt d=>by simp[ik,d])]
 case un op x=>rw[e (x:=x) (λt d=>by simpa[ik]using d)]
 case conv k x=>rw[e (x:=x) (λt d=>by simpa[ik]using d)]
 case b2s x=>rw[e (x:=x) (λt d=>by simpa[ik]using d)]
 case mkfn g a b=>rw[Bg (f:=f) (f':=f') (l:=a) (λt d=>h t (by simp[ik,d])),Bg (f:=f) (f':=f') (l:=b) (λt d=>h t (by simp[ik,d]))]
 case mksl t sz PI z l c=>rw[e (x:=l) (λt d=>by simp[ik,d]),e (x:=c) (λt d=>by simp[ik,d])]
 case slc sz x lo hi=>
  have q:∀n,ig f lo n=ig f' lo n:=λn=>xT λt d=>h t (by simp[ik,d]);have j:∀n,ig f hi n=ig f' hi n:=λn=>xT λt d=>h t (by simp[ik,d]);simp only[tq,q,j,e (x:=x) (λt d=>by simp[ik,d])]
 case slc3 sz x lo hi mx=>
  have q:∀n,ig f lo n=ig f' lo n:=λn=>xT λt d=>h t (by simp[ik,d]);have j:∀n,ig f (some hi) n=ig f' (some hi) n:=λn=>xT λt d=>h t (by simp only[xB]at d;simp[ik,d]);have s:∀n,ig f (some mx) n=ig f' (some mx) n:=λn=>xT λt d=>h t (by simp only[xB]at d;simp[ik,d]);simp only[yT,q,j,s,e (x:=x) (λt d=>by simp[ik,d])]
 case slcArr sz m x lo hi=>
  have q:∀n,ig f lo n=ig f' lo n:=λn=>xT λt d=>h t (by simp[ik,d]);have j:∀n,ig f hi n=ig f' hi n:=λn=>xT λt d=>h t (by simp[ik,d]);simp only[AM,q,j,e (x:=x) (λt d=>by simp[ik,d])]
 case slcS x lo hi=>
  have q:∀n,ig f lo n=ig f' lo n:=λn=>xT λt d=>h t (by simp[ik,d]);have j:∀n,ig f hi n=ig f' hi n:=λn=>xT λt d=>h t (by simp[ik,d]);simp only[O7,q,j,e (x:=x) (λt d=>by simp[ik,d])]
 case fieldA o x=>rw[e (x:=x) (λt d=>by simpa[ik]using d)]
 case field o n b x=>rw[e (x:=x) (λt d=>by simpa[ik]using d)]
 case idxA sz x i=>rw[e (x:=x) (λt d=>by simp[ik,d]),e (x:=i) (λt d=>by simp[ik,d])]
 case idxArr sz n x i=>rw[e (x:=x) (λt d=>by simp[ik,d]),e (x:=i) (λt d=>by simp[ik,d])]
 case idx sz n b x i=>rw[e (x:=x) (λt d=>by simp[ik,d]),e (x:=i) (λt d=>by simp[ik,d])]
 case idxStr x i=>rw[e (x:=x) (λt d=>by simp[ik,d]),e (x:=i) (λt d=>by simp[ik,d])]
 case lookup kk z ok m k=>rw[e (x:=m) (λt d=>by simp[ik,d]),e (x:=k) (λt d=>by simp[ik,d])]
 case mapUpd kk m k x=>rw[e (x:=m) (λt d=>by simp[ik,d]),e (x:=k) (λt d=>by simp[ik,d]),e (x:=x) (λt d=>by simp[ik,d])]
 case ext x i=>rw[e (x:=x) (λt d=>by simpa[ik]using d)]
 case app t sz PI x y=>rw[e (x:=x) (λt d=>by simp[ik,d]),e (x:=y) (λt d=>by simp[ik,d])]
 case copy sz x y=>rw[e (x:=x) (λt d=>by simp[ik,d]),e (x:=y) (λt d=>by simp[ik,d])]
 case len k x=>rw[e (x:=x) (λt d=>by simpa[ik]using d)]
 case minmax b xs=>simp only[EB,YH (f:=f) (f':=f') (l:=xs) (λt d=>h t (by simpa[ik]using d))]
end
end Go.AL
namespace Go.AL
open Go
theorem MA{f f':gP}{op:iL}(h:∀t∈ik op,f t=f' t):kK f op=kK f' op:=by
 cases op<;>first|rfl|skip
 case call g args=>simp only[kK,Bg (f:=f) (f':=f') (l:=args) (λt a=>h t (by simpa[ik]using a))]
 case callN g args=>simp only[kK,Bg (f:=f) (f':=f') (l:=args) (λt a=>h t (by simpa[ik]using a))]
 case callv g args=>
  simp only[kK,Bg (f:=f) (f':=f') (l:=args) (λt a=>h t (by simp[ik,a])),Bf (f:=f) (f':=f') (x:=g) (λt a=>h t (by simp[ik,a]))]
theorem Nj{f f':gP}{op:iL}(h:∀t∈ik op,f t=f' t)(H:U):gT f H op=gT f' H op:=by
 have c:∀ {x:X},(∀t∈iJ x,t∈ik op)->ev f x=ev f' x:=λd=>Bf λt b=>h t (d t b);have e:=MA h;cases op<;>simp only[gT]<;>first|rfl|skip
 case ld1 x=>rw[c (x:=x) (λt b=>by simpa[ik]using b)]
 case ldN n x=>rw[c (x:=x) (λt b=>by simpa[ik]using b)]
 case b2s x=>rw[c (x:=x) (λt b=>by simpa[ik]using b)]
 case slcArr sz n x lo hi=>rw[c (x:=x) (λt b=>by simp[ik,b])]
 case st1 a x=>rw[c (x:=a) (λt b=>by simp[ik,b])]
 case stN n a x=>rw[c (x:=a) (λt b=>by simp[ik,b])]
 case lookup kk z ok m k=>rw[c (x:=m) (λt b=>by simp[ik,b])]
 case mapUpd kk m k x=>rw[c (x:=m) (λt b=>by simp[ik,b])]
 case app t sz PI x y=>rw[c (x:=x) (λt b=>by simp[ik,b]),c (x:=y) (λt b=>by simp[ik,b])]
 case copy sz x y=>rw[c (x:=x) (λt b=>by simp[ik,b]),c (x:=y) (λt b=>by simp[ik,b])]
 case len k x=>cases k<;>simp only[gT]<;>rw[c (x:=x) (λt b=>by simpa[ik]using b)]
 case call g args=>rw[Bg (f:=f) (f':=f') (l:=args) (λt b=>h t (by simpa[ik]using b))]
 case callN g args=>rw[Bg (f:=f) (f':=f') (l:=args) (λt b=>h t (by simpa[ik]using b))]
 case callv g args=>rw[e]
section
variable{H1 H2:U}
theorem OU{v:Nat}(h:H1[v]? = H2[v]?)(g:Nat):rowAt H1 v g=rowAt H2 v g:=by simp only[rowAt,h]
theorem SG{v:Nat}(h:H1[v]? = H2[v]?):lM H1 v=lM H2 v:=by simp only[lM,h]
theorem IK{v o n:Nat}(h:Alike (v,some (o,n)) H1 H2)(g:Nat) :
  (rowAt H1 v g=none/\rowAt H2 v g=none)\/∃t cs ds,rowAt H1 v g=some (t,cs)/\rowAt H2 v g=some (t,ds)/\cs.length=ds.length/\∀i,o<=i->i<o+n->cs[i]? = ds[i]? := by
 rcases h with h|⟨t,d,cs,ds,h1,a,c,b⟩
 .rw[OU h g]
  cases f:rowAt H2 v g with
  | none=>exact .inl ⟨rfl,rfl⟩
  | some p=>exact .inr ⟨p.1,p.2,p.2,rfl,rfl,rfl,λ_ _ _=>rfl⟩
 .by_cases e:d=g
  .exact .inr ⟨t,cs,ds,by simp[rowAt,h1,e],by simp[rowAt,a,e],c,b⟩
  .exact .inl ⟨by simp[rowAt,h1,e],by simp[rowAt,a,e]⟩
theorem TL{sz:Nat}{d:D}(h:uA (nJ d) H1 H2):kS sz H1 d=kS sz H2 d:=by
 unfold kS;split<;>first|rfl|skip
 rename_i v g a off len;have:=h (v,none) (by simp[nJ]);rw[OU this]
theorem uA.left{a b:List Fp}(h:uA (a++b) H1 H2):uA a H1 H2:=λx c=>h x (bA _ c)
theorem uA.right{a b:List Fp}(h:uA (a++b) H1 H2):uA b H1 H2:=λx c=>h x (bG _ c)
theorem abM{f:gP}{op:iL}(h:uA (gT f H1 op) H1 H2)(n:Nat):gN f H1 n op=gN f H2 n op:=by
 cases op<;>simp only[gN]<;>first|rfl|skip
 case ld1 x=>
  congr 1;simp only[gT]at h;unfold xm;split<;>first|rfl|skip
  rename_i v g o b;rw[b]at h;rcases IK (h (v,some (o,1)) (by simp[vh])) g with⟨d,c⟩|⟨t,cs,ds,d,c,e,j⟩
  .rw[d,c]
  .grind
 case ldN m x=>
  congr 1;simp only[gT]at h;unfold wg;split<;>first|rfl|skip
  rename_i v g o b;rw[b]at h;rcases IK (h (v,some (o,m)) (by simp[vh])) g with⟨d,c⟩|⟨t,cs,ds,d,c,e,j⟩
  .rw[d,c]
  .rw[d,c]
   have:(cs.drop o).take m=(ds.drop o).take m:=by
    apply bI;intro i;simp only[aF,aG];split
    .grind
    .rfl
   simp only[e,this]
 case st1 a x=>
  simp only[gT]at h;unfold CM;split<;>first|rfl|skip
  rename_i v g o b;rw[b]at h;rcases IK (h (v,some (o,1)) (by simp[vh])) g with⟨d,c⟩|⟨t,cs,ds,d,c,e,j⟩
  .rw[d,c]
  .grind
 case stN m a x=>
  simp only[gT]at h;unfold CP;split<;>first|rfl|skip
  rename_i v g o xs b _;rw[b]at h;rcases IK (h (v,some (o,m)) (by simp[vh])) g with⟨d,c⟩|⟨t,cs,ds,d,c,e,j⟩
  .rw[d,c]
  .grind
 case slcArr sz m x lo hi=>
  congr 1;simp only[gT]at h;unfold AM;split<;>first|rfl|skip
  rename_i v g o l r b _ _;rw[b]at h;rcases IK (h (v,some (o,m*sz)) (by simp[vh])) g with⟨d,c⟩|⟨t,cs,ds,d,c,e,j⟩
  .rw[d,c]
  .grind
 case lookup kk z ok m k=>
  congr 1;simp only[gT]at h;unfold Cb;split<;>first|rfl|skip
  rename_i v kv b _;rw[b]at h;rw[SG (h (v,none) (by simp[nJ]))]
 case mapUpd kk m k x=>
  simp only[gT]at h;unfold Ar;split<;>first|rfl|skip
  rename_i v kv b _;rw[b]at h;rw[SG (h (v,none) (by simp[nJ]))]
 case b2s x=>
  congr 1;simp only[gT]at h;unfold Dn;rw[TL (sz:=1) h]
 case len k x=>
  congr 1;unfold mX;split<;>first|rfl|skip
  rename_i v b;simp only[gT]at h;rw[b]at h;rw[SG (h (v,none) (by simp[nJ]))]
 case app t sz PI x y=>
  simp only[gT]at h;unfold sW;rw[TL (sz:=sz) h.right];split<;>first|rfl|skip
  split<;>first|rfl|skip
  rename_i v g p off len b;rw[b]at h;rw[OU (h (v,none) (by simp[nJ]))]
 case copy sz x y=>
  simp only[gT]at h;unfold zy;rw[TL (sz:=sz) h.right];split<;>first|rfl|skip
  rename_i v g p off len q n b _;rw[b]at h;rw[OU (h (v,none) (by simp[nJ]))]
theorem AG(H:U)(v g:Nat):rowAt H v g=match rowsOf H v with|some (t,g',cs)=>if g'=g then some (t,cs)else none|none=>none:=by
 unfold rowAt rowsOf
 cases H[v]? with
 | none=>rfl
 | some o=>cases o<;>rfl
theorem IG:∀(k:Nat) (d:D),(∀v∈iC H1 k d,rowsOf H1 v=rowsOf H2 v)->iC H2 k d=iC H1 k d/\gq (λ_=>none) H2 k d=gq (λ_=>none) H1 k d
 | 0,d,_=>⟨rfl,rfl⟩
 | k+1,d,h=>by
  have f:∀(ds:List D),(∀v∈(ds.map (iC H1 k)).flatten,rowsOf H1 v=rowsOf H2 v)->ds.map (iC H2 k)=ds.map (iC H1 k)/\ds.map (gq (λ_=>none) H2 k)=ds.map (gq (λ_=>none) H1 k):=by intro ds q;have h1:∀d∈ds,∀v∈iC H1 k d,rowsOf H1 v=rowsOf H2 v:=λd j v c=>q v (bh.2 ⟨_,ar.2 ⟨d,j,rfl⟩,c⟩);exact⟨aw λd j=>(IG k d (h1 d j)).1,aw λd j=>(IG k d (h1 d j)).2⟩
  unfold iC at h;unfold iC gq
  by_cases r:closed d=true
  .grind
  .simp only[if_neg r]at h ⊢
   cases d with
   | agg cs=>obtain⟨a,b⟩:=f cs h;simp only[a,b,and_self]
   | tup cs=>obtain⟨a,b⟩:=f cs h;simp only[a,b,and_self]
   | gu cs=>obtain⟨a,b⟩:=f cs h;simp only[a,b,and_self]
   | sl sz es=>
    have h1:∀e∈es,e.map (iC H2 k)=e.map (iC H1 k)/\e.map (gq (λ_=>none) H2 k)=e.map (gq (λ_=>none) H1 k):=λe i=>f e λv c=>h v (bh.2 ⟨_,ar.2 ⟨e,i,rfl⟩,c⟩);have a:es.map (λe=>(e.map (iC H2 k)).flatten)=es.map (λe=>(e.map (iC H1 k)).flatten):=aw λe i=>by rw[(h1 e i).1]
    have b:es.map (λx=>x.map (gq (λ_=>none) H2 k))=es.map (λx=>x.map (gq (λ_=>none) H1 k)):=aw λe i=>(h1 e i).2;simp only[a,b,and_self]
   | fn g x y=>
    obtain⟨a,b⟩:=f x λv c=>h v (bA _ c);obtain⟨w,s⟩:=f y λv c=>h v (bG _ c);simp only[a,b,w,s,and_self]
   | fY v g sz off len=>
    have c:rowsOf H1 v=rowsOf H2 v:=h v (by simp);simp only[AG,<-c]
    cases n:rowsOf H1 v with
    | none=>exact⟨rfl,rfl⟩
    | some p=>
     obtain⟨t,o,cs⟩:=p;obtain⟨l,l2⟩:=f cs λu m=>h u (by simp only[n];exact aX _ m);refine⟨by simp only[l],?_⟩
     by_cases hg:o=g
     .grind
     .grind
   | ptr v g off=>
    have c:rowsOf H1 v=rowsOf H2 v:=h v (by simp);simp only[AG,<-c]
    cases n:rowsOf H1 v with
    | none=>exact⟨rfl,rfl⟩
    | some p=>
     obtain⟨t,o,cs⟩:=p;obtain⟨l,l2⟩:=f cs λu m=>h u (by simp only[n];exact aX _ m);refine⟨by simp only[l],?_⟩
     by_cases hg:o=g
     .grind
     .grind
   | _=>exact⟨rfl,rfl⟩
