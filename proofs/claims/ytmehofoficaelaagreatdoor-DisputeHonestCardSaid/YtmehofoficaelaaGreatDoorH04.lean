/- Part 4 of DisputeHonest. -/
import Derived.Test.YtmehofoficaelaaGreatDoorH03
import Derived.Laws.IdiomRangeMap
import Derived.RangeFuncLeaves
import Derived.OwnWalkIn
set_option linter.all false
namespace Go.AL
open Go
section
variable{G:GT}{c:Ctx}{H:U}{w:World}{ks:mD}
def y4(ks:mD):Prop:=∀(i j:Nat) (p q:Nat×Bool),ks[i]? = some p->ks[j]? = some q->p.1=q.1->i=j
theorem QM{i:Nat}{o:Ob}(h:(pJ ks H)[i]? = some o)(d:o≠.dead):∃v a,ks[i]? = some (v,true)/\H[v]? = some a/\o=oy (gX ks) H a:=by
 unfold pJ at h;simp only[aq,aj]at h;obtain⟨p,c,b⟩:=h;split at b
 .grind
 .grind
theorem XQ{o:Ob}(h:(oy (gX ks) H o).alive=true):o.alive=true/\(oy (gX ks) H o).gen=o.gen:=by cases o<;>simp_all [oy,Ob.alive,Ob.gen]
theorem QC{v i:Nat}(b:y4 ks)(h:ks[i]? = some (v,true)):gX ks v=some i:=by
 cases a:gX ks v with
 | none=>exact absurd h (Xp a i)
 | some j=>
  have:=Xq a;rw[b i j _ _ h this rfl]
theorem LB{i:Nat}{L:Loc}(h:kX (c.fy ks H) (pJ ks H) i L):∃v,ks[i]? = some (v,true)/\kX c H v L:=by obtain⟨o,f,a,b⟩:=h;obtain⟨v,d,h1,g,rfl⟩:=QM f (by intro e;subst e;cases a);obtain⟨k,j⟩:=XQ a;refine⟨v,h1,d,g,k,?_⟩;rw[j]at b;simpa[Ctx.fy,h1]using b
theorem WY{b:Nat}(h:lz (c.fy ks H) (pJ ks H) b):lz c H b:=by obtain⟨i,L,hl,a,e⟩:=h;obtain⟨v,_,d⟩:=LB hl;exact⟨v,L,d,a,e⟩
theorem CP(h:fO G c H w)(U:y4 ks):fO G (c.fy ks H) (pJ ks H) w where
 inj i j L N h1 A h3 h4 P:=by obtain⟨v,k1,F⟩:=LB h1;obtain⟨v',k2,l2⟩:=LB A;have:=h.inj v v' L N F l2 h3 h4 P;subst this;exact U i j _ _ k1 k2 rfl
 lt b n:=h.lt b (WY n)
 nF b n K:=by
  obtain⟨i,L,hl,q,e⟩:=n;obtain⟨v,k1,F⟩:=LB hl;rcases K with K|⟨v',N,l2,T,Q,X⟩
  .exact h.nF b ⟨v,L,F,q,e⟩ K
  .have:=h.inj v v' L N F l2 q Q (e.trans X.symm);subst this;exact Xp T i k1
 jX b n:=by
  rcases n with n|⟨v,L,l,_,q,e⟩
  .exact h.jX b n
  .exact h.lt b ⟨v,L,l,q,e⟩
 out i k hi:=by simp only[pJ,List.length_map]at hi;simp[Ctx.fy,bY hi]
 lO i o k ho z:=by
  have I:o≠.dead:=by rintro rfl;rcases z with z|⟨z,_⟩<;>cases z
  obtain⟨v,y,h1,A,rfl⟩:=QM ho I;rcases z with z|⟨W,hg⟩
  .cases y<;>simp[oy]at z
  .obtain⟨D,C⟩:=XQ W;have:=h.lO v y k A (.inr ⟨D,by rw[<-C];exact hg⟩);simpa[Ctx.fy,h1]using this
 ob i o ho:=by
  by_cases I:o = .dead
  .subst I;simp[gA]
  .obtain⟨v,y,h1,A,rfl⟩:=QM ho I;have h0:=h.ob v y A;have f:(c.fy ks H).ι i y.gen=c.ι v y.gen:=by simp[Ctx.fy,h1]
   have O:∀u d,fr c w u d->fr (c.fy ks H) w u (fy (gX ks) H 40 d):=λu d V=>yJ h 40 V
   cases y with
   | dead=>simp[oy,gA]
   | kR=>simp[oy,gA]
   | row t g cs=>
    simp only[oy,Ob.gen]at f ⊢;rw[f];simp only[Ob.gen]at h0
    cases a:c.ι v g with
    | none=>rw[a]at h0;simp[gA]at h0
    | some L=>
     rw[a]at h0;simp only[gA]at h0 ⊢;split
     .grind
     .grind
   | map kk es=>
    simp only[oy,Ob.gen]at f ⊢;rw[f];simp only[Ob.gen]at h0
    cases a:c.ι v 0 with
    | none=>rw[a]at h0;simp[gA]at h0
    | some L=>
     rw[a]at h0;simp only[gA]at h0 ⊢;obtain⟨q,Z,M,B,D,C,J,E⟩:=h0;refine⟨q,λx S=>?_,M,B,D,by simpa using C,λj e x P S=>?_,by simpa using E⟩
     .grind
     .grind
   | gM rf env st=>
    simp only[oy,Ob.gen]at f ⊢;rw[f];simp only[Ob.gen]at h0
    cases a:c.ι v 0 with
    | none=>rw[a]at h0;simp[gA]at h0
    | some L=>
     rw[a]at h0;simp only[gA]at h0 ⊢;obtain⟨q,r,D,C,J,E⟩:=h0;refine⟨q,r,D,λk=>?_,J,E⟩
     have key:∀(env:Env) (k:Nat),(Env.get (env.map λx=>(x.1,fy (gX ks) H 40 x.2)) k)=fy (gX ks) H 40 (env.get k):=by
      intro env k
      induction env with
      | nil=>rfl
      | cons p r R=>
       obtain⟨j,d⟩:=p;simp only[List.map_cons,Env.u9];split
       .rfl
       .exact R
     rw[key];exact O _ _ (C k)
   | q' s p=>
    simp only[oy,Ob.gen]at f ⊢;rw[f];simp only[Ob.gen]at h0
    cases a:c.ι v 0 with
    | none=>rw[a]at h0;simp[gA]at h0
    | some L=>
     rw[a]at h0;simpa only[gA]using h0
   | iM m since seen=>
    simp only[oy,Ob.gen]at f ⊢;rw[f];simp only[Ob.gen]at h0
    cases a:c.ι v 0 with
    | none=>rw[a]at h0;simp[gA]at h0
    | some L=>
     rw[a]at h0;simp only[gA]at h0 ⊢;obtain⟨D,C,Y,J,E⟩:=h0;exact⟨D,C,Y,O _ _ J,E⟩
   | km=>
    simp only[oy,Ob.gen]at f ⊢;rw[f];simp only[Ob.gen]at h0
    cases a:c.ι v 0 with
    | none=>rw[a]at h0;simp[gA]at h0
    | some L=>
     rw[a]at h0;simpa only[gA]using h0
 gl g cs hg:=by obtain⟨h1,A⟩:=h.gl g cs hg;exact⟨h1,A.closed (λb n=>Bj n) (by simpa[AL.closed]using h1)⟩
 rt:=h.rt
theorem QR(h:fO G c H w){n:Nat}(g:∀v,v<n->(ks[v]?).map (·.1)=some v):Step n c H w (c.fy ks H) (pJ ks H) w where
 os:=⟨rfl,Nat.le_refl _⟩
 tape:=rfl
 output:=rfl
 size:=Nat.le_refl _
 RT:=rfl
 Fm b a:=Bj a
 Fn b a:=by
  rcases a with a|⟨v,L,l,_,d,e⟩
  .exact .inl a
  .exact .inr (.inr ⟨v,L,l,d,e⟩)
 kept _ _ _:=rfl
 old v k L d fD:=by have:=g v d;simp only[aj]at this;obtain⟨p,f,e⟩:=this;simp only[Ctx.fy,f,e];exact fD
 own b a:=.inr (WY a)
theorem ab5(env:Env)(k:Nat):(Env.get (env.map λx=>(x.1,fy (gX ks) H 40 x.2)) k)=fy (gX ks) H 40 (env.get k):=by
 induction env with
 | nil=>rfl
 | cons p r a=>
  obtain⟨j,d⟩:=p;simp only[List.map_cons,Env.u9];split
  .rfl
  .exact a
theorem Tg(h:fO G c H w){env:Env}{a:Act}(b:kc c w env.get a):kc (c.fy ks H) w (Env.get (env.map λx=>(x.1,fy (gX ks) H 40 x.2))) a:=λk=>by rw[ab5];exact yJ h 40 (b k)
theorem abY(live:List Nat)(env:Env)(k:Nat):(forget live env).get k = .any\/(forget live env).get k=env.get k:=by
 unfold forget
 induction live with
 | nil=>exact .inl rfl
 | cons x r a=>
  simp only[List.map_cons,Env.u9];split
  .grind
  .exact a
theorem BC{env:Env}{a:Act}(b:kc c w env.get a)(live:List Nat):kc c w (forget live env).get a:=λk=>by
 rcases abY live env k with h|h<;>rw[h]
 .exact .any _
 .exact b k
theorem Fz{x:Nat}:∀ {l:List Nat},x∈dedup l->x∈l
 | [],h=>h
 | y::r,h=>by
  unfold dedup at h;split at h
  .exact aY _ (Fz h)
  .rcases aw.1 h with rfl|h
   .grind
   .exact aY _ (Fz h)
theorem Kc{x:Nat}:∀ {l:List Nat},x∈l->x∈dedup l
 | y::r,h=>by
  unfold dedup;split
  .rename_i a;rcases aw.1 h with rfl|h
   .exact Kc a
   .exact Kc h
  .rcases aw.1 h with rfl|h
   .grind
   .exact aY _ (Kc h)
theorem LP:∀(l:List Nat),(dedup l).Nodup
 | []=>List.nodup_nil
 | y::r=>by
  unfold dedup;split
  .exact LP r
  .rename_i a;exact cV.2 ⟨λh=>a (Fz h),LP r⟩
theorem VI(h:(ks.map (·.1)).Nodup):y4 ks:=by
 intro i j p q f d e;have hi:(ks.map (·.1))[i]? = some p.1:=by simp[f]
 have a:(ks.map (·.1))[j]? = some q.1:=by simp[d]
 have b:=(ae.1 hi).1;have c:=(ae.1 a).1;rw[List.getElem?_eq_getElem b]at hi;rw[List.getElem?_eq_getElem c]at a;simp only[ak]at hi a;exact(List.getElem_inj h).1 (by rw[hi,a,e])
theorem VL{n:Nat}{K:List Nat}(g:∀v∈K,n<=v)(c:K.Nodup):y4 (iv n K):=by apply VI;unfold iv;simp only[List.map_append,cD,eE,List.map_id'];rw[cZ];refine⟨eO,c,λa f b d e=>?_⟩;subst e;have:=g a d;simp at f;omega
theorem VK{n:Nat}{K:List Nat}(v:Nat)(a:v<n):((iv n K)[v]?).map (·.1)=some v:=by unfold iv;rw[ah (by simpa using a)];simp[a]
theorem T2{S:List Nat}:y4 (lN H S):=by apply VI;unfold lN;simp only[cD,eE,List.map_id'];exact eO
theorem T1{S:List Nat}(v:Nat)(a:v<H.length):((lN H S)[v]?).map (·.1)=some v:=by unfold lN;simp[a]
theorem NS{S:List Nat}:(pJ (lN H S) H).length=H.length:=by simp[pJ,lN]
end
end Go.AL
namespace Go.AL
open Go
def J5:Operand->Bool
 | .const (.slice none 0 0)=>true
 | _=>false
def CT(P:Program)(t:TypeId):Bool:=match P.underlying t with
 | some (.slice _)=>true
 | _=>false
def ru(P:Program)(G:GT)(o:Oper):Option gZ:=
 match o.op with
 | .binOp .eql t x y _=>if CT P t=true/\J5 y=true then(cX G x).map (.nilS false)else none
 | .binOp .neq t x y _=>if CT P t=true/\J5 y=true then(cX G x).map (.nilS true)else none
 | .range t x=>match P.underlying t,cX G x with
  | some .string,some a=>some (.rangeS a)
  | some (.map _ _),some a=>some (.rangeM a)
  | _,_=>none
 | .next x true=>(cX G x).map .nextS
 | .next x false=>(cX G x).map .nextM
 | .entry x=>(cX G x).map .entry
 | .call c=>match c.callee,c.argTypes.toList,c.args.toList with
  | .builtin .cap,[t],[x]=>if CT P t then(cX G x).map .capE else none
  | .builtin .clear,[t],[x]=>match P.underlying t with
   | some (.slice e)=>match pO P e,P.info? e,cX G x with
    | some z,some i,some a=>if z.length=i.size/\0<i.size then some (.clr i.size z a)else none
    | _,_,_=>none
   | _=>none
  | .builtin .append,[t,u],[x,y]=>match P.underlying t,P.underlying u with
   | some (.slice e),some (.int .i64)=>match pO P e,P.info? e,cX G x,cX G y with
    | some z,some i,some a,some b=>if z.length=i.size/\0<i.size then some (.appZ e i.size i.bytes z a b)else none
    | _,_,_,_=>none
   | _,_=>none
  | _,_,_=>none
 | .mapEntry t m k=>match P.underlying t with
  | some (.map kt e)=>match tj P kt,C4 P e,cX G m,cX G k with
   | some kk,some z,some a,some b=>some (.mapEnt kk z a b)
   | _,_,_,_=>none
  | _=>none
 | .entryStore _ m s x=>match cX G m,cX G s,cX G x with
  | some a,some b,some c=>some (.entSt a b c)
  | _,_,_=>none
 | _=>none
def w5(kv:Value):List (Value×D)->Nat->Option (Nat×D)
 | [],_=>none
 | (k,d)::r,i=>if mJ kv k then some (i,d)else w5 kv r (i+1)
def wZ(a:KK)(z:D)(m k:D)(H:U):R:=
 match m,keyOf k with
 | .fV v,some kv=>match kK H v with
  | some (kk,es)=>if kk=a/\kk.has kv=true then(match w5 kv es 0 with
    | some (j,d)=>some (.tup [d,.i j],.obj v (.map kk (lI es kv d)))
    | none=>some (.tup [z,.i es.length],.obj v (.map kk (lI es kv z))))else none
  | none=>none
 | _,_=>none
def zk(m s x:D)(H:U):R:=
 match m,s with
 | .fV v,.val (.int .i64 n)=>match kK H v with
  | some (kk,es)=>match es[n.toNat]? with
   | some (k,_)=>if 0<=n then some (.any,.obj v (.map kk (es.set n.toNat (k,x))))else none
   | none=>none
  | none=>none
 | _,_=>none
def LO(neg:Bool):D->Option D
 | .fw=>some (.b !neg)
 | .sl _ (_::_)=>some (.b neg)
 | .fm _ _ _ _ (_+1)=>some (.b neg)
 | _=>none
def JG(t sz bytes:Nat)(z:List D)(x n:D)(a:Nat):R:=
 match x,n with
 | .fw,.val (.int .i64 m)=>if 0<m/\pE (m*bytes) 140737488355328/\pE m 9223372036854775807 then some (.fm a 0 sz 0 m.toNat,.new (.row t 0 (List.replicate m.toNat z).flatten))else none
 | _,_=>none
def DR(sz:Nat)(z:List D)(x:D)(H:U):R:=
 match x with
 | .fw=>some (.any,.no)
 | .fm v g a off len=>match rowAt H v g with
  | some (t,cs)=>if a=sz/\(off+len)*sz<=cs.length then some (.any,.obj v (.row t g (cs.take (off*sz)++(List.replicate len z).flatten++cs.drop ((off+len)*sz))))else none
  | none=>none
 | _=>none
def Qb(x:D)(H:U):R:=
 match x with
 | .ptr v 0 0=>match H[v]? with
  | some (.q' s p)=>if p<s.size then some (.tup [.b true,.i p,.val (.int .i32 (Utf8.decode s p).1)],.obj v (.q' s (p+(Utf8.decode s p).2)))else some (.tup [.b false],.no)
  | _=>none
 | _=>none
def FY(x:D)(H:U)(a:Nat):R:=
 match x with
 | .fV m=>match kK H m with
  | some (_,es)=>some (.ptr a 0 0,.new (.iM (.fV m) es.length []))
  | none=>none
 | _=>none
def Kj(x:D)(H:U):Option D:=
 match x with
 | .ptr v 0 0=>match H[v]? with
  | some (.iM (.fV m) since seen)=>match kK H m,seen.getLast? with
   | some (_,es),some i=>match es[i]? with
    | some (k,d)=>if es.length=since then some (.tup [qw k,d])else none
    | none=>none
   | _,_=>none
  | _=>none
 | _=>none
def lL(env:gj)(H:U)(n:Nat):gZ->R
 | .nilS neg x=>lift (LO neg (ev env x))
 | .capE x=>match ev env x with
  | .fw=>some (.i 0,.no)
  | _=>none
 | .appZ t sz bytes z x m=>JG t sz bytes z (ev env x) (ev env m) n
 | .clr sz z x=>DR sz z (ev env x) H
 | .rangeS x=>match ev env x with
  | .val (.string s)=>some (.ptr n 0 0,.new (.q' s 0))
  | _=>none
 | .nextS x=>Qb (ev env x) H
 | .rangeM x=>FY (ev env x) H n
 | .entry x=>lift (Kj (ev env x) H)
 | .mapEnt kk z m k=>wZ kk z (ev env m) (ev env k) H
 | .entSt m s x=>zk (ev env m) (ev env s) (ev env x) H
 | _=>none
def Mv:gZ->Bool
 | .nilS .. | .capE .. | .appZ .. | .clr .. | .rangeS .. | .nextS .. | .rangeM .. | .nextM .. | .entry .. | .mapEnt .. | .entSt .. => true
 | _=>false
theorem akF{op:gZ}(h:Mv op=true)(f:gj)(H:U)(n:Nat):gf f H n op=none:=by cases op<;>first|(cases h;done)|rfl
theorem akG{op:gZ}(h:Mv op=true)(f:gj):jS f op=none:=by cases op<;>first|(cases h;done)|rfl
theorem Nj{P:Program}{G:GT}{o:Oper}{a:gZ}(h:ru P G o=some a):Mv a=true:=by
 unfold ru at h
 repeat' split at h
 all_goals first|(cases h;done)|(simp only[aj]at h;obtain⟨_,_,rfl⟩:=h;rfl)|(cases h;rfl)
section
variable{P:Program}{G:GT}{c:Ctx}{H:U}{w:World}{env:gj}{a:Act}
abbrev KO(H:U)(al:Al)(d:D)(δ:Dl):iW:=λd' H'=>d'=d/\H'=δ.app H al
theorem LM(h:fO G c H w){al:Al}(g:mj H al)(o:Obj)(ob:Ob)(hg:ob.gen=0)(f:ob.alive=true)
  (i:(∀u d,fr c w u d->fr (c.set al.1 0 ⟨w.heap.size,0,0,false⟩) (w.alloc o) u d)->(w.alloc o).heap[w.heap.size]? = some o->gA (c.set al.1 0 ⟨w.heap.size,0,0,false⟩) (w.alloc o) (some ⟨w.heap.size,0,0,false⟩) ob) :
  fO G (c.set al.1 0 ⟨w.heap.size,0,0,false⟩) (al.2 ob) (w.alloc o)/\fr (c.set al.1 0 ⟨w.heap.size,0,0,false⟩) (w.alloc o) (.pointer (some ⟨w.heap.size,0,none⟩)) (.ptr al.1 0 0) /\
   Step H.length c H w (c.set al.1 0 ⟨w.heap.size,0,0,false⟩) (al.2 ob) (w.alloc o):=by
 have b:(⟨w.heap.size,0,0,false⟩:Loc).jg=false->w.heap.size<=(⟨w.heap.size,0,0,false⟩:Loc).b/\(⟨w.heap.size,0,0,false⟩:Loc).b<(w.alloc o).heap.size:=λ_=>⟨Nat.le_refl _,by simp⟩;have a:=(g ob).sS;have hs:=MB h a (jy.alloc w o) ⟨w.heap.size,0,0,false⟩ b;rw[hg]at hs;have h1:=Q3 h a (jy.alloc w o) ⟨w.heap.size,0,0,false⟩ b f (by rw[hg];exact i (λu d e=>e.oW h.toHeapOK hs) (heap_alloc_new w o));rw[hg]at h1;exact⟨h1,.ptr (c:=c.set al.1 0 ⟨w.heap.size,0,0,false⟩) al.1 0 0 ⟨w.heap.size,0,0,false⟩ (Ctx.qJ _ _ _ _) rfl,hs⟩
theorem WN(h:fO G c H w){t:TypeId}(f:CT P t=true){neg:Bool}{x d:D}{u:Value}(i:fr c w u x)(a:LO neg x=some d)(xo k:Operand) :
  ∃r,(do eqGuard (if neg then .neq else .eql) t xo k u (.slice none 0 0);binOp (if neg then .neq else .eql) t u (.slice none 0 0)).run P w = .ok r w/\fr c w r d:=by
 have v:∃e,P.underlying t=some (.slice e):=by
  unfold CT at f;split at f
  .exact⟨_,by assumption⟩
  .cases f
 obtain⟨e,p⟩:=v
 have j:∀(n:Nat) (ad:Option Addr) (len cap:Nat),(Op.equalIn (n+1) t (.slice ad len cap) (.slice none 0 0)).run P w = .ok ad.isNone w:=by intro n ad len cap;cases ad<;>simp[Op.equalIn,run_underlying p]
 have s:∀ad len cap,Op.equal t (.slice ad len cap) (.slice none 0 0)=Op.equalIn (9999+1) t (.slice ad len cap) (.slice none 0 0):=λ_ _ _=>rfl
 have key:∀(ad:Option Addr) (len cap:Nat),u = .slice ad len cap->(do eqGuard (if neg then .neq else .eql) t xo k u (.slice none 0 0);binOp (if neg then .neq else .eql) t u (.slice none 0 0)).run P w = .ok (.bool (if neg then !ad.isNone else ad.isNone)) w:=by rintro ad len cap rfl;have h1:=j 9999 ad len cap;cases neg<;>simp only[eqGuard,binOp,s,bp,if_false,if_true,Sem.run_bind,Bool.not_true,Sem.run_pure,Result.andThen_ok,h1]
 unfold LO at a;split at a
 .cases a;cases i;exact⟨_,key none 0 0 rfl,by cases neg<;>exact .val _⟩
 .cases a
  cases i with
  | sl ad len cap sz es g b m o B l A E=>
   have:ad≠none:=λe=>by have:=l e;simp at b;omega
   obtain⟨q,rfl⟩:=Option.ne_none_iff_exists'.1 this;exact⟨_,key _ _ _ rfl,by cases neg<;>exact .val _⟩
 .cases a
  cases i with
  | fm _ _ _ _ _ cap L C z m o y=>exact⟨_,key _ _ _ rfl,by cases neg<;>exact .val _⟩
 .cases a
theorem aiE(h:fO G c H w){v g o:Nat}{b:TypeId}{cs xs:List D}(l:H[v]? = some (.row b g cs)){L:Loc}(q:c.ι v g=some L)(n:L.jg=false){vs:List Value}(j:Cells c w vs xs)
  (E:o+xs.length<=cs.length):∃w',(storeCells ⟨L.b,L.base+o,none⟩ vs).run P w = .ok () w'/\fO G c (H.set v (.row b g (cs.take o++xs++cs.drop (o+xs.length)))) w'/\Step H.length c H w c (H.set v (.row b g (cs.take o++xs++cs.drop (o+xs.length)))) w':=by
 obtain⟨a,h1,z,F,x⟩:=xc h l q n;have r:vs.length=xs.length:=j.len;have p:=run_storeCells_at P L.b (L.base+o) b vs 0 a w h1 (by simp;omega) j.one;simp only[cd]at p
 have k:=C3 h l q n h1 (a.toList.take (L.base+o)++vs++a.toList.drop (L.base+o+vs.length)).toArray
  (by simp;omega) z (cs.take o++xs++cs.drop (o+xs.length)) (by simp;omega) (λi d m=>by
   have B:=x.rh j o;obtain⟨y,s,u,t⟩:=B.get m;refine⟨y,?_,u,t⟩;rw[<-s];simp only[c9];have f:(List.take (L.base+o) a.toList).length=L.base+o:=by simp;omega
   have e:(List.take o (List.take cs.length (List.drop L.base a.toList))).length=o:=by simp;omega
   by_cases A:i<o
   .rw[ah (by simp;omega),ah (by rw[f];omega),ah (by simp;omega),ah (by rw[e];omega)];simp only[aC,aH];rw[if_pos (by omega),if_pos A,if_pos (by omega)]
   .by_cases c2:i<o+xs.length
    .rw[ah (by simp;omega),ai (by rw[f];omega),ah (by simp;omega),ai (by rw[e];omega),f,e];congr 1;omega
    .have C:i<cs.length:=by have:=(ae.1 m).1;simp at this;omega
     rw[ai (by simp;omega),ai (by simp;omega)];simp only[aH,aC,ar,f,e,r];rw[if_pos (by omega)];congr 1
     omega)
 exact⟨_,p,k.1,k.2⟩
theorem aiF(h:fO G c H w){al:Al}{t e ty:TypeId}{i:TypeInfo}{z:List D}(l:P.underlying t=some (.slice e))(hi:P.info? e=some i)(J:pO P e=some z)(A:z.length=i.size)(T:0<i.size)
  {x d:D} {δ:Dl} {u:Value} (r:fr c w u x) (a:DR i.size z x H=some (d,δ)):∃w',(Builtin.clear_ #[t] ty #[u]).run P w = .ok (.tuple #[]) w'/\iA G c H w (KO H al d δ) (.tuple #[]) w':=by
 unfold DR at a;split at a
 .cases a;cases r;exact⟨w,by simp[Builtin.clear_,run_underlying l],_,_,c,⟨rfl,rfl⟩,h,.any _,Step.refl _ _ _ _⟩
 .rename_i v g V off len;split at a
  .rename_i f cs K;split at a
   .rename_i I;obtain⟨rfl,E⟩:=I;cases a;have k:=sP K;dsimp only at k;obtain⟨b,B,W,p⟩:=yQ J w;have Q:b.cells.size=i.size:=by have:=(p c w).len;simp at this;omega
    have n:(Dl.obj v (.row f g (cs.take (off*i.size)++(List.replicate len z).flatten++cs.drop ((off+len)*i.size)))).app H al=H.set v (.row f g (cs.take (off*i.size)++(List.replicate len z).flatten++cs.drop ((off+len)*i.size))):=rfl;have q:(List.replicate len z).flatten.length=len*i.size:=by simp[A]
    have m:(.row f g (cs.take (off*i.size)++(List.replicate 0 z).flatten++cs.drop ((off+0)*i.size)))=Ob.row f g cs:=by simp
    have j:H.set v (.row f g cs)=H:=by have M:=(ae.1 k).1;have F:=(ae.1 k).2;rw[<-F];exact dQ M
    cases r with
    | fm _ _ _ _ _ cap L y N S U R=>
     by_cases s:len=0
     .subst s;refine⟨w,by simp[Builtin.clear_,run_underlying l],_,_,c,⟨rfl,rfl⟩,?_,.any _,?_⟩
      .rw[n,m,j];exact h
      .rw[n,m,j];exact Step.refl _ _ _ _
     .have C:Cells c w (Builtin.zeroCells b.cells len).toList (List.replicate len z).flatten:=by
       have h1:(Builtin.zeroCells b.cells len).toList=(List.replicate len b.cells.toList).flatten:=by unfold Builtin.zeroCells;exact L4 b.cells len (by omega)
       rw[h1];exact Kx _ _ p len
      obtain⟨w',k1,k2,k3⟩:=aiE (P:=P) (o:=off*i.size) h k y N C (by rw[q,<-bg];exact E);rw[q,<-bg]at k2 k3;refine⟨w',?_,_,_,c,⟨rfl,rfl⟩,k2,.any _,k3⟩;obtain⟨O,rfl⟩:=Nat.exists_eq_succ_of_ne_zero s;simp[Builtin.clear_,run_underlying l,B,k1]
    | lJ _ _ _ _ L y ad=>
     refine⟨w,by cases ad<;>simp[Builtin.clear_,run_underlying l],_,_,c,⟨rfl,rfl⟩,?_,.any _,?_⟩
     .rw[n,m,j];exact h
     .rw[n,m,j];exact Step.refl _ _ _ _
   .cases a
  .cases a
 .cases a
theorem aix(h:fO G c H w){al:Al}(X:mj H al){t u ty e:TypeId}{i:TypeInfo}{z:List D}(T:P.underlying t=some (.slice e))(S:P.underlying u=some (.int .i64))(hi:P.info? e=some i)(R:pO P e=some z)(wQ:z.length=i.size)(O:0<i.size)
  {x y d:D} {δ:Dl} {A v:Value} (h1:fr c w A x) (V:fr c w v y) (b:JG e i.size i.bytes z x y al.1=some (d,δ)) :
  ∃r w',(Builtin.append_ #[t,u] ty #[A,v]).run P w = .ok r w'/\iA G c H w (KO H al d δ) r w':=by
 unfold JG at b;split at b
 .rename_i m;split at b
  .rename_i Q;cases b;cases h1;cases V;obtain⟨a,um,Ls,B⟩:=yQ R w;have Cm:i.zero=some a:=by simpa[hi]using Ls
   have I:a.cells.size=i.size:=by have:=(B c w).len;simp at this;omega
   obtain⟨n,rfl⟩:∃n:Nat,m=n:=⟨m.toNat,by omega⟩;obtain⟨Lb,f,F⟩:=Q;simp only[pE]at f F;have E:0<n:=by omega
   have o:n*i.bytes<=140737488355328:=by
    have h1:((n*i.bytes:Nat):Int)<=140737488355328:=by rw[Int.natCast_mul];exact f
    omega
   have Ui:n<=9223372036854775807:=by omega
   have J:=grownCap_ge w n 0 e;have K:=grownCap_le_maxLen w n 0 e (by unfold maxLen;omega);have wn:IntKind.i64.wrap (n:Int)=n:=wrap_i64 (by unfold mX;omega)
   have W:(Builtin.append_ #[t,u] ty #[.slice none 0 0,.int .i64 n]).run P w = .ok (.slice (some ⟨w.heap.size,0,none⟩) n (grownCap w n 0 e))
     (w.drew.alloc (.cells (Builtin.zeroCells a.cells n++Builtin.zeroCells a.cells (grownCap w n 0 e-n)) e)):=by
    have g:¬(n=0):=by omega
    have p:∀w:World,(asInt (.int .i64 (n:Int))).run P w = .ok (n:Int) w:=λw=>by simp[asInt,asIntOf]
    have j:¬((n:Int)<=0):=by omega
    have N:max (n:Int) 0=n:=by omega
    have U:(n:Int).toNat=n:=by omega
    have l:¬(i.size=0):=by omega
    have s:¬((n:Int)<0):=by omega
    have k:¬(281474976710656<(n:Int)*(i.bytes:Int)):=by have:(n:Int)*(i.bytes:Int)<=140737488355328:=f;omega
    have N':¬(281474976710656<Builtin.nextslicecap n 0*i.bytes):=by have:=growslice_fits (old:=0) E o;omega
    have q:¬(9223372036854775807<(n:Int)):=by omega
    simp[Builtin.append_,run_underlying T,run_underlying S,sizeOf,typeInfo,zeroValue,hi,Cm,p,wn,s,k,g,l,N',q,j,N,Question.forced,newRow,grownCap,run_firstCells_none];intro h0;exact absurd h0 (Nat.ne_of_gt (Nat.mul_pos E O))
   refine⟨_,_,W,?_⟩
   have M:Cells c w (Builtin.zeroCells a.cells n).toList (List.replicate n z).flatten:=by
    have h1:(Builtin.zeroCells a.cells n).toList=(List.replicate n a.cells.toList).flatten:=by unfold Builtin.zeroCells;exact L4 a.cells n (by omega)
    rw[h1];exact Kx _ _ B n
   have l:(Builtin.zeroCells a.cells n++Builtin.zeroCells a.cells (grownCap w n 0 e-n)).size=grownCap w n 0 e*i.size:=by simp only[b7,size_zeroCells,I,<-bg];congr 1;omega
   obtain⟨L,e1,e2,e3,e4,Z,Y⟩:=Cz h w.drew (jy.drew w) e _ (List.replicate n z).flatten (Builtin.zeroCells a.cells n).size (Builtin.zeroCells a.cells n++Builtin.zeroCells a.cells (grownCap w n 0 e-n)) (X _).sS M (by
    simp only[cT]
    exact List.take_left' (by simp)) (by simp only[b7];omega)
   have C:=FN (c:=c) (w:=w.drew.alloc (.cells (Builtin.zeroCells a.cells n++Builtin.zeroCells a.cells (grownCap w n 0 e-n)) e)) e1 e3 al.1 0 i.size n (grownCap w n 0 e) (by rw[e4,l]) J K;rw[e2]at C;exact⟨_,_,_,⟨rfl,rfl⟩,Z,C,Y⟩
  .cases b
 .cases b
theorem aiY(h:fO G c H w){al:Al}{x d:D}{δ:Dl}{u:Value}{ty:TypeId}(o:fr c w u x)(f:Qb x H=some (d,δ)):∃r w',(Instr.next u true ty).run P w = .ok r w'/\iA G c H w (KO H al d δ) r w':=by
 unfold Qb at f;split at f
 .rename_i v;split at f
  .rename_i s p a
   cases o with
   | ptr _ _ _ L m l=>
    have j:=h.ob v _ a;simp only[Ob.gen]at j;rw[m]at j;simp only[gA]at j;obtain⟨_,k,e⟩:=j;have q:=(aJ.1 e).1;rw[k]
    by_cases g:p<s.size
    .rw[if_pos g]at f;cases f
     obtain⟨m1,m2⟩:=yW h a rfl rfl (ob':=.q' s (p+(Utf8.decode s p).2)) rfl m l (.stringIter s (p+(Utf8.decode s p).2)) (λw' n _=>by simp only[gA];exact⟨l,k,n⟩)
     refine⟨.tuple #[.bool true,goInt p,.int .i32 (Utf8.decode s p).1],_,?_,_,_,c,⟨rfl,rfl⟩,m1,?_,m2⟩
     .simp[Instr.next,getObj,setObj,Sem.run,e,g]
     .refine .tup [.bool true,goInt p,.int .i32 (Utf8.decode s p).1] _ rfl λi v d a b=>?_
      match i,a,b with
      | 0,a,b=>cases a;cases b;exact .val _
      | 1,a,b=>cases a;cases b;exact .val _
      | 2,a,b=>cases a;cases b;exact .val _
    .rw[if_neg g]at f;cases f;refine⟨.tuple #[.bool false],w,?_,_,_,c,⟨rfl,rfl⟩,h,?_,Step.refl _ _ _ _⟩
     .simp[Instr.next,getObj,Sem.run,e,g]
     .refine .tup [.bool false] _ rfl λi v d a b=>?_
      match i,a,b with
      | 0,a,b=>cases a;cases b;exact .val _
  .cases f
 .cases f
theorem aiJ(h:fO G c H w){x d:D}{u:Value}(J:fr c w u x)(b:Kj x H=some d):∃r,(Instr.entry u).run P w = .ok r w/\fr c w r d:=by
 unfold Kj at b;split at b
 .rename_i v;split at b
  .rename_i m since seen f;split at b
   .rename_i kk es i K C;split at b
    .rename_i k d0 y;split at b
     .rename_i l;cases b;have z:=sI K;dsimp only at z
      cases J with
      | ptr _ _ _ L N V=>
       have q:=h.ob v _ f;simp only[Ob.gen]at q;rw[N]at q;simp only[gA]at q;obtain⟨_,F,W,S,o⟩:=q
       cases S with
       | fV _ Y T X=>
        have p:=h.ob m _ z;simp only[Ob.gen]at p;rw[T]at p;simp only[gA]at p;obtain⟨_,E,a,g,R,B,A,Q⟩:=p;have hi:i<a.size:=by rw[B];exact(ae.1 y).1
        have O:a[i]? = some a[i]:=by simp[hi]
        obtain⟨q1,q2,q3⟩:=A i _ _ O y;have s:seen.toArray.back? = some i:=by simpa[Array.back?_eq_getElem?,List.getLast?_eq_getElem?]using C
        have t:a.find? (λe=>e.born == i)=some a[i]:=by
         rw[Array.find?_eq_some_iff_getElem];refine⟨by simp[q3],i,hi,rfl,λj U=>?_⟩;have I:j<es.length:=by rw[<-B];omega
         have:=(A j a[j] es[j] (by simp) (by simp[I])).2.2;simp[this]
         try omega
        refine⟨.tuple #[k,a[i].val],?_,?_⟩
        .rw[F];have M:g=since:=by rw[Q,l]
         subst M;simp only[aL];simp only[Instr.entry,getObj,Sem.run_bind,Sem.run,o,Result.andThen_ok,s,R,t];simp[q1]
        .refine .tup [k,a[i].val] _ rfl λj v d f n=>?_
         match j,f,n with
         | 0,f,n=>cases f;cases n;exact Xl (E _ (List.mem_of_getElem? y))
         | 1,f,n=>cases f;cases n;exact q2
     .cases b
    .cases b
   .cases b
  .cases b
 .cases b
theorem ai1(h:fO G c H w){al:Al}(v:mj H al){t:TypeId}{k e:TypeId}(o:P.underlying t=some (.map k e)){x d:D}{δ:Dl}{u:Value}(p:fr c w u x)(b:FY x H al.1=some (d,δ)) :
  ∃r w',(Instr.range t u).run P w = .ok r w'/\iA G c H w (KO H al d δ) r w':=by
 unfold FY at b;split at b
 .rename_i m;split at b
  .rename_i kk es q;cases b;have j:=sI q;dsimp only at j
   cases p with
   | fV _ g l y=>
    have f:=h.ob m _ j;simp only[Ob.gen]at f;rw[l]at f;simp only[gA]at f;obtain⟨_,_,i,a,A,C,B,z⟩:=f
    obtain⟨k1,k2,k3⟩:=LM h v (.mapIter (some g.b) a #[] a) (.iM (.fV m) es.length []) rfl rfl (λn s=>by
     simp only[gA];refine⟨trivial,trivial,g.b,n _ _ (.fV m g l y),?_⟩
     rw[<-z];exact s)
    exact⟨_,_,run_range_map w t k e g.b i a o A,_,_,_,⟨rfl,rfl⟩,k1,k2,k3⟩
  .cases b
 .cases b
theorem TP{kv:Value}:∀ {l:List MapEntry} {i n:Nat} {v:Value},mQ kv l i=some (n,v)->i<=n
 | [],_,_,_,h=>by cases h
 | a::l,i,n,v,h=>by
  unfold mQ at h;split at h
  .cases h;exact Nat.le_refl _
  .have:=TP h;omega
theorem TQ{kv:Value}:∀ {l:List MapEntry} {i j:Nat} {v:Value} {e:MapEntry},mQ kv l i=some (i+j,v)->l[j]? = some e->e.val=v
 | [],_,_,_,_,h,_=>by cases h
 | a::l,i,j,v,e,h,he=>by
  unfold mQ at h;split at h
  .simp only[ak,dh]at h;obtain⟨h1,rfl⟩:=h;have:j=0:=by omega
   subst this;cases he;rfl
  .cases j with
   | zero=>exact absurd (TP h) (by omega)
   | succ j=>exact TQ (i:=i+1) (j:=j) (by rw[h];congr 2;omega) he
theorem Wh(kv:Value):∀(l:List MapEntry) (es:List (Value×D)) (i:Nat),l.length=es.length ->
  (∀(j:Nat) (e:MapEntry) (x:Value×D),l[j]? = some e->es[j]? = some x->e.key=x.1/\fr c w e.val x.2) ->
  (mQ kv l i=none/\w5 kv es i=none)\/∃j v d,mQ kv l i=some (i+j,v)/\w5 kv es i=some (i+j,d)/\fr c w v d
 | [],[],i,_,_=>.inl ⟨rfl,rfl⟩
 | e::l,(k,d)::es,i,hl,h=>by
  obtain⟨b,m⟩:=h 0 e (k,d) rfl rfl;dsimp only at b m
  by_cases a:mJ kv e.key=true
  .exact .inr ⟨0,e.val,d,by simp[mQ,a],by simp[w5,<-b,a],m⟩
  .have g:mJ kv k=false:=by rw[<-b];simpa using a
   rcases Wh kv l es (i+1) (by simpa using hl) (λj e x a n=>h (j+1) e x (by simpa using a) (by simpa using n))with⟨h1,f⟩|⟨j,v,d',h1,f,o⟩
   .exact .inl ⟨by simp[mQ,a,h1],by simp[w5,g,f]⟩
   .exact .inr ⟨j+1,v,d',by simp[mQ,a,h1];omega,by simp[w5,g,f];omega,o⟩
theorem aiU(h:fO G c H w){al:Al}{t k e:TypeId}{kk:KK}{z:D}(hu:P.underlying t=some (.map k e))(W:tj P k=some kk)(I:C4 P e=some z){m x d:D}{δ:Dl}{u v:Value}(h1:fr c w u m)(h2:fr c w v x)
  (A:wZ kk z m x H=some (d,δ)):∃r w',(Instr.mapEntry t u v).run P w = .ok r w'/\iA G c H w (KO H al d δ) r w':=by
 have O5:(kk = .str\/kk = .bool\/∃k,kk = .int k)\/∃l,kk = .ints l:=by
  obtain⟨d,_,hc⟩:=MI W;rcases hc with⟨k,_,rfl⟩|⟨_,rfl⟩|⟨_,rfl⟩|⟨_,l,_,rfl,_⟩
  .exact .inl (.inr (.inr ⟨k,rfl⟩))
  .exact .inl (.inl rfl)
  .exact .inl (.inr (.inl rfl))
  .exact .inr ⟨l,rfl⟩
 obtain⟨E,um,Fa⟩:∃E,(zeroValue e).run P w = .ok E w/\fr c w E z:=by
  unfold C4 at I
  cases hi:P.info? e with
  | none=>simp[hi]at I
  | some i=>
   simp only[hi,Option.bind_some]at I
   cases Am:i.zero with
   | none=>simp[Am]at I
   | some E=>
    simp only[Am,Option.bind_some]at I;exact⟨E,by simp[zeroValue,run_typeInfo hi,Am],Qz I⟩
 unfold wZ at A;split at A
 .rename_i v0 kv EG;split at A
  .rename_i M es X;split at A
   .rename_i iI;obtain⟨rfl,K⟩:=iI;have s:=PF h2 EG;subst s
    cases h1 with
    | fV _ L fD N=>
     have O:=h.ob v0 _ (sI X);simp only[Ob.gen]at O;rw[fD]at O;simp only[gA]at O;obtain⟨_,su,g,f,Z,n⟩:=O;have Er:=PZ n su;have zT:=run_findKey W K g.toList Er w;have qp:=run_checkKey (w:=w) W false K;have pz:(getObj L.b).run P w = .ok (.map g f) w:=by simp[getObj,Sem.run,Z]
     have ED:∀y',∀x∈lI es v y',M.has x.1=true:=λy' x o=>by
      rcases Wi x o with h|rfl
      .exact su x h
      .exact K
     have Y:∀(j:Nat) (e:MapEntry) (x:Value×D),g.toList[j]? = some e->es[j]? = some x->e.key=x.1/\fr c w e.val x.2:=λj e x y o=>let ⟨a,b,_⟩:=n.2.1 j e x (by simpa using y) o;⟨a,b⟩
     have B:g.toList.length=es.length:=by simpa using n.1
     rcases Wh (c:=c) (w:=w) v g.toList es 0 B Y with⟨Q,g2⟩|⟨j0,R,d0,Q,g2,g3⟩
     .rw[g2]at A;cases A;rcases Ea (c:=c) (w:=w) v g.toList es 0 B Y with⟨f1,f2,f3⟩|⟨j,val,d,f1,f2,_⟩
      .have gL:(Instr.mapEntry t (.map (some L.b)) v).run P w = .ok (.tuple #[E,goInt f]) { w with heap:=w.heap.setIfInBounds L.b (.map (g.push { key:=v,val:=E,born:=f }) (f+1)) }:=by simp only[Instr.mapEntry,Sem.run_bind,run_underlying hu,Result.andThen_ok,pz,qp,zT,f1,um];simp[setObj,Sem.run,Z]
       obtain⟨m1,m2⟩:=yW h (sI X) rfl rfl rfl fD N (.map (g.push { key:=v,val:=E,born:=f }) (f+1)) (ob':=.map M (lI es v z)) (by
        intro w' V J;simp only[gA];refine⟨N,ED z,_,_,V,?_⟩;rw[f3];refine⟨by simp[n.1],λi e x y o=>?_,by simp[n.2.2]⟩;rw[dZ]at y;split at y
        .rename_i hi;cases y;rw[ai (by rw[hi,n.1];exact Nat.le_refl _),hi,n.1]at o;simp at o;subst o;exact⟨rfl,J _ _ Fa,by rw[hi,n.1,n.2.2]⟩
        .have hi:i<es.length:=by rw[<-n.1];exact(aJ.1 y).1
         rw[ah hi]at o;obtain⟨p,q,r⟩:=n.2.1 i e x y o
         exact⟨p,J _ _ q,r⟩)
       refine⟨_,_,gL,_,_,c,⟨rfl,rfl⟩,m1,.tup [E,goInt f] _ rfl (λi v d s C=>?_),m2⟩
       match i,s,C with
       | 0,s,C=>cases s;cases C;exact Fa.oW h.toHeapOK m2
       | 1,s,C=>cases s;cases C;rw[n.2.2];exact .val _
      .rw[Q]at f1;cases f1
     .rw[g2]at A;cases A;rcases Ea (c:=c) (w:=w) v g.toList es 0 B Y with⟨f1,f2,f3⟩|⟨j,val,d,f1,f2,_,f4,f5,F,f6,f7⟩
      .rw[Q]at f1;cases f1
      .have S:0+j0=0+j/\R=val:=by rw[Q]at f1;simp only[ak,dh]at f1;exact f1
       obtain⟨S,rfl⟩:=S;have S:j0=j:=by omega
       subst S;have mu:j0<g.size:=by simpa using f4
       have U:g[j0]? = some F:=by simpa using f6
       have OQ:M.has F.key=true:=Er F (List.mem_of_getElem? f6)
       have Pf:(Instr.keyThatStays F.key v).run P w = .ok v w:=by simp[Instr.keyThatStays,XL O5 K OQ f7]
       have UX:j0<es.length:=by rw[<-n.1];exact mu
       have T:F.val=R/\F.born=j0:=by refine⟨?_,(n.2.1 j0 F es[j0] U (by simp[UX])).2.2⟩;exact TQ (kv:=v) (i:=0) f1 f6
       have gL:(Instr.mapEntry t (.map (some L.b)) v).run P w = .ok (.tuple #[R,goInt (j0:Nat)]) { w with heap:=w.heap.setIfInBounds L.b (.map (g.modify j0 λe=>{ e with key:=v }) f) }:=by simp only[Instr.mapEntry,Sem.run_bind,run_underlying hu,Result.andThen_ok,pz,qp,zT,f1,aL,U,aD,aO,Pf,T.2];simp[setObj,Sem.run,Z]
       obtain⟨m1,m2⟩:=yW h (sI X) rfl rfl rfl fD N (.map (g.modify j0 λe=>{ e with key:=v }) f) (ob':=.map M (lI es v d0)) (by
        intro w' V J;simp only[gA];refine⟨N,ED d0,_,_,V,?_⟩;rw[f5];refine⟨by simp[n.1],λi e x y o=>?_,by simp[n.2.2]⟩;rw[aW]at y;rw[bK]at o;split at y
        .rename_i hi;subst hi;rw[if_pos rfl,if_pos UX]at o;simp only[aj]at y;obtain⟨e0,h0,rfl⟩:=y;cases o;rw[U]at h0;cases h0;exact⟨rfl,J _ _ (by rw[T.1];exact g3),T.2⟩
        .rename_i hi;rw[if_neg hi]at o;obtain⟨p,q,r⟩:=n.2.1 i e x y o
         exact⟨p,J _ _ q,r⟩)
       refine⟨_,_,gL,_,_,c,⟨rfl,rfl⟩,m1,.tup [R,goInt (j0:Nat)] _ rfl (λi v d s C=>?_),m2⟩
       match i,s,C with
       | 0,s,C=>cases s;cases C;exact g3.oW h.toHeapOK m2
       | 1,s,C=>cases s;cases C;rw[aL];exact .val _
   .cases A
  .cases A
 .cases A
theorem aiI(h:fO G c H w){al:Al}{t:TypeId}{m s x d:D}{δ:Dl}{u v l:Value}(h1:fr c w u m)(U:fr c w v s)(T:fr c w l x)
  (f:zk m s x H=some (d,δ)):∃w',(Instr.entryStore t u v l).run P w = .ok () w'/\iA G c H w (KO H al d δ) undef w':=by
 unfold zk at f;split at f
 .rename_i v0 n;split at f
  .rename_i kk es F;split at f
   .rename_i E X hg;split at f
    .rename_i S;cases f;cases U
     cases h1 with
     | fV _ L M K=>
      have z:=h.ob v0 _ (sI F);simp only[Ob.gen]at z;rw[M]at z;simp only[gA]at z;obtain⟨_,C,b,a,J,k⟩:=z;have B:n.toNat<es.length:=(ae.1 hg).1;have N:n.toNat<b.size:=by rw[k.1];exact B
      have A:b.findIdx? (λe=>(e.born:Int) == n)=some n.toNat:=by
       rw[Array.findIdx?_eq_some_iff_getElem];refine⟨N,?_,λj Z=>?_⟩
       .have:=(k.2.1 n.toNat b[n.toNat] es[n.toNat] (by simp[N]) (by simp[B])).2.2;rw[this];have e:((n.toNat:Nat):Int)=n:=bS S;rw[e];simp
       .have R:j<es.length:=by omega
        have:=(k.2.1 j b[j] es[j] (by simp) (by simp[R])).2.2;rw[this];simp;omega
      have O:(getObj L.b).run P w = .ok (.map b a) w:=by simp[getObj,Sem.run,J]
      have Y:(asInt (.int .i64 n)).run P w = .ok n w:=by simp[asInt,asIntOf]
      have V:(Instr.entryStore t (.map (some L.b)) (.int .i64 n) l).run P w = .ok () { w with heap:=w.heap.setIfInBounds L.b (.map (b.modify n.toNat λe=>{ e with val:=l }) a) }:=by simp only[Instr.entryStore,Sem.run_bind,Result.andThen_ok,O,Y,A];simp[setObj,Sem.run,J]
      obtain⟨m1,m2⟩:=yW h (sI F) rfl rfl rfl M K (.map (b.modify n.toNat λe=>{ e with val:=l }) a) (ob':=.map kk (es.set n.toNat (E,x))) (by
       intro w' Q I;simp only[gA];refine⟨K,λy g=>?_,_,_,Q,?_⟩
       .rcases dm g with g|rfl
        .exact C y g
        .exact C (E,X) (List.mem_of_getElem? hg)
       refine⟨by simp[k.1],λi e y o g=>?_,by simp[k.2.2]⟩;rw[aW]at o;rw[bK]at g;split at o
       .rename_i hi;subst hi;rw[if_pos rfl,if_pos B]at g;cases g;simp only[aj]at o;obtain⟨W,h0,rfl⟩:=o;obtain⟨p,q,r⟩:=k.2.1 _ W _ h0 hg;exact⟨p,I _ _ T,r⟩
       .rename_i hi;rw[if_neg hi]at g;obtain⟨p,q,r⟩:=k.2.1 i e y o g
        exact⟨p,I _ _ q,r⟩)
      exact⟨_,V,_,_,c,⟨rfl,rfl⟩,m1,.any _,m2⟩
    .cases f
   .cases f
  .cases f
 .cases f
theorem akt(h:fO G c H w)(l:kc c w env a){al:Al}(N:mj H al){o:Oper}{R:gZ}(b:ru P G o=some R){d:D}{δ:Dl}(g:lL env H al.1 R=some (d,δ)) :
  ∃v w',Bm ((execOp a.eval o).run P w) v w'/\iA G c H w (KO H al d δ) v w':=by
 have plain:∀ {v:Value} {d:D},fr c w v d->iA G c H w (KO H al d .no) v w:=λq=>⟨_,_,c,⟨rfl,rfl⟩,h,q,Step.refl _ _ _ _⟩;unfold ru at b;split at b
 .rename_i t x y ty f;split at b
  .rename_i n;simp only[aj]at b;obtain⟨X,hX,rfl⟩:=b
   have L:y = .const (.slice none 0 0):=by
    have:=n.2;unfold J5 at this;split at this
    .rfl
    .cases this
   subst L;obtain⟨C,rfl⟩:=lH g;obtain⟨r,h1,j⟩:=WN h n.1 (ia h l hX) C x (.const (.slice none 0 0));exact⟨r,w,by simp only[execOp,f];exact iZ h1,plain j⟩
  .cases b
 .rename_i t x y ty f;split at b
  .rename_i n;simp only[aj]at b;obtain⟨X,hX,rfl⟩:=b
   have L:y = .const (.slice none 0 0):=by
    have:=n.2;unfold J5 at this;split at this
    .rfl
    .cases this
   subst L;obtain⟨C,rfl⟩:=lH g;obtain⟨r,h1,j⟩:=WN h n.1 (ia h l hX) C x (.const (.slice none 0 0));exact⟨r,w,by simp only[execOp,f];exact iZ h1,plain j⟩
  .cases b
 .rename_i t x f;split at b
  .rename_i X p hX;cases b;simp only[lL]at g;split at g
   .rename_i s hs;cases g;have q:=ia h l hX;rw[hs]at q;generalize Q:a.eval x=u at q;cases q;obtain⟨k1,k2,k3⟩:=LM h N (.stringIter s 0) (.q' s 0) rfl rfl (λ_ U=>by simp only[gA];exact⟨trivial,trivial,U⟩);refine⟨_,_,by simp only[execOp,f,Q];exact iZ (v:=.pointer (some ⟨w.heap.size,0,none⟩)) (w':=w.alloc (.stringIter s 0)) (by simp[Instr.range,run_underlying p]),_,_,_,⟨rfl,rfl⟩,k1,k2,k3⟩
   .cases g
  .rename_i k e X p hX;cases b;obtain⟨r,w',h1,j⟩:=ai1 (P:=P) h N p (ia h l hX) g;exact⟨r,w',by simp only[execOp,f];exact iZ h1,j⟩
  .cases b
 .rename_i x f;simp only[aj]at b;obtain⟨X,hX,rfl⟩:=b;obtain⟨r,w',h1,j⟩:=aiY (P:=P) (ty:=o.type) h (ia h l hX) g;exact⟨r,w',by simp only[execOp,f];exact iZ h1,j⟩
 .simp only[aj]at b;obtain⟨X,hX,rfl⟩:=b;cases g
 .rename_i x f;simp only[aj]at b;obtain⟨X,hX,rfl⟩:=b;obtain⟨C,rfl⟩:=lH g;obtain⟨r,h1,j⟩:=aiJ (P:=P) h (ia h l hX) C;exact⟨r,w,by simp only[execOp,f];exact iZ h1,plain j⟩
 .rename_i cl f;split at b
  .rename_i t x F E B;split at b
   .rename_i O;simp only[aj]at b;obtain⟨X,hX,rfl⟩:=b;have A:cl.argTypes = #[t]:=by rw[<-bF (xs:=cl.argTypes),E]
    have K:cl.args = #[x]:=by rw[<-bF (xs:=cl.args),B]
    have q:=ia h l hX;simp only[lL]at g;split at g
    .rename_i S;cases g;rw[S]at q;generalize Q:a.eval x=u at q;cases q
     have W:∃e,P.underlying t=some (.slice e):=by
      unfold CT at O;split at O
      .exact⟨_,by assumption⟩
      .cases O
     obtain⟨e,p⟩:=W;refine⟨.int .i64 0,w,by rw[vG f F,A,K];exact iZ (by simp[Q,Builtin.cap_,run_underlying p,goInt]),plain (.val _)⟩
    .cases g
   .cases b
  .rename_i t x F E B;have A:cl.argTypes = #[t]:=by rw[<-bF (xs:=cl.argTypes),E]
   have K:cl.args = #[x]:=by rw[<-bF (xs:=cl.args),B]
   split at b
   .rename_i e p;split at b
    .rename_i z i X I hi hX;split at b
     .rename_i n;cases b;obtain⟨w',h1,j⟩:=aiF (P:=P) (al:=al) (ty:=o.type) h p hi I n.1 n.2 (ia h l hX) g;exact⟨_,w',by rw[vG f F,A,K];exact iZ (by simpa using h1),j⟩
     .cases b
    .cases b
   .cases b
  .rename_i t u x y F E B;have A:cl.argTypes = #[t,u]:=by rw[<-bF (xs:=cl.argTypes),E]
   have K:cl.args = #[x,y]:=by rw[<-bF (xs:=cl.args),B]
   split at b
   .rename_i e p M;split at b
    .rename_i z i X Y I hi hX J;split at b
     .rename_i n;cases b;obtain⟨r,w',h1,j⟩:=aix (P:=P) (ty:=o.type) h N p M hi I n.1 n.2 (ia h l hX) (ia h l J) g;exact⟨r,w',by rw[vG f F,A,K];exact iZ (by simpa using h1),j⟩
     .cases b
    .cases b
   .cases b
  .cases b
 .rename_i t m k f;split at b
  .rename_i kt e p;split at b
   .rename_i kk z X Y T I hX J;cases b;obtain⟨r,w',h1,j⟩:=aiU (P:=P) (al:=al) h p T I (ia h l hX) (ia h l J) g;exact⟨r,w',by simp only[execOp,f];exact iZ h1,j⟩
   .cases b
  .cases b
 .rename_i t m s x f;split at b
  .rename_i X Y Z hX J V;cases b;obtain⟨w',h1,j⟩:=aiI (P:=P) (al:=al) (t:=t) h (ia h l hX) (ia h l J) (ia h l V) g;exact⟨_,w',by simp only[execOp,f];exact GC h1,j⟩
  .cases b
 .cases b
end
end Go.AL
namespace Go.AL
open Go
abbrev FW(ro:Option Nat):Fence:={ Fence.wide with round:=ro }
theorem DO{a:Option Nat}{n:Nat}{P:Program}{f:FuncId}{args:Array Value}{w:World}{R:Ending->World->Prop}:CallsIn (FW a) n P f args w R↔Calls P f args w R:=
 callsIn_wide (n:=n)
inductive qk(c:Ctx):List Nat->List Deferred->Prop
 | nil:qk c [] []
 | cons {v:Nat} {vs:List Nat} {ds:List Deferred} (L:Loc) (h1:c.ι v 0=some L) (h2:L.jg=false) (h:qk c vs ds):qk c (v::vs) ({ target:=.collected L.b,args:=#[] }::ds)
theorem qk.mono{c c':Ctx}(d:∀v L,c.ι v 0=some L->c'.ι v 0=some L){vs:List Nat}{ds:List Deferred}(h:qk c vs ds):qk c' vs ds:=by
 induction h with
 | nil=>exact .nil
 | cons L h1 b _ a=>exact .cons L (d _ _ h1) b a
structure kr(G:GT)(N:Nat)(c:Ctx)(w:World)(s:St)(a:Act):Prop where
 ft:fO G c s.H w
 env:kc c w s.env.get a
 size:N<=a.tmps.size
 marks:qk c s.marks a.defers
def r8(N:Nat):Option Tmp->Bool
 | some d=>decide (d<N)
 | none=>true
def Ni(P:Program)(G:GT)(o:Oper):Option gZ:=match mE P G o with
 | some op=>some op
 | none=>ru P G o
def uY(P:Program)(G:GT)(N:Nat)(ops:Array Oper)(o:Oper):Option gy:=
 match Ni P G o with
 | none=>none
 | some op=>if r8 N o.dst=true then(match o.guard with
   | none=>some ⟨o.dst,op,none⟩
   | some (j,want)=>match (ops[j]?).bind (·.dst)with
    | some t=>some ⟨o.dst,op,some (t,want)⟩
    | none=>none)else none
def oF(P:Program)(G:GT)(N:Nat)(ops:Array Oper):List Oper->Option (List gy)
 | []=>some []
 | o::r=>match uY P G N ops o,oF P G N ops r with
  | some e,some l=>some (e::l)
  | _,_=>none
section
variable{P:Program}{G:GT}{c:Ctx}{w:World}{env:gj}{a:Act}{N:Nat}
theorem ajq{env:Env}{a:Act}{c:Ctx}{w:World}(b:kc c w env.get a)(hN:N<=a.tmps.size){dst:Option Tmp}(f:r8 N dst=true){v:Value}{d:D}(h:fr c w v d) :
  kc c w (put env dst d).get (a.put dst v):=by
 cases dst with
 | none=>exact b
 | some t=>
  have g:t<a.tmps.size:=aI (by simpa[r8]using f) hN;intro k;simp only[put,Env.u9,Act.put];split
  .simp_all
  .rename_i e;have:(a.tmps.setIfInBounds t v).getD k undef=a.tmps.getD k undef:=by simp_all
   rw[this];exact b k
theorem W5{a:Act}{dst:Option Tmp}{v:Value}:(a.put dst v).tmps.size=a.tmps.size:=by cases dst<;>simp[Act.put]
theorem put_defers{a:Act}{dst:Option Tmp}{v:Value}:(a.put dst v).defers=a.defers:=by cases dst<;>rfl
theorem kc.carry{c c':Ctx}{w w':World}(h:∀v d,fr c w v d->fr c' w' v d)(b:kc c w env a):kc c' w' env a:=λk=>h _ _ (b k)
theorem kr.next{c':Ctx}{w':World}{H':U}{s:St}(hs:kr G N c w s a)(ft:fO G c' H' w')(e:Step s.H.length c s.H w c' H' w'){dst:Option Tmp}(g:r8 N dst=true)
  {v:Value} {d:D} (f:fr c' w' v d):kr G N c' w' { s with env:=put s.env dst d,H:=H' } (a.put dst v) where
 ft:=ft
 env:=ajq (hs.env.carry λ_ _ h=>h.oW hs.ft.toHeapOK e) hs.size g f
 size:=by rw[W5];exact hs.size
 marks:=by
  rw[put_defers];refine hs.marks.mono λv L h=>e.old v 0 L ?_ h;rcases bw v s.H.length with b|b
  .exact b
  .rw[hs.ft.out v 0 b]at h;cases h
theorem tC(p:kc c w env a){ops:Array Oper}{o:Oper}{g:Option (Nat×Bool)}(hg:match o.guard with
   | none=>g=none
   | some (j,d)=>∃t,(ops[j]?).bind (·.dst)=some t/\g=some (t,d)) {b:Bool} (h:guardOf env g=some b):Region.wanted o (yielded ops a.tmps)=b:=by
 unfold Region.wanted;split at hg
 .rename_i l;subst hg;simp only[guardOf,ak]at h;simp[l,h]
 .rename_i j d l;obtain⟨t,n,rfl⟩:=hg;simp only[guardOf]at h;split at h
  .rename_i x m;cases h;have f:=p t;rw[m]at f;generalize e:a.tmps.getD t undef=v at f;cases f
   have i:a.tmps[t]? = some (.bool x):=by
    rw[cJ]at e
    cases k:a.tmps[t]? with
    | none=>rw[k]at e;simp[undef]at e
    | some q=>rw[k]at e;simpa using e
   simp only[l,yielded,n,Option.bind_some,i];cases x<;>cases d<;>rfl
  .rename_i vs m;cases h;have f:=p t;rw[m]at f;generalize e:a.tmps.getD t undef=v at f;cases f
   have i:a.tmps[t]? = some (.tuple vs)\/a.tmps[t]? = none:=by
    rw[cJ]at e
    cases k:a.tmps[t]? with
    | none=>exact .inr rfl
    | some q=>rw[k]at e;exact .inl (by simpa using e)
   rcases i with i|i<;>simp only[l,yielded,n,Option.bind_some,i]<;>cases d<;>rfl
  .cases h
theorem SS{o:Oper}{op:gZ}(h:Ni P G o=some op):mE P G o=some op\/ru P G o=some op:=by
 unfold Ni at h;split at h
 .grind
 .exact .inr h
theorem SP{o:Oper}{a:gZ}(b:mE P G o=some a\/ru P G o=some a){f:gj}{H:U}{n:Nat}{r:D×Dl}(h:gf f H n a=some r):mE P G o=some a:=by refine b.resolve_right λc=>?_;rw[akF (Nj c)]at h;cases h
theorem DT{o:Oper}{a:gZ}(b:mE P G o=some a\/ru P G o=some a){f:gj}{r:FuncId×List D}(h:jS f a=some r):mE P G o=some a:=by refine b.resolve_right λc=>?_;rw[akG (Nj c)]at h;cases h
theorem xO{ops:Array Oper}{o:Oper}{e:gy}(h:uY P G N ops o=some e) :
  (mE P G o=some e.op\/ru P G o=some e.op)/\e.dst=o.dst/\(r8 N o.dst=true)/\(match o.guard with
   | none=>e.guard=none
   | some (j,a)=>∃t,(ops[j]?).bind (·.dst)=some t/\e.guard=some (t,a)):=by
 unfold uY at h;split at h
 .cases h
 .rename_i op c;split at h
  .rename_i b;split at h
   .rename_i hg;cases h;exact⟨SS c,rfl,b,by simp[hg]⟩
   .rename_i j a hg;split at h
    .rename_i t d;cases h;exact⟨SS c,rfl,b,t,d,rfl⟩
    .cases h
  .cases h
theorem AA{o:Oper}{a:gZ}(h:mE P G o=some a):∀c,o.op≠.defer c:=by intro c b;simp[mE,b]at h
theorem Wz{o:Oper}{a:gZ}(h:ru P G o=some a):∀c,o.op≠.defer c:=by intro c b;simp[ru,b]at h
theorem ak4{e:Option Nat}{n:Nat}{o:Oper}{s:St}{f:gZ}{d:D}{δ:Dl}{next:Act->World->Prop}{Q:Exit->Act->World->Prop}(hs:kr G N c w s a)(i:ru P G o=some f)
  (p:r8 N o.dst=true) {al:Al} (q:mj s.H al) (h:lL s.env.get s.H al.1 f=some (d,δ))
  (k:∀c' w' l,kr G N c' w' { s with env:=put s.env o.dst d,H:=δ.app s.H al } l->Step s.H.length c s.H w c' (δ.app s.H al) w'->next l w'):o.wpIn (FW e) n P a w next Q:=by
 obtain⟨v,w',b,d',H',c',⟨rfl,rfl⟩,ft,m,j⟩:=akt (P:=P) hs.ft hs.env q i h;refine⟨λ_ _=>trivial,?_⟩;rw[Oper.semAt_plain (FW e) a.eval o (Wz i)];have g:=k c' w' (a.put o.dst v) (hs.next ft j p m) j;rcases b with b|⟨b,rfl⟩
 .rw[b];exact g
 .rw[b];exact g
theorem ak1{ro:Option Nat}{n:Nat}{o:Oper}{s:St}{x:X}{next:Act->World->Prop}{Q:Exit->Act->World->Prop}(hs:kr G N c w s a)(r:ru P G o=some (.nextM x))
  (l:r8 N o.dst=true) {v m since:Nat} {seen:List Nat} {kk:KK} {es:List (Value×D)} (hx:ev s.env.get x = .ptr v 0 0) (g:s.H[v]? = some (.iM (.fV m) since seen)) (hm:s.H[m]? = some (.map kk es)) (mW:es.length=since)
  (k0:(∀i,i<es.length->i∈seen)->∀c' w' C,kr G N c' w' { s with env:=put s.env o.dst (.tup [.b false]) } C->Step s.H.length c s.H w c' s.H w'->next C w')
  (k1:∀i k d,es[i]? = some (k,d)->i ∉ seen->∀c' w' C,kr G N c' w' { s with env:=put s.env o.dst (.tup [.b true,qw k,d]),H:=s.H.set v (.iM (.fV m) since (seen ++ [i])) } C ->
   Step s.H.length c s.H w c' (s.H.set v (.iM (.fV m) since (seen ++ [i]))) w'->next C w'):o.wpIn (FW ro) n P a w next Q:=by
 have gT:∃y,o.op = .next y false/\cX G y=some x:=by
  unfold ru at r
  repeat' split at r
  all_goals first|(cases r;done)|(simp only[aj]at r;obtain⟨_,_,R⟩:=r;cases R;done)|skip
  simp only[aj]at r;obtain⟨X,hX,R⟩:=r;cases R;exact⟨_,by assumption,hX⟩
 obtain⟨y,ho,hX⟩:=gT;have O:=ia hs.ft hs.env hX;rw[hx]at O;generalize hu:a.eval y=u at O
 cases O with
 | ptr _ _ _ L fD gI=>
  have J:=hs.ft.ob v _ g;simp only[Ob.gen]at J;rw[fD]at J;simp only[gA]at J;obtain⟨_,K,bm,Cf,t⟩:=J
  cases Cf with
  | fV _ q An Lp=>
   have F:=hs.ft.ob m _ hm;simp only[Ob.gen]at F;rw[An]at F;simp only[gA]at F;obtain⟨_,su,f,b,EM,gV,M,Ez⟩:=F;have pV:b=since:=by rw[Ez,mW]
   subst pV;refine⟨λ_ _=>trivial,?_⟩;rw[Oper.semAt_plain (FW ro) a.eval o (Wz r)]
   have Z:∀e∈f.toList,e.born<b:=by
    intro e z;obtain⟨i,hi⟩:=aA.1 z;have E:i<es.length:=by rw[<-gV];have:=(ae.1 hi).1;simpa using this
    have:=(M i e es[i] (by simpa using hi) (by simp[E])).2.2;omega
   have Vn:=next_test_false seen.toArray f b b Z (Nat.le_refl _)
   have A:(leftOf f seen.toArray).filter (λe=>decide (e.born<b))=leftOf f seen.toArray:=by apply Array.filter_eq_self.2;intro e z;simp only[decide_eq_true_eq];exact Z e (by simpa using (dL.1 z).1)
   have lF:(leftOf f seen.toArray).filter (λe=>decide (e.born>=b)) = #[]:=by apply Array.filter_eq_empty_iff.2;intro e z;have:=Z e (by simpa using (dL.1 z).1);simp;omega
   have UR:∀w1:World,w1.heap=w.heap->(getObj L.b).run P w1 = .ok (.mapIter (some q.b) b seen.toArray b) w1:=λw1 h1=>by simp[getObj,Sem.run,h1,t]
   have US:∀w1:World,w1.heap=w.heap->(getObj q.b).run P w1 = .ok (.map f b) w1:=λw1 h1=>by simp[getObj,Sem.run,h1,EM]
   have pb:∀e,e∈(leftOf f seen.toArray).toList->∃i k d,es[i]? = some (k,d)/\i ∉ seen/\e.key=k/\fr c w e.val d/\e.born=i:=by
    intro e z
    have vf:e∈f/\(!seen.toArray.contains e.born)=true:=by have:=dL.1 (show e∈leftOf f seen.toArray by simpa using z);exact this
    obtain⟨i,hi⟩:=aA.1 (show e∈f.toList by simpa using vf.1);have E:i<es.length:=by rw[<-gV];have:=(ae.1 hi).1;simpa using this
    obtain⟨q1,q2,q3⟩:=M i e es[i] (by simpa using hi) (by simp[E]);refine⟨i,es[i].1,es[i].2,by simp[E],?_,q1,q2,q3⟩;have:=vf.2;rw[q3]at this;simpa using this
   by_cases I:(leftOf f seen.toArray) = #[]
   .have T:(execOp a.eval o).run P w = .ok (.value (.tuple #[.bool false])) w:=by
     have B:(Instr.next (.pointer (some ⟨L.b,0,none⟩)) false o.type).run P w = .ok (.tuple #[.bool false]) w:=by have EJ:(f.filter λe => !(seen.toArray).contains e.born) = #[]:=I;simp only[Instr.next,Sem.run_bind,UR w rfl,Result.andThen_ok,US w rfl,Vn,bp,if_false,Sem.run_pure,EJ];simp[choose,Sem.run,Question.forced]
     simp only[execOp,ho,hu];rw[K];simp[B]
    rw[T];refine k0 (λi hi=>?_) c w _ (hs.next hs.ft (Step.refl _ _ _ _) l (.tup [.bool false] _ rfl λj v d g l=>?_)) (Step.refl _ _ _ _)
    .by_cases fZ:i∈seen
     .exact fZ
     .exfalso;have zZ:i<f.size:=by omega
      have W:=(M i f[i] es[i] (by simp[zZ]) (by simp[hi])).2.2
      have:f[i]∈leftOf f seen.toArray:=by refine dL.2 ⟨Array.getElem_mem _,?_⟩;rw[W];simpa using fZ
      rw[I]at this;simp at this
    .match j,g,l with
     | 0,g,l=>cases g;cases l;exact .val _
   .have gK:(leftOf f seen.toArray).isEmpty=false:=by
     cases hq:(leftOf f seen.toArray).isEmpty with
     | false=>rfl
     | true=>exact absurd (Array.isEmpty_iff.1 hq) I
    have jB:0<(leftOf f seen.toArray).size:=by
     rcases eu (leftOf f seen.toArray).size with h|h
     .exact absurd (Array.eq_empty_of_size_eq_zero h) I
     .exact h
    have Oy:∃(i:Nat) (w1:World),i<(leftOf f seen.toArray).size/\jy w w1/\w1.heap=w.heap/\(choose (.mapNext (leftOf f seen.toArray).size)).run P w = .ok i w1:=by
     by_cases hf:(Question.mapNext (leftOf f seen.toArray).size).forced=true
     .exact⟨0,w,jB,jy.refl w,rfl,by simp[choose,Sem.run,hf]⟩
     .exact⟨w.tape w.drawn (.mapNext (leftOf f seen.toArray).size) % (leftOf f seen.toArray).size,{ w with drawn:=w.drawn+1 },Nat.mod_lt _ jB,jy.drew w,rfl,by simp[choose,Sem.run,hf,Question.cut]⟩
    obtain⟨i,w1,hi,UT,Y,V⟩:=Oy;obtain⟨p,k,d,h1,B,h3,h4,h5⟩:=pb (leftOf f seen.toArray)[i] (by simp);have wH:=hs.ft.oK UT
    obtain⟨m1,m2⟩:=yW wH g rfl rfl (ob':=.iM (.fV m) b (seen ++ [p])) rfl fD gI (.mapIter (some q.b) b (seen ++ [p]).toArray b) (λw' pC sA=>by
     simp only[gA]
     exact⟨gI,K,q.b,.fV m q An Lp,pC⟩)
    have U:Step s.H.length c s.H w c (s.H.set v (.iM (.fV m) b (seen ++ [p]))) { w1 with heap:=w1.heap.setIfInBounds L.b (.mapIter (some q.b) b (seen ++ [p]).toArray b) }:=(A1 _ UT).trans m2 (Nat.le_refl _)
    have T:(execOp a.eval o).run P w = .ok (.value (.tuple #[.bool true,k,(leftOf f seen.toArray)[i].val])) { w1 with heap:=w1.heap.setIfInBounds L.b (.mapIter (some q.b) b (seen ++ [p]).toArray b) }:=by
     have mz:(setObj L.b (.mapIter (some q.b) b (seen ++ [p]).toArray b)).run P w1 = .ok () { w1 with heap:=w1.heap.setIfInBounds L.b (.mapIter (some q.b) b (seen ++ [p]).toArray b) }:=by simp[setObj,Sem.run,Y,t]
     have B:(Instr.next (.pointer (some ⟨L.b,0,none⟩)) false o.type).run P w = .ok (.tuple #[.bool true,k,(leftOf f seen.toArray)[i].val]) { w1 with heap:=w1.heap.setIfInBounds L.b (.mapIter (some q.b) b (seen ++ [p]).toArray b) }:=by
      have EJ:(f.filter λe => !(seen.toArray).contains e.born)=leftOf f seen.toArray:=rfl;have iQ:((if (leftOf f seen.toArray).isEmpty then #[none]else #[])++(leftOf f seen.toArray ++ #[]).map some)=(leftOf f seen.toArray).map some:=by simp[gK]
      simp only[Instr.next,Sem.run_bind,UR w rfl,Result.andThen_ok,US w rfl,Vn,bp,if_false,Sem.run_pure,EJ,A,lF,iQ,Array.size_map,V];have S:((leftOf f seen.toArray).map some)[i]? = some (some (leftOf f seen.toArray)[i]):=by simp[hi]
      simp only[S,Sem.run_bind];rw[h5,show seen.toArray.push p=(seen ++ [p]).toArray by simp,mz];simp[h3]
     simp only[execOp,ho,hu];rw[K];simp[B]
    rw[T];refine k1 p k d h1 B c _ _ (hs.next m1 U l (.tup [.bool true,k,(leftOf f seen.toArray)[i].val] _ rfl λj v d g l=>?_)) U
    match j,g,l with
    | 0,g,l=>cases g;cases l;exact .val _
    | 1,g,l=>cases g;cases l;exact Xl (su _ (List.mem_of_getElem? h1))
    | 2,g,l=>cases g;cases l;exact h4.oW hs.ft.toHeapOK U
theorem ak2{e:Option Nat}{n:Nat}{o:Oper}{s:St}{f:gZ}{d:D}{δ:Dl}{next:Act->World->Prop}{Q:Exit->Act->World->Prop}(hs:kr G N c w s a)(i:mE P G o=some f)
  (p:r8 N o.dst=true) {al:Al} (q:mj s.H al) (h:gf s.env.get s.H al.1 f=some (d,δ))
  (k:∀c' w' l,kr G N c' w' { s with env:=put s.env o.dst d,H:=δ.app s.H al } l->Step s.H.length c s.H w c' (δ.app s.H al) w'->next l w'):o.wpIn (FW e) n P a w next Q:=by
 obtain⟨v,w',b,d',H',c',⟨rfl,rfl⟩,ft,m,j⟩:=W2 (P:=P) (K:=λd' H'=>d'=d/\H'=δ.app s.H al) hs.ft hs.env q i (Sd h ⟨rfl,rfl⟩);refine⟨λ_ _=>trivial,?_⟩;rw[Oper.semAt_plain (FW e) a.eval o (AA i)];have g:=k c' w' (a.put o.dst v) (hs.next ft j p m) j;rcases b with b|⟨b,rfl⟩
 .rw[b];exact g
 .rw[b];exact g
end
end Go.AL
namespace Go.AL
open Go
section
variable{P:Program}{G:GT}{c:Ctx}{w:World}{env:gj}{a:Act}{N:Nat}
theorem SU{o:Oper}{b:gZ}(a:mE P G o=some b)(h:Fh b=true):∃cl,o.op = .call cl:=by
 unfold mE at a;split at a
 all_goals first|exact⟨_,by assumption⟩|skip
 all_goals exfalso
 all_goals try simp only[ax,ag,aB]at a
 all_goals (repeat' first|(obtain⟨_,_,a⟩:=a)|split at a|simp only[ag]at a)
 all_goals first|(simp[Fh]at h;done)|(cases a<;>simp[Fh]at h)
theorem Mh{H:U}(ft:fO G c H w)(t:kc c w env a){o:Oper}{m:gZ}(b:mE P G o=some m){f:FuncId}{args:List D}(d:jS env m=some (f,args))(s:rz P f=true) :
  ∃vs:List Value,(execOp a.eval o).run P w = .ok (.enter f vs.toArray) w/\iR c w vs args:=by
 have K:=b;unfold mE at b
 cases j:o.op with
 | call cl=>
  simp only[j,ax,ag]at b;obtain⟨xs,B,b⟩:=b;have u:=zb ft t cl.args.toList B;split at b
  .rename_i g l;split at b
   .have r:g=f/\List.map (ev env) xs=args:=by
     cases b;have E:jS env (if G.nw g=true then gZ.callN g xs else gZ.call g xs)=some (g,xs.map (ev env)):=by split<;>rfl
     rw[E]at d;simpa using d
    obtain⟨rfl,rfl⟩:=r;refine⟨_,?_,u⟩;have e:cl.args.map a.eval=(cl.args.toList.map a.eval).toArray:=by cases cl.args;simp
    simp only[execOp,j,resolve,l,Act.eval,Deferred.ofValue,Sem.run_bind,Sem.run_pure,Result.andThen_ok,invoke];rw[<-e];have h:=Mi (P:=P) s (cl.args.map a.eval) w;simpa using h
   .cases b
  .rename_i x L l;simp only[ag,aB,ak]at b;obtain⟨X,hX,rfl⟩:=b;simp only[jS]at d;split at d
   .rename_i k first cap py
    cases d;have p:=ia ft t hX;rw[py]at p;generalize C:a.eval x=v at p
    cases p with
    | fn _ fs cs _ _ J q I F=>
     refine⟨fs++cl.args.toList.map a.eval++cs,?_,((iR.FJ J I).append u).append (iR.FJ q F)⟩;simp only[execOp,j,resolve,l,C,Deferred.ofValue,Sem.run_bind,Sem.run_pure,Result.andThen_ok,invoke];have h:=Mi (P:=P) s (fs.toArray++cl.args.map a.eval++cs.toArray) w;have q:fs.toArray++cl.args.map a.eval++cs.toArray=(fs++cl.args.toList.map a.eval++cs).toArray:=by cases cl.args;simp
     rw[q]at h ⊢;exact h
   .cases d
  .split at b
   .simp only[ag]at b;obtain⟨A,_,b⟩:=b;split at b
    .simp only[ag]at b;obtain⟨i,_,z,_,y,_,b⟩:=b;split at b
     .split at b
      .cases b;cases d
      .cases b
     .cases b
    .cases b
   .cases b
  .split at b
   .simp only[ag]at b;obtain⟨A,_,b⟩:=b;split at b
    .simp only[ag]at b;obtain⟨y,_,b⟩:=b;split at b
     .simp only[ag]at b;obtain⟨n,_,b⟩:=b;split at b
      .cases b;cases d
      .cases b
     .cases b
    .cases b
   .cases b
  .split at b
   .split at b
    .cases b;cases d
    .cases b;cases d
    .cases b;cases d
    .cases b
   .cases b
  .cases b;cases d
  .cases b;cases d
  .cases b
 | _=>
  have h1:Fh m=true:=by unfold jS at d;unfold Fh;split at d<;>first|rfl|cases d
  obtain⟨cl,h⟩:=SU K h1;rw[j]at h;cases h
end
end Go.AL
namespace Go.AL
open Go
abbrev Fp:=Nat×Option (Nat×Nat)
def mC:D->List Fp
 | .fm v _ _ _ _=>[(v,none)]
 | .fV v=>[(v,none)]
 | _=>[]
def tJ(n:Nat):D->List Fp
 | .ptr v _ o=>[(v,some (o,n))]
 | _=>[]
def gi(f:gj)(H:U):gZ->List Fp
 | .ld1 x=>tJ 1 (ev f x)
 | .ldN n x=>tJ n (ev f x)
 | .st1 a _=>tJ 1 (ev f a)
 | .stN n a _=>tJ n (ev f a)
 | .lookup _ _ _ m _=>mC (ev f m)
 | .mapUpd _ m _ _=>mC (ev f m)
 | .len .map x=>mC (ev f x)
 | .b2s x=>mC (ev f x)
 | .slcArr sz n x _ _=>tJ (n*sz) (ev f x)
 | .app _ _ _ x y=>mC (ev f x)++mC (ev f y)
 | .copy _ x y=>mC (ev f x)++mC (ev f y)
 | .call g args=>((args.map (ev f)).map (gN H 40)).flatten.map λv=>(v,none)
 | .callN g args=>((args.map (ev f)).map (gN H 40)).flatten.map λv=>(v,none)
 | .callv g args=>match jS f (.callv g args)with
  | some (_,ds)=>(ds.map (gN H 40)).flatten.map λv=>(v,none)
  | none=>[]
 | _=>[]
def jm(n:Nat):Dl->List Fp
 | .no=>[]
 | .cells v o xs=>[(v,some (o,xs.length))]
 | .obj v _=>[(v,none)]
 | .new _=>[(n,none)]
def sX:Fp->Fp->Bool
 | (v,none),(u,_)=>v != u
 | (v,some _),(u,none)=>v != u
 | (v,some (o,n)),(u,some (p,m))=>v != u||decide (o+n<=p)||decide (p+m<=o)
def sY(a b:List Fp):Bool:=a.all λx=>b.all λy=>sX x y
def Alike(x:Fp)(H1 H2:U):Prop:=
 match x with
 | (v,none)=>H1[v]? = H2[v]?
 | (v,some (o,n))=>H1[v]? = H2[v]?\/∃t g cs ds,H1[v]? = some (.row t g cs)/\H2[v]? = some (.row t g ds)/\cs.length=ds.length/\∀i,o<=i->i<o+n->cs[i]? = ds[i]?
def sT(l:List Fp)(H1 H2:U):Prop:=∀x∈l,Alike x H1 H2
def gY:X->List Nat
 | .t k=>[k]
 | .c _=>[]
def vJ(l:List X):List Nat:=(l.map gY).flatten
def vI:Option X->List Nat
 | some x=>gY x
 | none=>[]
def gE:gZ->List Nat
 | .mv x=>gY x
 | .pick c a b=>gY c++gY a++gY b
 | .box _ x=>gY x
 | .alloc _ _=>[]
 | .build _ ps=>(ps.map λp=>gY p.2.2).flatten
 | .buildSl _ _ _ _ ps=>(ps.map λp=>gY p.2).flatten
 | .ld1 x=>gY x
 | .ldN _ x=>gY x
 | .st1 a x=>gY a++gY x
 | .stN _ a x=>gY a++gY x
 | .nilck x=>gY x
 | .arith _ x y=>gY x++gY y
 | .eqS _ _ _ x y=>gY x++gY y
 | .un _ x=>gY x
 | .conv _ x=>gY x
 | .b2s x=>gY x
 | .mkfn _ a b=>vJ a++vJ b
 | .mkmap _=>[]
 | .mksl _ _ _ _ l c=>gY l++gY c
 | .slc _ x lo hi=>gY x++vI lo++vI hi
 | .slcS x lo hi=>gY x++vI lo++vI hi
 | .slc3 _ x lo hi mx=>gY x++vI lo++gY hi++gY mx
 | .slcArr _ _ x lo hi=>gY x++vI lo++vI hi
 | .fieldA _ x=>gY x
 | .field _ _ _ x=>gY x
 | .idxA _ x i=>gY x++gY i
 | .idxArr _ _ x i=>gY x++gY i
 | .idx _ _ _ x i=>gY x++gY i
 | .idxStr x i=>gY x++gY i
 | .lookup _ _ _ m k=>gY m++gY k
 | .mapUpd _ m k x=>gY m++gY k++gY x
 | .ext x _=>gY x
 | .call _ args=>vJ args
 | .callN _ args=>vJ args
 | .callv f args=>gY f++vJ args
 | .app _ _ _ x y=>gY x++gY y
 | .copy _ x y=>gY x++gY y
 | .len _ x=>gY x
 | .minmax _ xs=>vJ xs
 | .nilS _ x | .capE x | .clr _ _ x | .rangeS x | .nextS x | .rangeM x | .nextM x | .entry x=>gY x
 | .mapEnt _ _ m k=>gY m++gY k
 | .entSt m s x=>gY m++gY s++gY x
 | .appZ _ _ _ _ x n=>gY x++gY n
def FT:gZ->Bool
 | .mv _ | .pick .. | .build .. | .nilck _ | .arith .. | .eqS .. | .un .. | .conv .. | .mkfn .. | .slc .. | .slcS .. | .slc3 .. | .fieldA .. | .field .. | .idxA .. | .idxArr .. | .idx .. | .idxStr .. | .ext .. | .minmax ..
 | .len .slice _ | .len .string _=>true
 | _=>false
def Qu:gZ->Bool
 | .ld1 _ | .ldN .. | .b2s _ | .slcArr .. | .lookup .. | .len .. | .call .. | .callv .. => true
 | op=>FT op
def Mw(a b:gZ):Bool:=FT a||FT b||(Qu a&&Qu b)
section
variable{f f':gj}
theorem zp{x:X}(h:∀t∈gY x,f t=f' t):ev f x=ev f' x:=by
 cases x with
 | t k=>exact h k (by simp[gY])
 | c d=>rfl
theorem zq{l:List X}(h:∀t∈vJ l,f t=f' t):l.map (ev f)=l.map (ev f'):=
 ao λx a=>zp λt b=>h t (aZ.2 ⟨_,au.2 ⟨x,a,rfl⟩,b⟩)
theorem Qm:∀ {l:List (Nat×Nat×X)},(∀t∈(l.map λp=>gY p.2.2).flatten,f t=f' t)->partsOf f l=partsOf f' l
 | [],_=>rfl
 | (o,n,x)::r,h=>by have h1:ev f x=ev f' x:=zp λt a=>h t (by simp[a]);have b:=Qm (l:=r) λt a=>h t (by simp only[List.map_cons,aP,List.mem_append];exact .inr a);simp only[partsOf,h1,b]
theorem vW{x:Option X}{n:Int}(h:∀t∈vI x,f t=f' t):gF f x n=gF f' x n:=by
 cases x with
 | none=>rfl
 | some x=>simp only[gF,zp (x:=x) h]
theorem VA:∀ {l:List X},(∀t∈vJ l,f t=f' t)->p9 f l=p9 f' l
 | [],_=>rfl
 | x::r,h=>by have h1:ev f x=ev f' x:=zp λt a=>h t (by simp[vJ,a]);have b:=VA (l:=r) λt a=>h t (by simp only[vJ,List.map_cons,aP,List.mem_append];exact .inr a);simp only[p9,h1,b]
theorem Sc{op:gZ}(h:∀t∈gE op,f t=f' t)(H:U)(n:Nat):gf f H n op=gf f' H n op:=by
 have e:∀ {x:X},(∀t∈gY x,t∈gE op)->ev f x=ev f' x:=λr=>zp λt d=>h t (r t d);cases op<;>simp only[gf]<;>first|rfl|skip
 case mv x=>rw[e (x:=x) (λt d=>by simpa[gE]using d)]
 case pick c a b=>rw[e (x:=c) (λt d=>by simp[gE,d]),e (x:=a) (λt d=>by simp[gE,d]),e (x:=b) (λt d=>by simp[gE,d])]
 case box x=>rw[e (x:=x) (λt d=>by simpa[gE]using d)]
 case build z ps=>simp only[Br,Qm (f:=f) (f':=f') (l:=ps) (λt d=>h t (by simpa[gE]using d))]
 case buildSl t sz z m ps=>
  have:=Qm (f:=f) (f':=f') (l:=ps.map λp=>(p.1*sz,sz,p.2)) (λt d=>h t (by simpa[gE,cD,eE]using d));simp only[xH,this]
 case ld1 x=>rw[e (x:=x) (λt d=>by simpa[gE]using d)]
 case ldN n x=>rw[e (x:=x) (λt d=>by simpa[gE]using d)]
 case st1 a x=>rw[e (x:=a) (λt d=>by simp[gE,d]),e (x:=x) (λt d=>by simp[gE,d])]
 case stN n a x=>rw[e (x:=a) (λt d=>by simp[gE,d]),e (x:=x) (λt d=>by simp[gE,d])]
 case nilck x=>rw[e (x:=x) (λt d=>by simpa[gE]using d)]
 case arith op x y=>rw[e (x:=x) (λt d=>by simp[gE,d]),e (x:=y) (λt d=>by simp[gE,d])]
 case eqS b ls neg x y=>rw[e (x:=x) (λt d=>by simp[gE,d]),e (x:=y) (λt d=>by simp[gE,d])]
 case un op x=>rw[e (x:=x) (λt d=>by simpa[gE]using d)]
 case conv k x=>rw[e (x:=x) (λt d=>by simpa[gE]using d)]
 case b2s x=>rw[e (x:=x) (λt d=>by simpa[gE]using d)]
 case mkfn g a b=>rw[zq (f:=f) (f':=f') (l:=a) (λt d=>h t (by simp[gE,d])),zq (f:=f) (f':=f') (l:=b) (λt d=>h t (by simp[gE,d]))]
 case mksl t sz M3 z l c=>rw[e (x:=l) (λt d=>by simp[gE,d]),e (x:=c) (λt d=>by simp[gE,d])]
 case slc sz x lo hi=>
  have q:∀n,gF f lo n=gF f' lo n:=λn=>vW λt d=>h t (by simp[gE,d]);have j:∀n,gF f hi n=gF f' hi n:=λn=>vW λt d=>h t (by simp[gE,d]);simp only[sR,q,j,e (x:=x) (λt d=>by simp[gE,d])]
 case slc3 sz x lo hi mx=>
  have q:∀n,gF f lo n=gF f' lo n:=λn=>vW λt d=>h t (by simp[gE,d]);have j:∀n,gF f (some hi) n=gF f' (some hi) n:=λn=>vW λt d=>h t (by simp only[vI]at d;simp[gE,d]);have s:∀n,gF f (some mx) n=gF f' (some mx) n:=λn=>vW λt d=>h t (by simp only[vI]at d;simp[gE,d]);simp only[xf,q,j,s,e (x:=x) (λt d=>by simp[gE,d])]
 case slcArr sz m x lo hi=>
  have q:∀n,gF f lo n=gF f' lo n:=λn=>vW λt d=>h t (by simp[gE,d]);have j:∀n,gF f hi n=gF f' hi n:=λn=>vW λt d=>h t (by simp[gE,d]);simp only[yR,q,j,e (x:=x) (λt d=>by simp[gE,d])]
 case slcS x lo hi=>
  have q:∀n,gF f lo n=gF f' lo n:=λn=>vW λt d=>h t (by simp[gE,d]);have j:∀n,gF f hi n=gF f' hi n:=λn=>vW λt d=>h t (by simp[gE,d]);simp only[Mq,q,j,e (x:=x) (λt d=>by simp[gE,d])]
 case fieldA o x=>rw[e (x:=x) (λt d=>by simpa[gE]using d)]
 case field o n b x=>rw[e (x:=x) (λt d=>by simpa[gE]using d)]
 case idxA sz x i=>rw[e (x:=x) (λt d=>by simp[gE,d]),e (x:=i) (λt d=>by simp[gE,d])]
 case idxArr sz n x i=>rw[e (x:=x) (λt d=>by simp[gE,d]),e (x:=i) (λt d=>by simp[gE,d])]
 case idx sz n b x i=>rw[e (x:=x) (λt d=>by simp[gE,d]),e (x:=i) (λt d=>by simp[gE,d])]
 case idxStr x i=>rw[e (x:=x) (λt d=>by simp[gE,d]),e (x:=i) (λt d=>by simp[gE,d])]
 case lookup kk z ok m k=>rw[e (x:=m) (λt d=>by simp[gE,d]),e (x:=k) (λt d=>by simp[gE,d])]
 case mapUpd kk m k x=>rw[e (x:=m) (λt d=>by simp[gE,d]),e (x:=k) (λt d=>by simp[gE,d]),e (x:=x) (λt d=>by simp[gE,d])]
 case ext x i=>rw[e (x:=x) (λt d=>by simpa[gE]using d)]
 case app t sz M3 x y=>rw[e (x:=x) (λt d=>by simp[gE,d]),e (x:=y) (λt d=>by simp[gE,d])]
 case copy sz x y=>rw[e (x:=x) (λt d=>by simp[gE,d]),e (x:=y) (λt d=>by simp[gE,d])]
 case len k x=>rw[e (x:=x) (λt d=>by simpa[gE]using d)]
 case minmax b xs=>simp only[Cx,VA (f:=f) (f':=f') (l:=xs) (λt d=>h t (by simpa[gE]using d))]
end
end Go.AL
namespace Go.AL
open Go
theorem JS{f f':gj}{op:gZ}(h:∀t∈gE op,f t=f' t):jS f op=jS f' op:=by
 cases op<;>first|rfl|skip
 case call g args=>simp only[jS,zq (f:=f) (f':=f') (l:=args) (λt a=>h t (by simpa[gE]using a))]
 case callN g args=>simp only[jS,zq (f:=f) (f':=f') (l:=args) (λt a=>h t (by simpa[gE]using a))]
 case callv g args=>
  simp only[jS,zq (f:=f) (f':=f') (l:=args) (λt a=>h t (by simp[gE,a])),zp (f:=f) (f':=f') (x:=g) (λt a=>h t (by simp[gE,a]))]
theorem Kz{f f':gj}{op:gZ}(h:∀t∈gE op,f t=f' t)(H:U):gi f H op=gi f' H op:=by
 have c:∀ {x:X},(∀t∈gY x,t∈gE op)->ev f x=ev f' x:=λd=>zp λt b=>h t (d t b);have e:=JS h;cases op<;>simp only[gi]<;>first|rfl|skip
 case ld1 x=>rw[c (x:=x) (λt b=>by simpa[gE]using b)]
 case ldN n x=>rw[c (x:=x) (λt b=>by simpa[gE]using b)]
 case b2s x=>rw[c (x:=x) (λt b=>by simpa[gE]using b)]
 case slcArr sz n x lo hi=>rw[c (x:=x) (λt b=>by simp[gE,b])]
 case st1 a x=>rw[c (x:=a) (λt b=>by simp[gE,b])]
 case stN n a x=>rw[c (x:=a) (λt b=>by simp[gE,b])]
 case lookup kk z ok m k=>rw[c (x:=m) (λt b=>by simp[gE,b])]
 case mapUpd kk m k x=>rw[c (x:=m) (λt b=>by simp[gE,b])]
 case app t sz M3 x y=>rw[c (x:=x) (λt b=>by simp[gE,b]),c (x:=y) (λt b=>by simp[gE,b])]
 case copy sz x y=>rw[c (x:=x) (λt b=>by simp[gE,b]),c (x:=y) (λt b=>by simp[gE,b])]
 case len k x=>cases k<;>simp only[gi]<;>rw[c (x:=x) (λt b=>by simpa[gE]using b)]
 case call g args=>rw[zq (f:=f) (f':=f') (l:=args) (λt b=>h t (by simpa[gE]using b))]
 case callN g args=>rw[zq (f:=f) (f':=f') (l:=args) (λt b=>h t (by simpa[gE]using b))]
 case callv g args=>rw[e]
section
variable{H1 H2:U}
theorem Mb{v:Nat}(h:H1[v]? = H2[v]?)(g:Nat):rowAt H1 v g=rowAt H2 v g:=by simp only[rowAt,h]
theorem PU{v:Nat}(h:H1[v]? = H2[v]?):kK H1 v=kK H2 v:=by simp only[kK,h]
theorem F6{v o n:Nat}(h:Alike (v,some (o,n)) H1 H2)(g:Nat) :
  (rowAt H1 v g=none/\rowAt H2 v g=none)\/∃t cs ds,rowAt H1 v g=some (t,cs)/\rowAt H2 v g=some (t,ds)/\cs.length=ds.length/\∀i,o<=i->i<o+n->cs[i]? = ds[i]? := by
 rcases h with h|⟨t,d,cs,ds,h1,a,c,b⟩
 .rw[Mb h g]
  cases f:rowAt H2 v g with
  | none=>exact .inl ⟨rfl,rfl⟩
  | some p=>exact .inr ⟨p.1,p.2,p.2,rfl,rfl,rfl,λ_ _ _=>rfl⟩
 .by_cases e:d=g
  .exact .inr ⟨t,cs,ds,by simp[rowAt,h1,e],by simp[rowAt,a,e],c,b⟩
  .exact .inl ⟨by simp[rowAt,h1,e],by simp[rowAt,a,e]⟩
theorem QX{sz:Nat}{d:D}(h:sT (mC d) H1 H2):ki sz H1 d=ki sz H2 d:=by
 unfold ki;split<;>first|rfl|skip
 rename_i v g a off len;have:=h (v,none) (by simp[mC]);rw[Mb this]
theorem sT.left{a b:List Fp}(h:sT (a++b) H1 H2):sT a H1 H2:=λx c=>h x (bA _ c)
theorem sT.right{a b:List Fp}(h:sT (a++b) H1 H2):sT b H1 H2:=λx c=>h x (bN _ c)
theorem YK{f:gj}{op:gZ}(h:sT (gi f H1 op) H1 H2)(n:Nat):gf f H1 n op=gf f H2 n op:=by
 cases op<;>simp only[gf]<;>first|rfl|skip
 case ld1 x=>
  congr 1;simp only[gi]at h;unfold vA;split<;>first|rfl|skip
  rename_i v g o b;rw[b]at h;rcases F6 (h (v,some (o,1)) (by simp[tJ])) g with⟨d,c⟩|⟨t,cs,ds,d,c,e,j⟩
  .rw[d,c]
  .grind
 case ldN m x=>
  congr 1;simp only[gi]at h;unfold uw;split<;>first|rfl|skip
  rename_i v g o b;rw[b]at h;rcases F6 (h (v,some (o,m)) (by simp[tJ])) g with⟨d,c⟩|⟨t,cs,ds,d,c,e,j⟩
  .rw[d,c]
  .rw[d,c]
   have:(cs.drop o).take m=(ds.drop o).take m:=by
    apply bL;intro i;simp only[aC,aH];split
    .grind
    .rfl
   simp only[e,this]
 case st1 a x=>
  simp only[gi]at h;unfold AY;split<;>first|rfl|skip
  rename_i v g o b;rw[b]at h;rcases F6 (h (v,some (o,1)) (by simp[tJ])) g with⟨d,c⟩|⟨t,cs,ds,d,c,e,j⟩
  .rw[d,c]
  .grind
 case stN m a x=>
  simp only[gi]at h;unfold AZ;split<;>first|rfl|skip
  rename_i v g o xs b _;rw[b]at h;rcases F6 (h (v,some (o,m)) (by simp[tJ])) g with⟨d,c⟩|⟨t,cs,ds,d,c,e,j⟩
  .rw[d,c]
  .grind
 case slcArr sz m x lo hi=>
  congr 1;simp only[gi]at h;unfold yR;split<;>first|rfl|skip
  rename_i v g o l r b _ _;rw[b]at h;rcases F6 (h (v,some (o,m*sz)) (by simp[tJ])) g with⟨d,c⟩|⟨t,cs,ds,d,c,e,j⟩
  .rw[d,c]
  .grind
 case lookup kk z ok m k=>
  congr 1;simp only[gi]at h;unfold Ar;split<;>first|rfl|skip
  rename_i v kv b _;rw[b]at h;rw[PU (h (v,none) (by simp[mC]))]
 case mapUpd kk m k x=>
  simp only[gi]at h;unfold yC;split<;>first|rfl|skip
  rename_i v kv b _;rw[b]at h;rw[PU (h (v,none) (by simp[mC]))]
 case b2s x=>
  congr 1;simp only[gi]at h;unfold Bp;rw[QX (sz:=1) h]
 case len k x=>
  congr 1;unfold mB;split<;>first|rfl|skip
  rename_i v b;simp only[gi]at h;rw[b]at h;rw[PU (h (v,none) (by simp[mC]))]
 case app t sz M3 x y=>
  simp only[gi]at h;unfold rr;rw[QX (sz:=sz) h.right];split<;>first|rfl|skip
  split<;>first|rfl|skip
  rename_i v g p off len b;rw[b]at h;rw[Mb (h (v,none) (by simp[mC]))]
 case copy sz x y=>
  simp only[gi]at h;unfold xP;rw[QX (sz:=sz) h.right];split<;>first|rfl|skip
  rename_i v g p off len q n b _;rw[b]at h;rw[Mb (h (v,none) (by simp[mC]))]
theorem yN(H:U)(v g:Nat):rowAt H v g=match rowsOf H v with|some (t,g',cs)=>if g'=g then some (t,cs)else none|none=>none:=by
 unfold rowAt rowsOf
 cases H[v]? with
 | none=>rfl
 | some o=>cases o<;>rfl
theorem F1:∀(k:Nat) (d:D),(∀v∈gN H1 k d,rowsOf H1 v=rowsOf H2 v)->gN H2 k d=gN H1 k d/\fy (λ_=>none) H2 k d=fy (λ_=>none) H1 k d
 | 0,d,_=>⟨rfl,rfl⟩
 | k+1,d,h=>by
  have f:∀(ds:List D),(∀v∈(ds.map (gN H1 k)).flatten,rowsOf H1 v=rowsOf H2 v)->ds.map (gN H2 k)=ds.map (gN H1 k)/\ds.map (fy (λ_=>none) H2 k)=ds.map (fy (λ_=>none) H1 k):=by intro ds q;have h1:∀d∈ds,∀v∈gN H1 k d,rowsOf H1 v=rowsOf H2 v:=λd j v c=>q v (aZ.2 ⟨_,au.2 ⟨d,j,rfl⟩,c⟩);exact⟨ao λd j=>(F1 k d (h1 d j)).1,ao λd j=>(F1 k d (h1 d j)).2⟩
  unfold gN at h;unfold gN fy
  by_cases r:closed d=true
  .grind
  .simp only[if_neg r]at h ⊢
   cases d with
   | agg cs=>obtain⟨a,b⟩:=f cs h;simp only[a,b,and_self]
   | tup cs=>obtain⟨a,b⟩:=f cs h;simp only[a,b,and_self]
   | fH cs=>obtain⟨a,b⟩:=f cs h;simp only[a,b,and_self]
   | sl sz es=>
    have h1:∀e∈es,e.map (gN H2 k)=e.map (gN H1 k)/\e.map (fy (λ_=>none) H2 k)=e.map (fy (λ_=>none) H1 k):=λe i=>f e λv c=>h v (aZ.2 ⟨_,au.2 ⟨e,i,rfl⟩,c⟩);have a:es.map (λe=>(e.map (gN H2 k)).flatten)=es.map (λe=>(e.map (gN H1 k)).flatten):=ao λe i=>by rw[(h1 e i).1]
    have b:es.map (λx=>x.map (fy (λ_=>none) H2 k))=es.map (λx=>x.map (fy (λ_=>none) H1 k)):=ao λe i=>(h1 e i).2;simp only[a,b,and_self]
   | fn g x y=>
    obtain⟨a,b⟩:=f x λv c=>h v (bA _ c);obtain⟨w,s⟩:=f y λv c=>h v (bN _ c);simp only[a,b,w,s,and_self]
   | fm v g sz off len=>
    have c:rowsOf H1 v=rowsOf H2 v:=h v (by simp);simp only[yN,<-c]
    cases n:rowsOf H1 v with
    | none=>exact⟨rfl,rfl⟩
    | some p=>
     obtain⟨t,o,cs⟩:=p;obtain⟨l,l2⟩:=f cs λu m=>h u (by simp only[n];exact aY _ m);refine⟨by simp only[l],?_⟩
     by_cases hg:o=g
     .grind
     .grind
   | ptr v g off=>
    have c:rowsOf H1 v=rowsOf H2 v:=h v (by simp);simp only[yN,<-c]
    cases n:rowsOf H1 v with
    | none=>exact⟨rfl,rfl⟩
    | some p=>
     obtain⟨t,o,cs⟩:=p;obtain⟨l,l2⟩:=f cs λu m=>h u (by simp only[n];exact aY _ m);refine⟨by simp only[l],?_⟩
     by_cases hg:o=g
     .grind
     .grind
   | _=>exact⟨rfl,rfl⟩
