/- Part 4 of DisputeTruth. -/
import Derived.Test.YtmehofoficaelaaGreatDoorV03
import Derived.Laws.IdiomRangeMap
import Derived.RangeFuncLeaves
import Derived.OwnWalkIn
set_option linter.all false
namespace Go.AL
open Go
section
variable{G:GT}{c:Ctx}{H:U}{w:World}{ks:ny}
def Aq(ks:ny):Prop:=∀(i j:Nat) (p q:Nat×Bool),ks[i]? = some p->ks[j]? = some q->p.1=q.1->i=j
theorem Te{i:Nat}{o:Ob}(h:(qq ks H)[i]? = some o)(d:o≠.dead):∃v a,ks[i]? = some (v,true)/\H[v]? = some a/\o=pb (iB ks) H a:=by
 unfold qq at h;simp only[av,ak]at h;obtain⟨p,c,b⟩:=h;split at b
 .grind
 .grind
theorem aaA{o:Ob}(h:(pb (iB ks) H o).alive=true):o.alive=true/\(pb (iB ks) H o).gen=o.gen:=by cases o<;>simp_all [pb,Ob.alive,Ob.gen]
theorem S3{v i:Nat}(b:Aq ks)(h:ks[i]? = some (v,true)):iB ks v=some i:=by
 cases a:iB ks v with
 | none=>exact absurd h (aad a i)
 | some j=>
  have:=aae a;rw[b i j _ _ h this rfl]
theorem NH{i:Nat}{L:Loc}(h:lQ (c.gd ks H) (qq ks H) i L):∃v,ks[i]? = some (v,true)/\lQ c H v L:=by obtain⟨o,f,a,b⟩:=h;obtain⟨v,d,h1,g,rfl⟩:=Te f (by intro e;subst e;cases a);obtain⟨k,j⟩:=aaA a;refine⟨v,h1,d,g,k,?_⟩;rw[j]at b;simpa[Ctx.gd,h1]using b
theorem ZM{b:Nat}(h:l7 (c.gd ks H) (qq ks H) b):l7 c H b:=by obtain⟨i,L,hl,a,e⟩:=h;obtain⟨v,_,d⟩:=NH hl;exact⟨v,L,d,a,e⟩
theorem Eo(h:gv G c H w)(T:Aq ks):gv G (c.gd ks H) (qq ks H) w where
 inj i j L M h1 A h3 h4 O:=by obtain⟨v,k1,F⟩:=NH h1;obtain⟨v',k2,l2⟩:=NH A;have:=h.inj v v' L M F l2 h3 h4 O;subst this;exact T i j _ _ k1 k2 rfl
 lt b n:=h.lt b (ZM n)
 nF b n K:=by
  obtain⟨i,L,hl,q,e⟩:=n;obtain⟨v,k1,F⟩:=NH hl;rcases K with K|⟨v',M,l2,S,P,W⟩
  .exact h.nF b ⟨v,L,F,q,e⟩ K
  .have:=h.inj v v' L M F l2 q P (e.trans W.symm);subst this;exact aad S i k1
 kG b n:=by
  rcases n with n|⟨v,L,l,_,q,e⟩
  .exact h.kG b n
  .exact h.lt b ⟨v,L,l,q,e⟩
 out i k hi:=by simp only[qq,List.length_map]at hi;simp[Ctx.gd,cj hi]
 mn i o k ho z:=by
  have I:o≠.dead:=by rintro rfl;rcases z with z|⟨z,_⟩<;>cases z
  obtain⟨v,y,h1,A,rfl⟩:=Te ho I;rcases z with z|⟨V,hg⟩
  .cases y<;>simp[pb]at z
  .obtain⟨D,C⟩:=aaA V;have:=h.mn v y k A (.inr ⟨D,by rw[<-C];exact hg⟩);simpa[Ctx.gd,h1]using this
 ob i o ho:=by
  by_cases I:o = .dead
  .subst I;simp[gV]
  .obtain⟨v,y,h1,A,rfl⟩:=Te ho I;have h0:=h.ob v y A;have f:(c.gd ks H).ι i y.gen=c.ι v y.gen:=by simp[Ctx.gd,h1]
   have N:∀u d,fR c w u d->fR (c.gd ks H) w u (gd (iB ks) H 40 d):=λu d U=>z8 h 40 U
   cases y with
   | dead=>simp[pb,gV]
   | lL=>simp[pb,gV]
   | row t g cs=>
    simp only[pb,Ob.gen]at f ⊢;rw[f];simp only[Ob.gen]at h0
    cases a:c.ι v g with
    | none=>rw[a]at h0;simp[gV]at h0
    | some L=>
     rw[a]at h0;simp only[gV]at h0 ⊢;split
     .grind
     .grind
   | map kk es=>
    simp only[pb,Ob.gen]at f ⊢;rw[f];simp only[Ob.gen]at h0
    cases a:c.ι v 0 with
    | none=>rw[a]at h0;simp[gV]at h0
    | some L=>
     rw[a]at h0;simp only[gV]at h0 ⊢;obtain⟨q,Y,arr,B,D,C,J,E⟩:=h0;refine⟨q,λx R=>?_,arr,B,D,by simpa using C,λj e x O R=>?_,by simpa using E⟩
     .grind
     .grind
   | ia rf env st=>
    simp only[pb,Ob.gen]at f ⊢;rw[f];simp only[Ob.gen]at h0
    cases a:c.ι v 0 with
    | none=>rw[a]at h0;simp[gV]at h0
    | some L=>
     rw[a]at h0;simp only[gV]at h0 ⊢;obtain⟨q,r,D,C,J,E⟩:=h0;refine⟨q,r,D,λk=>?_,J,E⟩
     have key:∀(env:Env) (k:Nat),(Env.get (env.map λx=>(x.1,gd (iB ks) H 40 x.2)) k)=gd (iB ks) H 40 (env.get k):=by
      intro env k
      induction env with
      | nil=>rfl
      | cons p r Q=>
       obtain⟨j,d⟩:=p;simp only[List.map_cons,Env.wD];split
       .rfl
       .exact Q
     rw[key];exact N _ _ (C k)
   | sn s p=>
    simp only[pb,Ob.gen]at f ⊢;rw[f];simp only[Ob.gen]at h0
    cases a:c.ι v 0 with
    | none=>rw[a]at h0;simp[gV]at h0
    | some L=>
     rw[a]at h0;simpa only[gV]using h0
   | iX m since seen=>
    simp only[pb,Ob.gen]at f ⊢;rw[f];simp only[Ob.gen]at h0
    cases a:c.ι v 0 with
    | none=>rw[a]at h0;simp[gV]at h0
    | some L=>
     rw[a]at h0;simp only[gV]at h0 ⊢;obtain⟨D,C,X,J,E⟩:=h0;exact⟨D,C,X,N _ _ J,E⟩
   | jv=>
    simp only[pb,Ob.gen]at f ⊢;rw[f];simp only[Ob.gen]at h0
    cases a:c.ι v 0 with
    | none=>rw[a]at h0;simp[gV]at h0
    | some L=>
     rw[a]at h0;simpa only[gV]using h0
 gl g cs hg:=by obtain⟨h1,A⟩:=h.gl g cs hg;exact⟨h1,A.closed (λb n=>CI n) (by simpa[AL.closed]using h1)⟩
 rt:=h.rt
theorem Tj(h:gv G c H w){n:Nat}(g:∀v,v<n->(ks[v]?).map (·.1)=some v):Step n c H w (c.gd ks H) (qq ks H) w where
 os:=⟨rfl,Nat.le_refl _⟩
 tape:=rfl
 output:=rfl
 size:=Nat.le_refl _
 RT:=rfl
 Fm b a:=CI a
 Fn b a:=by
  rcases a with a|⟨v,L,l,_,d,e⟩
  .exact .inl a
  .exact .inr (.inr ⟨v,L,l,d,e⟩)
 kept _ _ _:=rfl
 old v k L d gf:=by have:=g v d;simp only[ak]at this;obtain⟨p,f,e⟩:=this;simp only[Ctx.gd,f,e];exact gf
 own b a:=.inr (ZM a)
theorem aeO(env:Env)(k:Nat):(Env.get (env.map λx=>(x.1,gd (iB ks) H 40 x.2)) k)=gd (iB ks) H 40 (env.get k):=by
 induction env with
 | nil=>rfl
 | cons p r a=>
  obtain⟨j,d⟩:=p;simp only[List.map_cons,Env.wD];split
  .rfl
  .exact a
theorem Vx(h:gv G c H w){env:Env}{a:Act}(b:kK c w env.get a):kK (c.gd ks H) w (Env.get (env.map λx=>(x.1,gd (iB ks) H 40 x.2))) a:=λk=>by rw[aeO];exact z8 h 40 (b k)
theorem aeJ(live:List Nat)(env:Env)(k:Nat):(forget live env).get k = .any\/(forget live env).get k=env.get k:=by
 unfold forget
 induction live with
 | nil=>exact .inl rfl
 | cons x r a=>
  simp only[List.map_cons,Env.wD];split
  .grind
  .exact a
theorem C3{env:Env}{a:Act}(b:kK c w env.get a)(live:List Nat):kK c w (forget live env).get a:=λk=>by
 rcases aeJ live env k with h|h<;>rw[h]
 .exact .any _
 .exact b k
theorem Hz{x:Nat}:∀ {l:List Nat},x∈dedup l->x∈l
 | [],h=>h
 | y::r,h=>by
  unfold dedup at h;split at h
  .exact a8 _ (Hz h)
  .rcases aw.1 h with rfl|h
   .grind
   .exact a8 _ (Hz h)
theorem Mi{x:Nat}:∀ {l:List Nat},x∈l->x∈dedup l
 | y::r,h=>by
  unfold dedup;split
  .rename_i a;rcases aw.1 h with rfl|h
   .exact Mi a
   .exact Mi h
  .rcases aw.1 h with rfl|h
   .grind
   .exact a8 _ (Mi h)
theorem NS:∀(l:List Nat),(dedup l).Nodup
 | []=>List.nodup_nil
 | y::r=>by
  unfold dedup;split
  .exact NS r
  .rename_i a;exact cL.2 ⟨λh=>a (Hz h),NS r⟩
theorem Yo(h:(ks.map (·.1)).Nodup):Aq ks:=by
 intro i j p q f d e;have hi:(ks.map (·.1))[i]? = some p.1:=by simp[f]
 have a:(ks.map (·.1))[j]? = some q.1:=by simp[d]
 have b:=(ae.1 hi).1;have c:=(ae.1 a).1;rw[List.getElem?_eq_getElem b]at hi;rw[List.getElem?_eq_getElem c]at a;simp only[aq]at hi a;exact(List.getElem_inj h).1 (by rw[hi,a,e])
theorem Yu{n:Nat}{K:List Nat}(g:∀v∈K,n<=v)(c:K.Nodup):Aq (iV n K):=by apply Yo;unfold iV;simp only[List.map_append,bY,eU,List.map_id'];rw[cN];refine⟨e9,c,λa f b d e=>?_⟩;subst e;have:=g a d;simp at f;omega
theorem Ys{n:Nat}{K:List Nat}(v:Nat)(a:v<n):((iV n K)[v]?).map (·.1)=some v:=by unfold iV;rw[ah (by simpa using a)];simp[a]
theorem Ws{S:List Nat}:Aq (mm H S):=by apply Yo;unfold mm;simp only[bY,eU,List.map_id'];exact e9
theorem Wr{S:List Nat}(v:Nat)(a:v<H.length):((mm H S)[v]?).map (·.1)=some v:=by unfold mm;simp[a]
theorem P4{S:List Nat}:(qq (mm H S) H).length=H.length:=by simp[qq,mm]
end
end Go.AL
namespace Go.AL
open Go
def Ma:Operand->Bool
 | .const (.slice none 0 0)=>true
 | _=>false
def Eu(P:Program)(t:TypeId):Bool:=match P.underlying t with
 | some (.slice _)=>true
 | _=>false
def sB(P:Program)(G:GT)(o:Oper):Option iD:=
 match o.op with
 | .binOp .eql t x y _=>if Eu P t=true/\Ma y=true then(cX G x).map (.nilS false)else none
 | .binOp .neq t x y _=>if Eu P t=true/\Ma y=true then(cX G x).map (.nilS true)else none
 | .range t x=>match P.underlying t,cX G x with
  | some .string,some a=>some (.rangeS a)
  | some (.map _ _),some a=>some (.rangeM a)
  | _,_=>none
 | .next x true=>(cX G x).map .nextS
 | .next x false=>(cX G x).map .nextM
 | .entry x=>(cX G x).map .entry
 | .call c=>match c.callee,c.argTypes.toList,c.args.toList with
  | .builtin .cap,[t],[x]=>if Eu P t then(cX G x).map .capE else none
  | .builtin .clear,[t],[x]=>match P.underlying t with
   | some (.slice e)=>match qx P e,P.info? e,cX G x with
    | some z,some i,some a=>if z.length=i.size/\0<i.size then some (.clr i.size z a)else none
    | _,_,_=>none
   | _=>none
  | .builtin .append,[t,u],[x,y]=>match P.underlying t,P.underlying u with
   | some (.slice e),some (.int .i64)=>match qx P e,P.info? e,cX G x,cX G y with
    | some z,some i,some a,some b=>if z.length=i.size/\0<i.size then some (.appZ e i.size i.bytes z a b)else none
    | _,_,_,_=>none
   | _,_=>none
  | _,_,_=>none
 | .mapEntry t m k=>match P.underlying t with
  | some (.map kt e)=>match uD P kt,EI P e,cX G m,cX G k with
   | some kk,some z,some a,some b=>some (.mapEnt kk z a b)
   | _,_,_,_=>none
  | _=>none
 | .entryStore _ m s x=>match cX G m,cX G s,cX G x with
  | some a,some b,some c=>some (.entSt a b c)
  | _,_,_=>none
 | _=>none
def yh(kv:Value):List (Value×D)->Nat->Option (Nat×D)
 | [],_=>none
 | (k,d)::r,i=>if nI kv k then some (i,d)else yh kv r (i+1)
def yg(a:KK)(z:D)(m k:D)(H:U):R:=
 match m,keyOf k with
 | .gx v,some kv=>match lD H v with
  | some (kk,es)=>if kk=a/\kk.has kv=true then(match yh kv es 0 with
    | some (j,d)=>some (.tup [d,.i j],.obj v (.map kk (mg es kv d)))
    | none=>some (.tup [z,.i es.length],.obj v (.map kk (mg es kv z))))else none
  | none=>none
 | _,_=>none
def AJ(m s x:D)(H:U):R:=
 match m,s with
 | .gx v,.val (.int .i64 n)=>match lD H v with
  | some (kk,es)=>match es[n.toNat]? with
   | some (k,_)=>if 0<=n then some (.any,.obj v (.map kk (es.set n.toNat (k,x))))else none
   | none=>none
  | none=>none
 | _,_=>none
def NR(neg:Bool):D->Option D
 | .fX=>some (.b !neg)
 | .sl _ (_::_)=>some (.b neg)
 | .fM _ _ _ _ (_+1)=>some (.b neg)
 | _=>none
def LG(t sz bytes:Nat)(z:List D)(x n:D)(a:Nat):R:=
 match x,n with
 | .fX,.val (.int .i64 m)=>if 0<m/\qj (m*bytes) 140737488355328/\qj m 9223372036854775807 then some (.fM a 0 sz 0 m.toNat,.new (.row t 0 (List.replicate m.toNat z).flatten))else none
 | _,_=>none
def FE(sz:Nat)(z:List D)(x:D)(H:U):R:=
 match x with
 | .fX=>some (.any,.no)
 | .fM v g a off len=>match rowAt H v g with
  | some (t,cs)=>if a=sz/\(off+len)*sz<=cs.length then some (.any,.obj v (.row t g (cs.take (off*sz)++(List.replicate len z).flatten++cs.drop ((off+len)*sz))))else none
  | none=>none
 | _=>none
def SA(x:D)(H:U):R:=
 match x with
 | .ptr v 0 0=>match H[v]? with
  | some (.sn s p)=>if p<s.size then some (.tup [.b true,.i p,.val (.int .i32 (Utf8.decode s p).1)],.obj v (.sn s (p+(Utf8.decode s p).2)))else some (.tup [.b false],.no)
  | _=>none
 | _=>none
def HV(x:D)(H:U)(a:Nat):R:=
 match x with
 | .gx m=>match lD H m with
  | some (_,es)=>some (.ptr a 0 0,.new (.iX (.gx m) es.length []))
  | none=>none
 | _=>none
def Mp(x:D)(H:U):Option D:=
 match x with
 | .ptr v 0 0=>match H[v]? with
  | some (.iX (.gx m) since seen)=>match lD H m,seen.getLast? with
   | some (_,es),some i=>match es[i]? with
    | some (k,d)=>if es.length=since then some (.tup [se k,d])else none
    | none=>none
   | _,_=>none
  | _=>none
 | _=>none
def ml(env:gL)(H:U)(n:Nat):iD->R
 | .nilS neg x=>lift (NR neg (ev env x))
 | .capE x=>match ev env x with
  | .fX=>some (.i 0,.no)
  | _=>none
 | .appZ t sz bytes z x m=>LG t sz bytes z (ev env x) (ev env m) n
 | .clr sz z x=>FE sz z (ev env x) H
 | .rangeS x=>match ev env x with
  | .val (.string s)=>some (.ptr n 0 0,.new (.sn s 0))
  | _=>none
 | .nextS x=>SA (ev env x) H
 | .rangeM x=>HV (ev env x) H n
 | .entry x=>lift (Mp (ev env x) H)
 | .mapEnt kk z m k=>yg kk z (ev env m) (ev env k) H
 | .entSt m s x=>AJ (ev env m) (ev env s) (ev env x) H
 | _=>none
def Oz:iD->Bool
 | .nilS .. | .capE .. | .appZ .. | .clr .. | .rangeS .. | .nextS .. | .rangeM .. | .nextM .. | .entry .. | .mapEnt .. | .entSt .. => true
 | _=>false
theorem anH{op:iD}(h:Oz op=true)(f:gL)(H:U)(n:Nat):gH f H n op=none:=by cases op<;>first|(cases h;done)|rfl
theorem anI{op:iD}(h:Oz op=true)(f:gL):kA f op=none:=by cases op<;>first|(cases h;done)|rfl
theorem Pr{P:Program}{G:GT}{o:Oper}{a:iD}(h:sB P G o=some a):Oz a=true:=by
 unfold sB at h
 repeat' split at h
 all_goals first|(cases h;done)|(simp only[ak]at h;obtain⟨_,_,rfl⟩:=h;rfl)|(cases h;rfl)
section
variable{P:Program}{G:GT}{c:Ctx}{H:U}{w:World}{env:gL}{a:Act}
abbrev KO(H:U)(al:Al)(d:D)(δ:Dl):jx:=λd' H'=>d'=d/\H'=δ.app H al
theorem NP(h:gv G c H w){al:Al}(e:mW H al)(o:Obj)(ob:Ob)(hg:ob.gen=0)(g:ob.alive=true)
  (i:(∀u d,fR c w u d->fR (c.set al.1 0 ⟨w.heap.size,0,0,false⟩) (w.alloc o) u d)->(w.alloc o).heap[w.heap.size]? = some o->gV (c.set al.1 0 ⟨w.heap.size,0,0,false⟩) (w.alloc o) (some ⟨w.heap.size,0,0,false⟩) ob) :
  gv G (c.set al.1 0 ⟨w.heap.size,0,0,false⟩) (al.2 ob) (w.alloc o)/\fR (c.set al.1 0 ⟨w.heap.size,0,0,false⟩) (w.alloc o) (.pointer (some ⟨w.heap.size,0,none⟩)) (.ptr al.1 0 0) /\
   Step H.length c H w (c.set al.1 0 ⟨w.heap.size,0,0,false⟩) (al.2 ob) (w.alloc o):=by
 have b:(⟨w.heap.size,0,0,false⟩:Loc).jG=false->w.heap.size<=(⟨w.heap.size,0,0,false⟩:Loc).b/\(⟨w.heap.size,0,0,false⟩:Loc).b<(w.alloc o).heap.size:=λ_=>⟨Nat.le_refl _,by simp⟩;have a:=(e ob).tT;have hs:=OF h a (jZ.alloc w o) ⟨w.heap.size,0,0,false⟩ b;rw[hg]at hs;have h1:=Tv h a (jZ.alloc w o) ⟨w.heap.size,0,0,false⟩ b g (by rw[hg];exact i (λu d f=>f.pJ h.toHeapOK hs) (heap_alloc_new w o));rw[hg]at h1;exact⟨h1,.ptr (c:=c.set al.1 0 ⟨w.heap.size,0,0,false⟩) al.1 0 0 ⟨w.heap.size,0,0,false⟩ (Ctx.sk _ _ _ _) rfl,hs⟩
theorem ZB(h:gv G c H w){t:TypeId}(f:Eu P t=true){neg:Bool}{x d:D}{u:Value}(i:fR c w u x)(a:NR neg x=some d)(xo k:Operand) :
  ∃r,(do eqGuard (if neg then .neq else .eql) t xo k u (.slice none 0 0);binOp (if neg then .neq else .eql) t u (.slice none 0 0)).run P w = .ok r w/\fR c w r d:=by
 have v:∃e,P.underlying t=some (.slice e):=by
  unfold Eu at f;split at f
  .exact⟨_,by assumption⟩
  .cases f
 obtain⟨e,s⟩:=v
 have j:∀(n:Nat) (ad:Option Addr) (len cap:Nat),(Op.equalIn (n+1) t (.slice ad len cap) (.slice none 0 0)).run P w = .ok ad.isNone w:=by intro n ad len cap;cases ad<;>simp[Op.equalIn,run_underlying s]
 have o:∀ad len cap,Op.equal t (.slice ad len cap) (.slice none 0 0)=Op.equalIn (9999+1) t (.slice ad len cap) (.slice none 0 0):=λ_ _ _=>rfl
 have key:∀(ad:Option Addr) (len cap:Nat),u = .slice ad len cap->(do eqGuard (if neg then .neq else .eql) t xo k u (.slice none 0 0);binOp (if neg then .neq else .eql) t u (.slice none 0 0)).run P w = .ok (.bool (if neg then !ad.isNone else ad.isNone)) w:=by rintro ad len cap rfl;have h1:=j 9999 ad len cap;cases neg<;>simp only[eqGuard,binOp,o,bz,if_false,if_true,Sem.run_bind,Bool.not_true,Sem.run_pure,Result.andThen_ok,h1]
 unfold NR at a;split at a
 .cases a;cases i;exact⟨_,key none 0 0 rfl,by cases neg<;>exact .val _⟩
 .cases a
  cases i with
  | sl ad len cap sz es g b m p z l B E=>
   have:ad≠none:=λe=>by have:=l e;simp at b;omega
   obtain⟨q,rfl⟩:=Option.ne_none_iff_exists'.1 this;exact⟨_,key _ _ _ rfl,by cases neg<;>exact .val _⟩
 .cases a
  cases i with
  | fM _ _ _ _ _ cap L C A m p y=>exact⟨_,key _ _ _ rfl,by cases neg<;>exact .val _⟩
 .cases a
theorem aly(h:gv G c H w){v g o:Nat}{a:TypeId}{cs xs:List D}(l:H[v]? = some (.row a g cs)){L:Loc}(p:c.ι v g=some L)(j:L.jG=false){vs:List Value}(f:Cells c w vs xs)
  (C:o+xs.length<=cs.length):∃w',(storeCells ⟨L.b,L.base+o,none⟩ vs).run P w = .ok () w'/\gv G c (H.set v (.row a g (cs.take o++xs++cs.drop (o+xs.length)))) w'/\Step H.length c H w c (H.set v (.row a g (cs.take o++xs++cs.drop (o+xs.length)))) w':=by
 obtain⟨arr,h1,x,E,u⟩:=yq h l p j;have q:vs.length=xs.length:=f.len;have n:=run_storeCells_at P L.b (L.base+o) a vs 0 arr w h1 (by simp;omega) f.one;simp only[cz]at n
 have k:=EH h l p j h1 (arr.toList.take (L.base+o)++vs++arr.toList.drop (L.base+o+vs.length)).toArray
  (by simp;omega) x (cs.take o++xs++cs.drop (o+xs.length)) (by simp;omega) (λi d m=>by
   have A:=u.sq f o;obtain⟨y,r,t,s⟩:=A.get m;refine⟨y,?_,t,s⟩;rw[<-r];simp only[dt];have e:(List.take (L.base+o) arr.toList).length=L.base+o:=by simp;omega
   have b:(List.take o (List.take cs.length (List.drop L.base arr.toList))).length=o:=by simp;omega
   by_cases z:i<o
   .rw[ah (by simp;omega),ah (by rw[e];omega),ah (by simp;omega),ah (by rw[b];omega)];simp only[aF,aI];rw[if_pos (by omega),if_pos z,if_pos (by omega)]
   .by_cases c2:i<o+xs.length
    .rw[ah (by simp;omega),ai (by rw[e];omega),ah (by simp;omega),ai (by rw[b];omega),e,b];congr 1;omega
    .have B:i<cs.length:=by have:=(ae.1 m).1;simp at this;omega
     rw[ai (by simp;omega),ai (by simp;omega)];simp only[aI,aF,aj,e,b,q];rw[if_pos (by omega)];congr 1
     omega)
 exact⟨_,n,k.1,k.2⟩
theorem alz(h:gv G c H w){al:Al}{t e ty:TypeId}{i:TypeInfo}{z:List D}(l:P.underlying t=some (.slice e))(hi:P.info? e=some i)(K:qx P e=some z)(A:z.length=i.size)(S:0<i.size)
  {x d:D} {δ:Dl} {u:Value} (r:fR c w u x) (a:FE i.size z x H=some (d,δ)):∃w',(Builtin.clear_ #[t] ty #[u]).run P w = .ok (.tuple #[]) w'/\ja G c H w (KO H al d δ) (.tuple #[]) w':=by
 unfold FE at a;split at a
 .cases a;cases r;exact⟨w,by simp[Builtin.clear_,run_underlying l],_,_,c,⟨rfl,rfl⟩,h,.any _,Step.refl _ _ _ _⟩
 .rename_i v g V off len;split at a
  .rename_i f cs M;split at a
   .rename_i I;obtain⟨rfl,E⟩:=I;cases a;have k:=tQ M;dsimp only at k;obtain⟨b,B,W,p⟩:=Af K w;have Q:b.cells.size=i.size:=by have:=(p c w).len;simp at this;omega
    have n:(Dl.obj v (.row f g (cs.take (off*i.size)++(List.replicate len z).flatten++cs.drop ((off+len)*i.size)))).app H al=H.set v (.row f g (cs.take (off*i.size)++(List.replicate len z).flatten++cs.drop ((off+len)*i.size))):=rfl;have q:(List.replicate len z).flatten.length=len*i.size:=by simp[A]
    have m:(.row f g (cs.take (off*i.size)++(List.replicate 0 z).flatten++cs.drop ((off+0)*i.size)))=Ob.row f g cs:=by simp
    have j:H.set v (.row f g cs)=H:=by have N:=(ae.1 k).1;have F:=(ae.1 k).2;rw[<-F];exact et N
    cases r with
    | fM _ _ _ _ _ cap L y J T U R=>
     by_cases s:len=0
     .subst s;refine⟨w,by simp[Builtin.clear_,run_underlying l],_,_,c,⟨rfl,rfl⟩,?_,.any _,?_⟩
      .rw[n,m,j];exact h
      .rw[n,m,j];exact Step.refl _ _ _ _
     .have C:Cells c w (Builtin.zeroCells b.cells len).toList (List.replicate len z).flatten:=by
       have h1:(Builtin.zeroCells b.cells len).toList=(List.replicate len b.cells.toList).flatten:=by unfold Builtin.zeroCells;exact N5 b.cells len (by omega)
       rw[h1];exact MD _ _ p len
      obtain⟨w',k1,k2,k3⟩:=aly (P:=P) (o:=off*i.size) h k y J C (by rw[q,<-bk];exact E);rw[q,<-bk]at k2 k3;refine⟨w',?_,_,_,c,⟨rfl,rfl⟩,k2,.any _,k3⟩;obtain⟨O,rfl⟩:=Nat.exists_eq_succ_of_ne_zero s;simp[Builtin.clear_,run_underlying l,B,k1]
    | mh _ _ _ _ L y ad=>
     refine⟨w,by cases ad<;>simp[Builtin.clear_,run_underlying l],_,_,c,⟨rfl,rfl⟩,?_,.any _,?_⟩
     .rw[n,m,j];exact h
     .rw[n,m,j];exact Step.refl _ _ _ _
   .cases a
  .cases a
 .cases a
theorem alq(h:gv G c H w){al:Al}(S:mW H al){t u ty e:TypeId}{i:TypeInfo}{z:List D}(V:P.underlying t=some (.slice e))(U:P.underlying u=some (.int .i64))(hi:P.info? e=some i)(T:qx P e=some z)(x6:z.length=i.size)(O:0<i.size)
  {x y d:D} {δ:Dl} {A v:Value} (h1:fR c w A x) (X:fR c w v y) (b:LG e i.size i.bytes z x y al.1=some (d,δ)) :
  ∃r w',(Builtin.append_ #[t,u] ty #[A,v]).run P w = .ok r w'/\ja G c H w (KO H al d δ) r w':=by
 unfold LG at b;split at b
 .rename_i m;split at b
  .rename_i Q;cases b;cases h1;cases X;obtain⟨a,vB,Nw,B⟩:=Af T w;have DZ:i.zero=some a:=by simpa[hi]using Nw
   have I:a.cells.size=i.size:=by have:=(B c w).len;simp at this;omega
   obtain⟨n,rfl⟩:∃n:Nat,m=n:=⟨m.toNat,by omega⟩;obtain⟨vm,f,F⟩:=Q;simp only[qj]at f F;have E:0<n:=by omega
   have p:n*i.bytes<=140737488355328:=by
    have h1:((n*i.bytes:Nat):Int)<=140737488355328:=by rw[Int.natCast_mul];exact f
    omega
   have WL:n<=9223372036854775807:=by omega
   have J:=grownCap_ge w n 0 e;have N:=grownCap_le_maxLen w n 0 e (by unfold maxLen;omega);have wn:IntKind.i64.wrap (n:Int)=n:=wrap_i64 (by unfold nU;omega)
   have R:(Builtin.append_ #[t,u] ty #[.slice none 0 0,.int .i64 n]).run P w = .ok (.slice (some ⟨w.heap.size,0,none⟩) n (grownCap w n 0 e))
     (w.drew.alloc (.cells (Builtin.zeroCells a.cells n++Builtin.zeroCells a.cells (grownCap w n 0 e-n)) e)):=by
    have j:¬(n=0):=by omega
    have q:∀w:World,(asInt (.int .i64 (n:Int))).run P w = .ok (n:Int) w:=λw=>by simp[asInt,asIntOf]
    have k:¬((n:Int)<=0):=by omega
    have M:max (n:Int) 0=n:=by omega
    have W:(n:Int).toNat=n:=by omega
    have g:¬(i.size=0):=by omega
    have o:¬((n:Int)<0):=by omega
    have l:¬(281474976710656<(n:Int)*(i.bytes:Int)):=by have:(n:Int)*(i.bytes:Int)<=140737488355328:=f;omega
    have Qm:¬(281474976710656<Builtin.nextslicecap n 0*i.bytes):=by have:=growslice_fits (old:=0) E p;omega
    have s:¬(9223372036854775807<(n:Int)):=by omega
    simp[Builtin.append_,run_underlying V,run_underlying U,sizeOf,typeInfo,zeroValue,hi,DZ,q,wn,o,l,j,g,Qm,s,k,M,Question.forced,newRow,grownCap,run_firstCells_none];intro h0;exact absurd h0 (Nat.ne_of_gt (Nat.mul_pos E O))
   refine⟨_,_,R,?_⟩
   have K:Cells c w (Builtin.zeroCells a.cells n).toList (List.replicate n z).flatten:=by
    have h1:(Builtin.zeroCells a.cells n).toList=(List.replicate n a.cells.toList).flatten:=by unfold Builtin.zeroCells;exact N5 a.cells n (by omega)
    rw[h1];exact MD _ _ B n
   have g:(Builtin.zeroCells a.cells n++Builtin.zeroCells a.cells (grownCap w n 0 e-n)).size=grownCap w n 0 e*i.size:=by simp only[cD,size_zeroCells,I,<-bk];congr 1;omega
   obtain⟨L,e1,e2,e3,e4,Z,Y⟩:=D9 h w.drew (jZ.drew w) e _ (List.replicate n z).flatten (Builtin.zeroCells a.cells n).size (Builtin.zeroCells a.cells n++Builtin.zeroCells a.cells (grownCap w n 0 e-n)) (S _).tT K (by
    simp only[da]
    exact List.take_left' (by simp)) (by simp only[cD];omega)
   have C:=HM (c:=c) (w:=w.drew.alloc (.cells (Builtin.zeroCells a.cells n++Builtin.zeroCells a.cells (grownCap w n 0 e-n)) e)) e1 e3 al.1 0 i.size n (grownCap w n 0 e) (by rw[e4,g]) J N;rw[e2]at C;exact⟨_,_,_,⟨rfl,rfl⟩,Z,C,Y⟩
  .cases b
 .cases b
theorem alS(h:gv G c H w){al:Al}{x d:D}{δ:Dl}{u:Value}{ty:TypeId}(o:fR c w u x)(f:SA x H=some (d,δ)):∃r w',(Instr.next u true ty).run P w = .ok r w'/\ja G c H w (KO H al d δ) r w':=by
 unfold SA at f;split at f
 .rename_i v;split at f
  .rename_i s p a
   cases o with
   | ptr _ _ _ L m l=>
    have j:=h.ob v _ a;simp only[Ob.gen]at j;rw[m]at j;simp only[gV]at j;obtain⟨_,k,e⟩:=j;have q:=(aP.1 e).1;rw[k]
    by_cases g:p<s.size
    .rw[if_pos g]at f;cases f
     obtain⟨m1,m2⟩:=Am h a rfl rfl (ob':=.sn s (p+(Utf8.decode s p).2)) rfl m l (.stringIter s (p+(Utf8.decode s p).2)) (λw' n _=>by simp only[gV];exact⟨l,k,n⟩)
     refine⟨.tuple #[.bool true,goInt p,.int .i32 (Utf8.decode s p).1],_,?_,_,_,c,⟨rfl,rfl⟩,m1,?_,m2⟩
     .simp[Instr.next,getObj,setObj,Sem.run,e,g]
     .refine .tup [.bool true,goInt p,.int .i32 (Utf8.decode s p).1] _ rfl λi v d a b=>?_
      match i,a,b with
      | 0,a,b=>cases a;cases b;exact .val _
      | 1,a,b=>cases a;cases b;exact .val _
      | 2,a,b=>cases a;cases b;exact .val _
    .rw[if_neg g]at f;cases f;refine⟨.tuple #[.bool false],w,?_,_,_,c,⟨rfl,rfl⟩,h,?_,Step.refl _ _ _ _⟩
     .simp[Instr.next,getObj,Sem.run,e,g]
     .refine .tup [.bool false] _ rfl λi v d a b=>?_
      match i,a,b with
      | 0,a,b=>cases a;cases b;exact .val _
  .cases f
 .cases f
theorem alD(h:gv G c H w){x d:D}{u:Value}(F:fR c w u x)(a:Mp x H=some d):∃r,(Instr.entry u).run P w = .ok r w/\fR c w r d:=by
 unfold Mp at a;split at a
 .rename_i v;split at a
  .rename_i m since seen b;split at a
   .rename_i kk es i I R;split at a
    .rename_i k d0 t;split at a
     .rename_i g;cases a;have y:=tI I;dsimp only at y
      cases F with
      | ptr _ _ _ L K T=>
       have p:=h.ob v _ b;simp only[Ob.gen]at p;rw[K]at p;simp only[gV]at p;obtain⟨_,C,V,Q,n⟩:=p
       cases Q with
       | gx _ X S W=>
        have o:=h.ob m _ y;simp only[Ob.gen]at o;rw[S]at o;simp only[gV]at o;obtain⟨_,B,arr,f,O,A,z,N⟩:=o;have hi:i<arr.size:=by rw[A];exact(ae.1 t).1
        have M:arr[i]? = some arr[i]:=by simp[hi]
        obtain⟨q1,q2,q3⟩:=z i _ _ M t;have s:seen.toArray.back? = some i:=by simpa[Array.back?_eq_getElem?,List.getLast?_eq_getElem?]using R
        have q:arr.find? (λe=>e.born == i)=some arr[i]:=by
         rw[Array.find?_eq_some_iff_getElem];refine⟨by simp[q3],i,hi,rfl,λj U=>?_⟩;have E:j<es.length:=by rw[<-A];omega
         have:=(z j arr[j] es[j] (by simp) (by simp[E])).2.2;simp[this]
         try omega
        refine⟨.tuple #[k,arr[i].val],?_,?_⟩
        .rw[C];have J:f=since:=by rw[N,g]
         subst J;simp only[aQ];simp only[Instr.entry,getObj,Sem.run_bind,Sem.run,n,Result.andThen_ok,s,O,q];simp[q1]
        .refine .tup [k,arr[i].val] _ rfl λj v d b l=>?_
         match j,b,l with
         | 0,b,l=>cases b;cases l;exact Z' (B _ (List.mem_of_getElem? t))
         | 1,b,l=>cases b;cases l;exact q2
     .cases a
    .cases a
   .cases a
  .cases a
 .cases a
theorem alV(h:gv G c H w){al:Al}(n:mW H al){t:TypeId}{k e:TypeId}(o:P.underlying t=some (.map k e)){x d:D}{δ:Dl}{u:Value}(p:fR c w u x)(b:HV x H al.1=some (d,δ)) :
  ∃r w',(Instr.range t u).run P w = .ok r w'/\ja G c H w (KO H al d δ) r w':=by
 unfold HV at b;split at b
 .rename_i m;split at b
  .rename_i kk es q;cases b;have i:=tI q;dsimp only at i
   cases p with
   | gx _ g j v=>
    have f:=h.ob m _ i;simp only[Ob.gen]at f;rw[j]at f;simp only[gV]at f;obtain⟨_,_,arr,a,z,B,A,y⟩:=f
    obtain⟨k1,k2,k3⟩:=NP h n (.mapIter (some g.b) a #[] a) (.iX (.gx m) es.length []) rfl rfl (λl s=>by
     simp only[gV];refine⟨trivial,trivial,g.b,l _ _ (.gx m g j v),?_⟩
     rw[<-y];exact s)
    exact⟨_,_,run_range_map w t k e g.b arr a o z,_,_,_,⟨rfl,rfl⟩,k1,k2,k3⟩
  .cases b
 .cases b
theorem Wa{kv:Value}:∀ {l:List MapEntry} {i n:Nat} {v:Value},nO kv l i=some (n,v)->i<=n
 | [],_,_,_,h=>by cases h
 | a::l,i,n,v,h=>by
  unfold nO at h;split at h
  .cases h;exact Nat.le_refl _
  .have:=Wa h;omega
theorem Wb{kv:Value}:∀ {l:List MapEntry} {i j:Nat} {v:Value} {e:MapEntry},nO kv l i=some (i+j,v)->l[j]? = some e->e.val=v
 | [],_,_,_,_,h,_=>by cases h
 | a::l,i,j,v,e,h,he=>by
  unfold nO at h;split at h
  .simp only[aq,dB]at h;obtain⟨h1,rfl⟩:=h;have:j=0:=by omega
   subst this;cases he;rfl
  .cases j with
   | zero=>exact absurd (Wa h) (by omega)
   | succ j=>exact Wb (i:=i+1) (j:=j) (by rw[h];congr 2;omega) he
theorem Y7(kv:Value):∀(l:List MapEntry) (es:List (Value×D)) (i:Nat),l.length=es.length ->
  (∀(j:Nat) (e:MapEntry) (x:Value×D),l[j]? = some e->es[j]? = some x->e.key=x.1/\fR c w e.val x.2) ->
  (nO kv l i=none/\yh kv es i=none)\/∃j v d,nO kv l i=some (i+j,v)/\yh kv es i=some (i+j,d)/\fR c w v d
 | [],[],i,_,_=>.inl ⟨rfl,rfl⟩
 | e::l,(k,d)::es,i,hl,h=>by
  obtain⟨b,m⟩:=h 0 e (k,d) rfl rfl;dsimp only at b m
  by_cases a:nI kv e.key=true
  .exact .inr ⟨0,e.val,d,by simp[nO,a],by simp[yh,<-b,a],m⟩
  .have g:nI kv k=false:=by rw[<-b];simpa using a
   rcases Y7 kv l es (i+1) (by simpa using hl) (λj e x a n=>h (j+1) e x (by simpa using a) (by simpa using n))with⟨h1,f⟩|⟨j,v,d',h1,f,o⟩
   .exact .inl ⟨by simp[nO,a,h1],by simp[yh,g,f]⟩
   .exact .inr ⟨j+1,v,d',by simp[nO,a,h1];omega,by simp[yh,g,f];omega,o⟩
theorem alO(h:gv G c H w){al:Al}{t k e:TypeId}{kk:KK}{z:D}(hu:P.underlying t=some (.map k e))(V:uD P k=some kk)(F:EI P e=some z){m x d:D}{δ:Dl}{u v:Value}(h1:fR c w u m)(h2:fR c w v x)
  (y:yg kk z m x H=some (d,δ)):∃r w',(Instr.mapEntry t u v).run P w = .ok r w'/\ja G c H w (KO H al d δ) r w':=by
 have Rn:(kk = .str\/kk = .bool\/∃k,kk = .int k)\/∃l,kk = .ints l:=by
  obtain⟨d,_,hc⟩:=ON V;rcases hc with⟨k,_,rfl⟩|⟨_,rfl⟩|⟨_,rfl⟩|⟨_,l,_,rfl,_⟩
  .exact .inl (.inr (.inr ⟨k,rfl⟩))
  .exact .inl (.inl rfl)
  .exact .inl (.inr (.inl rfl))
  .exact .inr ⟨l,rfl⟩
 obtain⟨C,vB,G6⟩:∃C,(zeroValue e).run P w = .ok C w/\fR c w C z:=by
  unfold EI at F
  cases hi:P.info? e with
  | none=>simp[hi]at F
  | some i=>
   simp only[hi,Option.bind_some]at F
   cases BF:i.zero with
   | none=>simp[BF]at F
   | some C=>
    simp only[BF,Option.bind_some]at F;exact⟨C,by simp[zeroValue,run_typeInfo hi,BF],S0 F⟩
 unfold yg at y;split at y
 .rename_i v0 kv Gt;split at y
  .rename_i K es X;split at y
   .rename_i jk;obtain⟨rfl,J⟩:=jk;have o:=RZ h2 Gt;subst o
    cases h1 with
    | gx _ L gf M=>
     have N:=h.ob v0 _ (tI X);simp only[Ob.gen]at N;rw[gf]at N;simp only[gV]at N;obtain⟨_,tt,arr,f,Z,g⟩:=N;have Gi:=Sl g tt;have Bi:=run_findKey V J arr.toList Gi w;have rW:=run_checkKey (w:=w) V false J;have qf:(getObj L.b).run P w = .ok (.map arr f) w:=by simp[getObj,Sem.run,Z]
     have Gq:∀y',∀x∈mg es v y',K.has x.1=true:=λy' x n=>by
      rcases Y8 x n with h|rfl
      .exact tt x h
      .exact J
     have W:∀(j:Nat) (e:MapEntry) (x:Value×D),arr.toList[j]? = some e->es[j]? = some x->e.key=x.1/\fR c w e.val x.2:=λj e x s n=>let ⟨a,b,_⟩:=g.2.1 j e x (by simpa using s) n;⟨a,b⟩
     have A:arr.toList.length=es.length:=by simpa using g.1
     rcases Y7 (c:=c) (w:=w) v arr.toList es 0 A W with⟨O,g2⟩|⟨j0,Q,d0,O,g2,g3⟩
     .rw[g2]at y;cases y;rcases F0 (c:=c) (w:=w) v arr.toList es 0 A W with⟨f1,f2,f3⟩|⟨j,val,d,f1,f2,_⟩
      .have Y:(Instr.mapEntry t (.map (some L.b)) v).run P w = .ok (.tuple #[C,goInt f]) { w with heap:=w.heap.setIfInBounds L.b (.map (arr.push { key:=v,val:=C,born:=f }) (f+1)) }:=by simp only[Instr.mapEntry,Sem.run_bind,run_underlying hu,Result.andThen_ok,qf,rW,Bi,f1,vB];simp[setObj,Sem.run,Z]
       obtain⟨m1,m2⟩:=Am h (tI X) rfl rfl rfl gf M (.map (arr.push { key:=v,val:=C,born:=f }) (f+1)) (ob':=.map K (mg es v z)) (by
        intro w' U I;simp only[gV];refine⟨M,Gq z,_,_,U,?_⟩;rw[f3];refine⟨by simp[g.1],λi e x s n=>?_,by simp[g.2.2]⟩;rw[eE]at s;split at s
        .rename_i hi;cases s;rw[ai (by rw[hi,g.1];exact Nat.le_refl _),hi,g.1]at n;simp at n;subst n;exact⟨rfl,I _ _ G6,by rw[hi,g.1,g.2.2]⟩
        .have hi:i<es.length:=by rw[<-g.1];exact(aP.1 s).1
         rw[ah hi]at n;obtain⟨p,q,r⟩:=g.2.1 i e x s n
         exact⟨p,I _ _ q,r⟩)
       refine⟨_,_,Y,_,_,c,⟨rfl,rfl⟩,m1,.tup [C,goInt f] _ rfl (λi v d o B=>?_),m2⟩
       match i,o,B with
       | 0,o,B=>cases o;cases B;exact G6.pJ h.toHeapOK m2
       | 1,o,B=>cases o;cases B;rw[g.2.2];exact .val _
      .rw[O]at f1;cases f1
     .rw[g2]at y;cases y;rcases F0 (c:=c) (w:=w) v arr.toList es 0 A W with⟨f1,f2,f3⟩|⟨j,val,d,f1,f2,_,f4,f5,E,f6,f7⟩
      .rw[O]at f1;cases f1
      .have R:0+j0=0+j/\Q=val:=by rw[O]at f1;simp only[aq,dB]at f1;exact f1
       obtain⟨R,rfl⟩:=R;have R:j0=j:=by omega
       subst R;have ni:j0<arr.size:=by simpa using f4
       have T:arr[j0]? = some E:=by simpa using f6
       have Q2:K.has E.key=true:=Gi E (List.mem_of_getElem? f6)
       have Rx:(Instr.keyThatStays E.key v).run P w = .ok v w:=by simp[Instr.keyThatStays,aax Rn J Q2 f7]
       have Xp:j0<es.length:=by rw[<-g.1];exact ni
       have S:E.val=Q/\E.born=j0:=by refine⟨?_,(g.2.1 j0 E es[j0] T (by simp[Xp])).2.2⟩;exact Wb (kv:=v) (i:=0) f1 f6
       have Y:(Instr.mapEntry t (.map (some L.b)) v).run P w = .ok (.tuple #[Q,goInt (j0:Nat)]) { w with heap:=w.heap.setIfInBounds L.b (.map (arr.modify j0 λe=>{ e with key:=v }) f) }:=by simp only[Instr.mapEntry,Sem.run_bind,run_underlying hu,Result.andThen_ok,qf,rW,Bi,f1,aQ,T,aG,aW,Rx,S.2];simp[setObj,Sem.run,Z]
       obtain⟨m1,m2⟩:=Am h (tI X) rfl rfl rfl gf M (.map (arr.modify j0 λe=>{ e with key:=v }) f) (ob':=.map K (mg es v d0)) (by
        intro w' U I;simp only[gV];refine⟨M,Gq d0,_,_,U,?_⟩;rw[f5];refine⟨by simp[g.1],λi e x s n=>?_,by simp[g.2.2]⟩;rw[bf]at s;rw[bS]at n;split at s
        .rename_i hi;subst hi;rw[if_pos rfl,if_pos Xp]at n;simp only[ak]at s;obtain⟨e0,h0,rfl⟩:=s;cases n;rw[T]at h0;cases h0;exact⟨rfl,I _ _ (by rw[S.1];exact g3),S.2⟩
        .rename_i hi;rw[if_neg hi]at n;obtain⟨p,q,r⟩:=g.2.1 i e x s n
         exact⟨p,I _ _ q,r⟩)
       refine⟨_,_,Y,_,_,c,⟨rfl,rfl⟩,m1,.tup [Q,goInt (j0:Nat)] _ rfl (λi v d o B=>?_),m2⟩
       match i,o,B with
       | 0,o,B=>cases o;cases B;exact g3.pJ h.toHeapOK m2
       | 1,o,B=>cases o;cases B;rw[aQ];exact .val _
   .cases y
  .cases y
 .cases y
theorem alC(h:gv G c H w){al:Al}{t:TypeId}{m s x d:D}{δ:Dl}{u v k:Value}(h1:fR c w u m)(U:fR c w v s)(T:fR c w k x)
  (b:AJ m s x H=some (d,δ)):∃w',(Instr.entryStore t u v k).run P w = .ok () w'/\ja G c H w (KO H al d δ) undef w':=by
 unfold AJ at b;split at b
 .rename_i v0 n;split at b
  .rename_i kk es E;split at b
   .rename_i C W hg;split at b
    .rename_i S;cases b;cases U
     cases h1 with
     | gx _ L K F=>
      have o:=h.ob v0 _ (tI E);simp only[Ob.gen]at o;rw[K]at o;simp only[gV]at o;obtain⟨_,B,arr,a,J,g⟩:=o;have z:n.toNat<es.length:=(ae.1 hg).1;have M:n.toNat<arr.size:=by rw[g.1];exact z
      have A:arr.findIdx? (λe=>(e.born:Int) == n)=some n.toNat:=by
       rw[Array.findIdx?_eq_some_iff_getElem];refine⟨M,?_,λj Y=>?_⟩
       .have:=(g.2.1 n.toNat arr[n.toNat] es[n.toNat] (by simp[M]) (by simp[z])).2.2;rw[this];have e:((n.toNat:Nat):Int)=n:=b6 S;rw[e];simp
       .have Q:j<es.length:=by omega
        have:=(g.2.1 j arr[j] es[j] (by simp) (by simp[Q])).2.2;rw[this];simp;omega
      have O:(getObj L.b).run P w = .ok (.map arr a) w:=by simp[getObj,Sem.run,J]
      have X:(asInt (.int .i64 n)).run P w = .ok n w:=by simp[asInt,asIntOf]
      have R:(Instr.entryStore t (.map (some L.b)) (.int .i64 n) k).run P w = .ok () { w with heap:=w.heap.setIfInBounds L.b (.map (arr.modify n.toNat λe=>{ e with val:=k }) a) }:=by simp only[Instr.entryStore,Sem.run_bind,Result.andThen_ok,O,X,A];simp[setObj,Sem.run,J]
      obtain⟨m1,m2⟩:=Am h (tI E) rfl rfl rfl K F (.map (arr.modify n.toNat λe=>{ e with val:=k }) a) (ob':=.map kk (es.set n.toNat (C,x))) (by
       intro w' N I;simp only[gV];refine⟨F,λy f=>?_,_,_,N,?_⟩
       .rcases dD f with f|rfl
        .exact B y f
        .exact B (C,W) (List.mem_of_getElem? hg)
       refine⟨by simp[g.1],λi e y l f=>?_,by simp[g.2.2]⟩;rw[bf]at l;rw[bS]at f;split at l
       .rename_i hi;subst hi;rw[if_pos rfl,if_pos z]at f;cases f;simp only[ak]at l;obtain⟨V,h0,rfl⟩:=l;obtain⟨p,q,r⟩:=g.2.1 _ V _ h0 hg;exact⟨p,I _ _ T,r⟩
       .rename_i hi;rw[if_neg hi]at f;obtain⟨p,q,r⟩:=g.2.1 i e y l f
        exact⟨p,I _ _ q,r⟩)
      exact⟨_,R,_,_,c,⟨rfl,rfl⟩,m1,.any _,m2⟩
    .cases b
   .cases b
  .cases b
 .cases b
theorem anu(h:gv G c H w)(l:kK c w env a){al:Al}(L:mW H al){o:Oper}{R:iD}(b:sB P G o=some R){d:D}{δ:Dl}(g:ml env H al.1 R=some (d,δ)) :
  ∃v w',CO ((execOp a.eval o).run P w) v w'/\ja G c H w (KO H al d δ) v w':=by
 have plain:∀ {v:Value} {d:D},fR c w v d->ja G c H w (KO H al d .no) v w:=λq=>⟨_,_,c,⟨rfl,rfl⟩,h,q,Step.refl _ _ _ _⟩;unfold sB at b;split at b
 .rename_i t x y ty f;split at b
  .rename_i n;simp only[ak]at b;obtain⟨X,hX,rfl⟩:=b
   have M:y = .const (.slice none 0 0):=by
    have:=n.2;unfold Ma at this;split at this
    .rfl
    .cases this
   subst M;obtain⟨C,rfl⟩:=mf g;obtain⟨r,h1,j⟩:=ZB h n.1 (iE h l hX) C x (.const (.slice none 0 0));exact⟨r,w,by simp only[execOp,f];exact jA h1,plain j⟩
  .cases b
 .rename_i t x y ty f;split at b
  .rename_i n;simp only[ak]at b;obtain⟨X,hX,rfl⟩:=b
   have M:y = .const (.slice none 0 0):=by
    have:=n.2;unfold Ma at this;split at this
    .rfl
    .cases this
   subst M;obtain⟨C,rfl⟩:=mf g;obtain⟨r,h1,j⟩:=ZB h n.1 (iE h l hX) C x (.const (.slice none 0 0));exact⟨r,w,by simp only[execOp,f];exact jA h1,plain j⟩
  .cases b
 .rename_i t x f;split at b
  .rename_i X p hX;cases b;simp only[ml]at g;split at g
   .rename_i s hs;cases g;have q:=iE h l hX;rw[hs]at q;generalize Q:a.eval x=u at q;cases q;obtain⟨k1,k2,k3⟩:=NP h L (.stringIter s 0) (.sn s 0) rfl rfl (λ_ U=>by simp only[gV];exact⟨trivial,trivial,U⟩);refine⟨_,_,by simp only[execOp,f,Q];exact jA (v:=.pointer (some ⟨w.heap.size,0,none⟩)) (w':=w.alloc (.stringIter s 0)) (by simp[Instr.range,run_underlying p]),_,_,_,⟨rfl,rfl⟩,k1,k2,k3⟩
   .cases g
  .rename_i k e X p hX;cases b;obtain⟨r,w',h1,j⟩:=alV (P:=P) h L p (iE h l hX) g;exact⟨r,w',by simp only[execOp,f];exact jA h1,j⟩
  .cases b
 .rename_i x f;simp only[ak]at b;obtain⟨X,hX,rfl⟩:=b;obtain⟨r,w',h1,j⟩:=alS (P:=P) (ty:=o.type) h (iE h l hX) g;exact⟨r,w',by simp only[execOp,f];exact jA h1,j⟩
 .simp only[ak]at b;obtain⟨X,hX,rfl⟩:=b;cases g
 .rename_i x f;simp only[ak]at b;obtain⟨X,hX,rfl⟩:=b;obtain⟨C,rfl⟩:=mf g;obtain⟨r,h1,j⟩:=alD (P:=P) h (iE h l hX) C;exact⟨r,w,by simp only[execOp,f];exact jA h1,plain j⟩
 .rename_i cl f;split at b
  .rename_i t x F E B;split at b
   .rename_i O;simp only[ak]at b;obtain⟨X,hX,rfl⟩:=b;have A:cl.argTypes = #[t]:=by rw[<-bL (xs:=cl.argTypes),E]
    have K:cl.args = #[x]:=by rw[<-bL (xs:=cl.args),B]
    have q:=iE h l hX;simp only[ml]at g;split at g
    .rename_i S;cases g;rw[S]at q;generalize Q:a.eval x=u at q;cases q
     have W:∃e,P.underlying t=some (.slice e):=by
      unfold Eu at O;split at O
      .exact⟨_,by assumption⟩
      .cases O
     obtain⟨e,p⟩:=W;refine⟨.int .i64 0,w,by rw[w8 f F,A,K];exact jA (by simp[Q,Builtin.cap_,run_underlying p,goInt]),plain (.val _)⟩
    .cases g
   .cases b
  .rename_i t x F E B;have A:cl.argTypes = #[t]:=by rw[<-bL (xs:=cl.argTypes),E]
   have K:cl.args = #[x]:=by rw[<-bL (xs:=cl.args),B]
   split at b
   .rename_i e p;split at b
    .rename_i z i X I hi hX;split at b
     .rename_i n;cases b;obtain⟨w',h1,j⟩:=alz (P:=P) (al:=al) (ty:=o.type) h p hi I n.1 n.2 (iE h l hX) g;exact⟨_,w',by rw[w8 f F,A,K];exact jA (by simpa using h1),j⟩
     .cases b
    .cases b
   .cases b
  .rename_i t u x y F E B;have A:cl.argTypes = #[t,u]:=by rw[<-bL (xs:=cl.argTypes),E]
   have K:cl.args = #[x,y]:=by rw[<-bL (xs:=cl.args),B]
   split at b
   .rename_i e p N;split at b
    .rename_i z i X Y I hi hX J;split at b
     .rename_i n;cases b;obtain⟨r,w',h1,j⟩:=alq (P:=P) (ty:=o.type) h L p N hi I n.1 n.2 (iE h l hX) (iE h l J) g;exact⟨r,w',by rw[w8 f F,A,K];exact jA (by simpa using h1),j⟩
     .cases b
    .cases b
   .cases b
  .cases b
 .rename_i t m k f;split at b
  .rename_i kt e p;split at b
   .rename_i kk z X Y T I hX J;cases b;obtain⟨r,w',h1,j⟩:=alO (P:=P) (al:=al) h p T I (iE h l hX) (iE h l J) g;exact⟨r,w',by simp only[execOp,f];exact jA h1,j⟩
   .cases b
  .cases b
 .rename_i t m s x f;split at b
  .rename_i X Y Z hX J V;cases b;obtain⟨w',h1,j⟩:=alC (P:=P) (al:=al) (t:=t) h (iE h l hX) (iE h l J) (iE h l V) g;exact⟨_,w',by simp only[execOp,f];exact II h1,j⟩
  .cases b
 .cases b
end
end Go.AL
namespace Go.AL
open Go
abbrev FW(ro:Option Nat):Fence:={ Fence.wide with round:=ro }
theorem FA{a:Option Nat}{n:Nat}{P:Program}{f:FuncId}{args:Array Value}{w:World}{R:Ending->World->Prop}:CallsIn (FW a) n P f args w R↔Calls P f args w R:=
 callsIn_wide (n:=n)
inductive rO(c:Ctx):List Nat->List Deferred->Prop
 | nil:rO c [] []
 | cons {v:Nat} {vs:List Nat} {ds:List Deferred} (L:Loc) (h1:c.ι v 0=some L) (h2:L.jG=false) (h:rO c vs ds):rO c (v::vs) ({ target:=.collected L.b,args:=#[] }::ds)
theorem rO.mono{c c':Ctx}(d:∀v L,c.ι v 0=some L->c'.ι v 0=some L){vs:List Nat}{ds:List Deferred}(h:rO c vs ds):rO c' vs ds:=by
 induction h with
 | nil=>exact .nil
 | cons L h1 b _ a=>exact .cons L (d _ _ h1) b a
structure kX(G:GT)(N:Nat)(c:Ctx)(w:World)(s:St)(a:Act):Prop where
 fV:gv G c s.H w
 env:kK c w s.env.get a
 size:N<=a.tmps.size
 marks:rO c s.marks a.defers
def s9(N:Nat):Option Tmp->Bool
 | some d=>decide (d<N)
 | none=>true
def Pq(P:Program)(G:GT)(o:Oper):Option iD:=match nz P G o with
 | some op=>some op
 | none=>sB P G o
def wv(P:Program)(G:GT)(N:Nat)(ops:Array Oper)(o:Oper):Option gR:=
 match Pq P G o with
 | none=>none
 | some op=>if s9 N o.dst=true then(match o.guard with
   | none=>some ⟨o.dst,op,none⟩
   | some (j,want)=>match (ops[j]?).bind (·.dst)with
    | some t=>some ⟨o.dst,op,some (t,want)⟩
    | none=>none)else none
def ph(P:Program)(G:GT)(N:Nat)(ops:Array Oper):List Oper->Option (List gR)
 | []=>some []
 | o::r=>match wv P G N ops o,ph P G N ops r with
  | some e,some l=>some (e::l)
  | _,_=>none
section
variable{P:Program}{G:GT}{c:Ctx}{w:World}{env:gL}{a:Act}{N:Nat}
theorem amn{env:Env}{a:Act}{c:Ctx}{w:World}(b:kK c w env.get a)(hN:N<=a.tmps.size){dst:Option Tmp}(f:s9 N dst=true){v:Value}{d:D}(h:fR c w v d) :
  kK c w (put env dst d).get (a.put dst v):=by
 cases dst with
 | none=>exact b
 | some t=>
  have g:t<a.tmps.size:=aN (by simpa[s9]using f) hN;intro k;simp only[put,Env.wD,Act.put];split
  .simp_all
  .rename_i e;have:(a.tmps.setIfInBounds t v).getD k undef=a.tmps.getD k undef:=by simp_all
   rw[this];exact b k
theorem ZT{a:Act}{dst:Option Tmp}{v:Value}:(a.put dst v).tmps.size=a.tmps.size:=by cases dst<;>simp[Act.put]
theorem put_defers{a:Act}{dst:Option Tmp}{v:Value}:(a.put dst v).defers=a.defers:=by cases dst<;>rfl
theorem kK.carry{c c':Ctx}{w w':World}(h:∀v d,fR c w v d->fR c' w' v d)(b:kK c w env a):kK c' w' env a:=λk=>h _ _ (b k)
theorem kX.next{c':Ctx}{w':World}{H':U}{s:St}(hs:kX G N c w s a)(fV:gv G c' H' w')(e:Step s.H.length c s.H w c' H' w'){dst:Option Tmp}(g:s9 N dst=true)
  {v:Value} {d:D} (f:fR c' w' v d):kX G N c' w' { s with env:=put s.env dst d,H:=H' } (a.put dst v) where
 fV:=fV
 env:=amn (hs.env.carry λ_ _ h=>h.pJ hs.fV.toHeapOK e) hs.size g f
 size:=by rw[ZT];exact hs.size
 marks:=by
  rw[put_defers];refine hs.marks.mono λv L h=>e.old v 0 L ?_ h;rcases bE v s.H.length with b|b
  .exact b
  .rw[hs.fV.out v 0 b]at h;cases h
theorem uN(p:kK c w env a){ops:Array Oper}{o:Oper}{g:Option (Nat×Bool)}(hg:match o.guard with
   | none=>g=none
   | some (j,d)=>∃t,(ops[j]?).bind (·.dst)=some t/\g=some (t,d)) {b:Bool} (h:guardOf env g=some b):Region.wanted o (yielded ops a.tmps)=b:=by
 unfold Region.wanted;split at hg
 .rename_i l;subst hg;simp only[guardOf,aq]at h;simp[l,h]
 .rename_i j d l;obtain⟨t,n,rfl⟩:=hg;simp only[guardOf]at h;split at h
  .rename_i x m;cases h;have f:=p t;rw[m]at f;generalize e:a.tmps.getD t undef=v at f;cases f
   have i:a.tmps[t]? = some (.bool x):=by
    rw[cS]at e
    cases k:a.tmps[t]? with
    | none=>rw[k]at e;simp[undef]at e
    | some q=>rw[k]at e;simpa using e
   simp only[l,yielded,n,Option.bind_some,i];cases x<;>cases d<;>rfl
  .rename_i vs m;cases h;have f:=p t;rw[m]at f;generalize e:a.tmps.getD t undef=v at f;cases f
   have i:a.tmps[t]? = some (.tuple vs)\/a.tmps[t]? = none:=by
    rw[cS]at e
    cases k:a.tmps[t]? with
    | none=>exact .inr rfl
    | some q=>rw[k]at e;exact .inl (by simpa using e)
   rcases i with i|i<;>simp only[l,yielded,n,Option.bind_some,i]<;>cases d<;>rfl
  .cases h
theorem Vb{o:Oper}{op:iD}(h:Pq P G o=some op):nz P G o=some op\/sB P G o=some op:=by
 unfold Pq at h;split at h
 .grind
 .exact .inr h
theorem U9{o:Oper}{a:iD}(b:nz P G o=some a\/sB P G o=some a){f:gL}{H:U}{n:Nat}{r:D×Dl}(h:gH f H n a=some r):nz P G o=some a:=by refine b.resolve_right λc=>?_;rw[anH (Pr c)]at h;cases h
theorem FG{o:Oper}{a:iD}(b:nz P G o=some a\/sB P G o=some a){f:gL}{r:FuncId×List D}(h:kA f a=some r):nz P G o=some a:=by refine b.resolve_right λc=>?_;rw[anI (Pr c)]at h;cases h
theorem y4{ops:Array Oper}{o:Oper}{e:gR}(h:wv P G N ops o=some e) :
  (nz P G o=some e.op\/sB P G o=some e.op)/\e.dst=o.dst/\(s9 N o.dst=true)/\(match o.guard with
   | none=>e.guard=none
   | some (j,a)=>∃t,(ops[j]?).bind (·.dst)=some t/\e.guard=some (t,a)):=by
 unfold wv at h;split at h
 .cases h
 .rename_i op b;split at h
  .rename_i c;split at h
   .rename_i hg;cases h;exact⟨Vb b,rfl,c,by simp[hg]⟩
   .rename_i j a hg;split at h
    .rename_i t d;cases h;exact⟨Vb b,rfl,c,t,d,rfl⟩
    .cases h
  .cases h
theorem BS{o:Oper}{a:iD}(h:nz P G o=some a):∀c,o.op≠.defer c:=by intro c b;simp[nz,b]at h
theorem Zm{o:Oper}{a:iD}(h:sB P G o=some a):∀c,o.op≠.defer c:=by intro c b;simp[sB,b]at h
theorem aoa{e:Option Nat}{n:Nat}{o:Oper}{s:St}{f:iD}{d:D}{δ:Dl}{next:Act->World->Prop}{Q:Exit->Act->World->Prop}(hs:kX G N c w s a)(i:sB P G o=some f)
  (q:s9 N o.dst=true) {al:Al} (m:mW s.H al) (h:ml s.env.get s.H al.1 f=some (d,δ))
  (k:∀c' w' l,kX G N c' w' { s with env:=put s.env o.dst d,H:=δ.app s.H al } l->Step s.H.length c s.H w c' (δ.app s.H al) w'->next l w'):o.wpIn (FW e) n P a w next Q:=by
 obtain⟨v,w',b,d',H',c',⟨rfl,rfl⟩,fV,p,j⟩:=anu (P:=P) hs.fV hs.env m i h;refine⟨λ_ _=>trivial,?_⟩;rw[Oper.semAt_plain (FW e) a.eval o (Zm i)];have g:=k c' w' (a.put o.dst v) (hs.next fV j q p) j;rcases b with b|⟨b,rfl⟩
 .rw[b];exact g
 .rw[b];exact g
theorem an7{ro:Option Nat}{n:Nat}{o:Oper}{s:St}{x:X}{next:Act->World->Prop}{Q:Exit->Act->World->Prop}(hs:kX G N c w s a)(q:sB P G o=some (.nextM x))
  (g:s9 N o.dst=true) {v m since:Nat} {seen:List Nat} {kk:KK} {es:List (Value×D)} (hx:ev s.env.get x = .ptr v 0 0) (f:s.H[v]? = some (.iX (.gx m) since seen)) (hm:s.H[m]? = some (.map kk es)) (nq:es.length=since)
  (k0:(∀i,i<es.length->i∈seen)->∀c' w' B,kX G N c' w' { s with env:=put s.env o.dst (.tup [.b false]) } B->Step s.H.length c s.H w c' s.H w'->next B w')
  (k1:∀i k d,es[i]? = some (k,d)->i ∉ seen->∀c' w' B,kX G N c' w' { s with env:=put s.env o.dst (.tup [.b true,se k,d]),H:=s.H.set v (.iX (.gx m) since (seen ++ [i])) } B ->
   Step s.H.length c s.H w c' (s.H.set v (.iX (.gx m) since (seen ++ [i]))) w'->next B w'):o.wpIn (FW ro) n P a w next Q:=by
 have iy:∃y,o.op = .next y false/\cX G y=some x:=by
  unfold sB at q
  repeat' split at q
  all_goals first|(cases q;done)|(simp only[ak]at q;obtain⟨_,_,R⟩:=q;cases R;done)|skip
  simp only[ak]at q;obtain⟨X,hX,R⟩:=q;cases R;exact⟨_,by assumption,hX⟩
 obtain⟨y,ho,hX⟩:=iy;have O:=iE hs.fV hs.env hX;rw[hx]at O;generalize hu:a.eval y=u at O
 cases O with
 | ptr _ _ _ L gf ic=>
  have I:=hs.fV.ob v _ f;simp only[Ob.gen]at I;rw[gf]at I;simp only[gV]at I;obtain⟨_,J,bm,DP,r⟩:=I
  cases DP with
  | gx _ p BG Nt=>
   have E:=hs.fV.ob m _ hm;simp only[Ob.gen]at E;rw[BG]at E;simp only[gV]at E;obtain⟨_,tt,arr,b,GD,iA,K,Gn⟩:=E;have pP:b=since:=by rw[Gn,nq]
   subst pP;refine⟨λ_ _=>trivial,?_⟩;rw[Oper.semAt_plain (FW ro) a.eval o (Zm q)]
   have Y:∀e∈arr.toList,e.born<b:=by
    intro e t;obtain⟨i,hi⟩:=aC.1 t;have C:i<es.length:=by rw[<-iA];have:=(ae.1 hi).1;simpa using this
    have:=(K i e es[i] (by simpa using hi) (by simp[C])).2.2;omega
   have X3:=next_test_false seen.toArray arr b b Y (Nat.le_refl _)
   have z:(leftOf arr seen.toArray).filter (λe=>decide (e.born<b))=leftOf arr seen.toArray:=by apply Array.filter_eq_self.2;intro e t;simp only[decide_eq_true_eq];exact Y e (by simpa using (ec.1 t).1)
   have me:(leftOf arr seen.toArray).filter (λe=>decide (e.born>=b)) = #[]:=by apply Array.filter_eq_empty_iff.2;intro e t;have:=Y e (by simpa using (ec.1 t).1);simp;omega
   have Xj:∀w1:World,w1.heap=w.heap->(getObj L.b).run P w1 = .ok (.mapIter (some p.b) b seen.toArray b) w1:=λw1 h1=>by simp[getObj,Sem.run,h1,r]
   have Xl:∀w1:World,w1.heap=w.heap->(getObj p.b).run P w1 = .ok (.map arr b) w1:=λw1 h1=>by simp[getObj,Sem.run,h1,GD]
   have pU:∀e,e∈(leftOf arr seen.toArray).toList->∃i k d,es[i]? = some (k,d)/\i ∉ seen/\e.key=k/\fR c w e.val d/\e.born=i:=by
    intro e t
    have wI:e∈arr/\(!seen.toArray.contains e.born)=true:=by have:=ec.1 (show e∈leftOf arr seen.toArray by simpa using t);exact this
    obtain⟨i,hi⟩:=aC.1 (show e∈arr.toList by simpa using wI.1);have C:i<es.length:=by rw[<-iA];have:=(ae.1 hi).1;simpa using this
    obtain⟨q1,q2,q3⟩:=K i e es[i] (by simpa using hi) (by simp[C]);refine⟨i,es[i].1,es[i].2,by simp[C],?_,q1,q2,q3⟩;have:=wI.2;rw[q3]at this;simpa using this
   by_cases F:(leftOf arr seen.toArray) = #[]
   .have M:(execOp a.eval o).run P w = .ok (.value (.tuple #[.bool false])) w:=by
     have A:(Instr.next (.pointer (some ⟨L.b,0,none⟩)) false o.type).run P w = .ok (.tuple #[.bool false]) w:=by have Z:(arr.filter λe => !(seen.toArray).contains e.born) = #[]:=F;simp only[Instr.next,Sem.run_bind,Xj w rfl,Result.andThen_ok,Xl w rfl,X3,bz,if_false,Sem.run_pure,Z];simp[choose,Sem.run,Question.forced]
     simp only[execOp,ho,hu];rw[J];simp[A]
    rw[M];refine k0 (λi hi=>?_) c w _ (hs.next hs.fV (Step.refl _ _ _ _) g (.tup [.bool false] _ rfl λj v d f g=>?_)) (Step.refl _ _ _ _)
    .by_cases gy:i∈seen
     .exact gy
     .exfalso;have Bo:i<arr.size:=by omega
      have W:=(K i arr[i] es[i] (by simp[Bo]) (by simp[hi])).2.2
      have:arr[i]∈leftOf arr seen.toArray:=by refine ec.2 ⟨Array.getElem_mem _,?_⟩;rw[W];simpa using gy
      rw[F]at this;simp at this
    .match j,f,g with
     | 0,f,g=>cases f;cases g;exact .val _
   .have gU:(leftOf arr seen.toArray).isEmpty=false:=by
     cases hq:(leftOf arr seen.toArray).isEmpty with
     | false=>rfl
     | true=>exact absurd (Array.isEmpty_iff.1 hq) F
    have kb:0<(leftOf arr seen.toArray).size:=by
     rcases eQ (leftOf arr seen.toArray).size with h|h
     .exact absurd (Array.eq_empty_of_size_eq_zero h) F
     .exact h
    have QL:∃(i:Nat) (w1:World),i<(leftOf arr seen.toArray).size/\jZ w w1/\w1.heap=w.heap/\(choose (.mapNext (leftOf arr seen.toArray).size)).run P w = .ok i w1:=by
     by_cases hf:(Question.mapNext (leftOf arr seen.toArray).size).forced=true
     .exact⟨0,w,kb,jZ.refl w,rfl,by simp[choose,Sem.run,hf]⟩
     .exact⟨w.tape w.drawn (.mapNext (leftOf arr seen.toArray).size) % (leftOf arr seen.toArray).size,{ w with drawn:=w.drawn+1 },Nat.mod_lt _ kb,jZ.drew w,rfl,by simp[choose,Sem.run,hf,Question.cut]⟩
    obtain⟨i,w1,hi,Xm,U,V⟩:=QL;obtain⟨l,k,d,h1,A,h3,h4,h5⟩:=pU (leftOf arr seen.toArray)[i] (by simp);have xU:=hs.fV.po Xm
    obtain⟨m1,m2⟩:=Am xU f rfl rfl (ob':=.iX (.gx m) b (seen ++ [l])) rfl gf ic (.mapIter (some p.b) b (seen ++ [l]).toArray b) (λw' qh tz=>by
     simp only[gV]
     exact⟨ic,J,p.b,.gx m p BG Nt,qh⟩)
    have T:Step s.H.length c s.H w c (s.H.set v (.iX (.gx m) b (seen ++ [l]))) { w1 with heap:=w1.heap.setIfInBounds L.b (.mapIter (some p.b) b (seen ++ [l]).toArray b) }:=(Cj _ Xm).trans m2 (Nat.le_refl _)
    have M:(execOp a.eval o).run P w = .ok (.value (.tuple #[.bool true,k,(leftOf arr seen.toArray)[i].val])) { w1 with heap:=w1.heap.setIfInBounds L.b (.mapIter (some p.b) b (seen ++ [l]).toArray b) }:=by
     have np:(setObj L.b (.mapIter (some p.b) b (seen ++ [l]).toArray b)).run P w1 = .ok () { w1 with heap:=w1.heap.setIfInBounds L.b (.mapIter (some p.b) b (seen ++ [l]).toArray b) }:=by simp[setObj,Sem.run,U,r]
     have A:(Instr.next (.pointer (some ⟨L.b,0,none⟩)) false o.type).run P w = .ok (.tuple #[.bool true,k,(leftOf arr seen.toArray)[i].val]) { w1 with heap:=w1.heap.setIfInBounds L.b (.mapIter (some p.b) b (seen ++ [l]).toArray b) }:=by
      have Z:(arr.filter λe => !(seen.toArray).contains e.born)=leftOf arr seen.toArray:=rfl;have jr:((if (leftOf arr seen.toArray).isEmpty then #[none]else #[])++(leftOf arr seen.toArray ++ #[]).map some)=(leftOf arr seen.toArray).map some:=by simp[gU]
      simp only[Instr.next,Sem.run_bind,Xj w rfl,Result.andThen_ok,Xl w rfl,X3,bz,if_false,Sem.run_pure,Z,z,me,jr,Array.size_map,V];have S:((leftOf arr seen.toArray).map some)[i]? = some (some (leftOf arr seen.toArray)[i]):=by simp[hi]
      simp only[S,Sem.run_bind];rw[h5,show seen.toArray.push l=(seen ++ [l]).toArray by simp,np];simp[h3]
     simp only[execOp,ho,hu];rw[J];simp[A]
    rw[M];refine k1 l k d h1 A c _ _ (hs.next m1 T g (.tup [.bool true,k,(leftOf arr seen.toArray)[i].val] _ rfl λj v d f g=>?_)) T
    match j,f,g with
    | 0,f,g=>cases f;cases g;exact .val _
    | 1,f,g=>cases f;cases g;exact Z' (tt _ (List.mem_of_getElem? h1))
    | 2,f,g=>cases f;cases g;exact h4.pJ hs.fV.toHeapOK T
theorem an8{e:Option Nat}{n:Nat}{o:Oper}{s:St}{f:iD}{d:D}{δ:Dl}{next:Act->World->Prop}{Q:Exit->Act->World->Prop}(hs:kX G N c w s a)(i:nz P G o=some f)
  (q:s9 N o.dst=true) {al:Al} (m:mW s.H al) (h:gH s.env.get s.H al.1 f=some (d,δ))
  (k:∀c' w' l,kX G N c' w' { s with env:=put s.env o.dst d,H:=δ.app s.H al } l->Step s.H.length c s.H w c' (δ.app s.H al) w'->next l w'):o.wpIn (FW e) n P a w next Q:=by
 obtain⟨v,w',b,d',H',c',⟨rfl,rfl⟩,fV,p,j⟩:=ZQ (P:=P) (K:=λd' H'=>d'=d/\H'=δ.app s.H al) hs.fV hs.env m i (Uy h ⟨rfl,rfl⟩);refine⟨λ_ _=>trivial,?_⟩;rw[Oper.semAt_plain (FW e) a.eval o (BS i)];have g:=k c' w' (a.put o.dst v) (hs.next fV j q p) j;rcases b with b|⟨b,rfl⟩
 .rw[b];exact g
 .rw[b];exact g
end
end Go.AL
namespace Go.AL
open Go
section
variable{P:Program}{G:GT}{c:Ctx}{w:World}{env:gL}{a:Act}{N:Nat}
theorem Vc{o:Oper}{b:iD}(a:nz P G o=some b)(h:Hh b=true):∃cl,o.op = .call cl:=by
 unfold nz at a;split at a
 all_goals first|exact⟨_,by assumption⟩|skip
 all_goals exfalso
 all_goals try simp only[aA,ag,aD]at a
 all_goals (repeat' first|(obtain⟨_,_,a⟩:=a)|split at a|simp only[ag]at a)
 all_goals first|(simp[Hh]at h;done)|(cases a<;>simp[Hh]at h)
theorem Oj{H:U}(fV:gv G c H w)(u:kK c w env a){o:Oper}{l:iD}(b:nz P G o=some l){f:FuncId}{args:List D}(d:kA env l=some (f,args))(s:sF P f=true) :
  ∃vs:List Value,(execOp a.eval o).run P w = .ok (.enter f vs.toArray) w/\ju c w vs args:=by
 have K:=b;unfold nz at b
 cases j:o.op with
 | call cl=>
  simp only[j,aA,ag]at b;obtain⟨xs,A,b⟩:=b;have t:=Ay fV u cl.args.toList A;split at b
  .rename_i g r;split at b
   .have q:g=f/\List.map (ev env) xs=args:=by
     cases b;have E:kA env (if G.nw g=true then iD.callN g xs else iD.call g xs)=some (g,xs.map (ev env)):=by split<;>rfl
     rw[E]at d;simpa using d
    obtain⟨rfl,rfl⟩:=q;refine⟨_,?_,t⟩;have e:cl.args.map a.eval=(cl.args.toList.map a.eval).toArray:=by cases cl.args;simp
    simp only[execOp,j,resolve,r,Act.eval,Deferred.ofValue,Sem.run_bind,Sem.run_pure,Result.andThen_ok,invoke];rw[<-e];have h:=Ol (P:=P) s (cl.args.map a.eval) w;simpa using h
   .cases b
  .rename_i x L r;simp only[ag,aD,aq]at b;obtain⟨X,hX,rfl⟩:=b;simp only[kA]at d;split at d
   .rename_i k first cap qe
    cases d;have m:=iE fV u hX;rw[qe]at m;generalize C:a.eval x=v at m
    cases m with
    | fn _ fs cs _ _ J p I F=>
     refine⟨fs++cl.args.toList.map a.eval++cs,?_,((ju.HJ J I).append t).append (ju.HJ p F)⟩;simp only[execOp,j,resolve,r,C,Deferred.ofValue,Sem.run_bind,Sem.run_pure,Result.andThen_ok,invoke];have h:=Ol (P:=P) s (fs.toArray++cl.args.map a.eval++cs.toArray) w;have p:fs.toArray++cl.args.map a.eval++cs.toArray=(fs++cl.args.toList.map a.eval++cs).toArray:=by cases cl.args;simp
     rw[p]at h ⊢;exact h
   .cases d
  .split at b
   .simp only[ag]at b;obtain⟨B,_,b⟩:=b;split at b
    .simp only[ag]at b;obtain⟨i,_,z,_,y,_,b⟩:=b;split at b
     .split at b
      .cases b;cases d
      .cases b
     .cases b
    .cases b
   .cases b
  .split at b
   .simp only[ag]at b;obtain⟨B,_,b⟩:=b;split at b
    .simp only[ag]at b;obtain⟨y,_,b⟩:=b;split at b
     .simp only[ag]at b;obtain⟨n,_,b⟩:=b;split at b
      .cases b;cases d
      .cases b
     .cases b
    .cases b
   .cases b
  .split at b
   .split at b
    .cases b;cases d
    .cases b;cases d
    .cases b;cases d
    .cases b
   .cases b
  .cases b;cases d
  .cases b;cases d
  .cases b
 | _=>
  have h1:Hh l=true:=by unfold kA at d;unfold Hh;split at d<;>first|rfl|cases d
  obtain⟨cl,h⟩:=Vc K h1;rw[j]at h;cases h
end
end Go.AL
namespace Go.AL
open Go
abbrev Fp:=Nat×Option (Nat×Nat)
def nv:D->List Fp
 | .fM v _ _ _ _=>[(v,none)]
 | .gx v=>[(v,none)]
 | _=>[]
def uU(n:Nat):D->List Fp
 | .ptr v _ o=>[(v,some (o,n))]
 | _=>[]
def gK(f:gL)(H:U):iD->List Fp
 | .ld1 x=>uU 1 (ev f x)
 | .ldN n x=>uU n (ev f x)
 | .st1 a _=>uU 1 (ev f a)
 | .stN n a _=>uU n (ev f a)
 | .lookup _ _ _ m _=>nv (ev f m)
 | .mapUpd _ m _ _=>nv (ev f m)
 | .len .map x=>nv (ev f x)
 | .b2s x=>nv (ev f x)
 | .slcArr sz n x _ _=>uU (n*sz) (ev f x)
 | .app _ _ _ x y=>nv (ev f x)++nv (ev f y)
 | .copy _ x y=>nv (ev f x)++nv (ev f y)
 | .call g args=>((args.map (ev f)).map (iv H 40)).flatten.map λv=>(v,none)
 | .callN g args=>((args.map (ev f)).map (iv H 40)).flatten.map λv=>(v,none)
 | .callv g args=>match kA f (.callv g args)with
  | some (_,ds)=>(ds.map (iv H 40)).flatten.map λv=>(v,none)
  | none=>[]
 | _=>[]
def jO(n:Nat):Dl->List Fp
 | .no=>[]
 | .cells v o xs=>[(v,some (o,xs.length))]
 | .obj v _=>[(v,none)]
 | .new _=>[(n,none)]
def tZ:Fp->Fp->Bool
 | (v,none),(u,_)=>v != u
 | (v,some _),(u,none)=>v != u
 | (v,some (o,n)),(u,some (p,m))=>v != u||decide (o+n<=p)||decide (p+m<=o)
def ua(a b:List Fp):Bool:=a.all λx=>b.all λy=>tZ x y
def Alike(x:Fp)(H1 H2:U):Prop:=
 match x with
 | (v,none)=>H1[v]? = H2[v]?
 | (v,some (o,n))=>H1[v]? = H2[v]?\/∃t g cs ds,H1[v]? = some (.row t g cs)/\H2[v]? = some (.row t g ds)/\cs.length=ds.length/\∀i,o<=i->i<o+n->cs[i]? = ds[i]?
def tU(l:List Fp)(H1 H2:U):Prop:=∀x∈l,Alike x H1 H2
def iC:X->List Nat
 | .t k=>[k]
 | .c _=>[]
def xc(l:List X):List Nat:=(l.map iC).flatten
def xb:Option X->List Nat
 | some x=>iC x
 | none=>[]
def gX:iD->List Nat
 | .mv x=>iC x
 | .pick c a b=>iC c++iC a++iC b
 | .box _ x=>iC x
 | .alloc _ _=>[]
 | .build _ ps=>(ps.map λp=>iC p.2.2).flatten
 | .buildSl _ _ _ _ ps=>(ps.map λp=>iC p.2).flatten
 | .ld1 x=>iC x
 | .ldN _ x=>iC x
 | .st1 a x=>iC a++iC x
 | .stN _ a x=>iC a++iC x
 | .nilck x=>iC x
 | .arith _ x y=>iC x++iC y
 | .eqS _ _ _ x y=>iC x++iC y
 | .un _ x=>iC x
 | .conv _ x=>iC x
 | .b2s x=>iC x
 | .mkfn _ a b=>xc a++xc b
 | .mkmap _=>[]
 | .mksl _ _ _ _ l c=>iC l++iC c
 | .slc _ x lo hi=>iC x++xb lo++xb hi
 | .slcS x lo hi=>iC x++xb lo++xb hi
 | .slc3 _ x lo hi mx=>iC x++xb lo++iC hi++iC mx
 | .slcArr _ _ x lo hi=>iC x++xb lo++xb hi
 | .fieldA _ x=>iC x
 | .field _ _ _ x=>iC x
 | .idxA _ x i=>iC x++iC i
 | .idxArr _ _ x i=>iC x++iC i
 | .idx _ _ _ x i=>iC x++iC i
 | .idxStr x i=>iC x++iC i
 | .lookup _ _ _ m k=>iC m++iC k
 | .mapUpd _ m k x=>iC m++iC k++iC x
 | .ext x _=>iC x
 | .call _ args=>xc args
 | .callN _ args=>xc args
 | .callv f args=>iC f++xc args
 | .app _ _ _ x y=>iC x++iC y
 | .copy _ x y=>iC x++iC y
 | .len _ x=>iC x
 | .minmax _ xs=>xc xs
 | .nilS _ x | .capE x | .clr _ _ x | .rangeS x | .nextS x | .rangeM x | .nextM x | .entry x=>iC x
 | .mapEnt _ _ m k=>iC m++iC k
 | .entSt m s x=>iC m++iC s++iC x
 | .appZ _ _ _ _ x n=>iC x++iC n
def HR:iD->Bool
 | .mv _ | .pick .. | .build .. | .nilck _ | .arith .. | .eqS .. | .un .. | .conv .. | .mkfn .. | .slc .. | .slcS .. | .slc3 .. | .fieldA .. | .field .. | .idxA .. | .idxArr .. | .idx .. | .idxStr .. | .ext .. | .minmax ..
 | .len .slice _ | .len .string _=>true
 | _=>false
def SU:iD->Bool
 | .ld1 _ | .ldN .. | .b2s _ | .slcArr .. | .lookup .. | .len .. | .call .. | .callv .. => true
 | op=>HR op
def OA(a b:iD):Bool:=HR a||HR b||(SU a&&SU b)
section
variable{f f':gL}
theorem AP{x:X}(h:∀t∈iC x,f t=f' t):ev f x=ev f' x:=by
 cases x with
 | t k=>exact h k (by simp[iC])
 | c d=>rfl
theorem AQ{l:List X}(h:∀t∈xc l,f t=f' t):l.map (ev f)=l.map (ev f'):=
 au λx a=>AP λt b=>h t (bh.2 ⟨_,ao.2 ⟨x,a,rfl⟩,b⟩)
theorem SL:∀ {l:List (Nat×Nat×X)},(∀t∈(l.map λp=>iC p.2.2).flatten,f t=f' t)->partsOf f l=partsOf f' l
 | [],_=>rfl
 | (o,n,x)::r,h=>by have h1:ev f x=ev f' x:=AP λt a=>h t (by simp[a]);have b:=SL (l:=r) λt a=>h t (by simp only[List.map_cons,aX,List.mem_append];exact .inr a);simp only[partsOf,h1,b]
theorem xu{x:Option X}{n:Int}(h:∀t∈xb x,f t=f' t):gY f x n=gY f' x n:=by
 cases x with
 | none=>rfl
 | some x=>simp only[gY,AP (x:=x) h]
theorem Yf:∀ {l:List X},(∀t∈xc l,f t=f' t)->rE f l=rE f' l
 | [],_=>rfl
 | x::r,h=>by have h1:ev f x=ev f' x:=AP λt a=>h t (by simp[xc,a]);have b:=Yf (l:=r) λt a=>h t (by simp only[xc,List.map_cons,aX,List.mem_append];exact .inr a);simp only[rE,h1,b]
theorem Ux{op:iD}(h:∀t∈gX op,f t=f' t)(H:U)(n:Nat):gH f H n op=gH f' H n op:=by
 have e:∀ {x:X},(∀t∈iC x,t∈gX op)->ev f x=ev f' x:=λr=>AP λt d=>h t (r t d);cases op<;>simp only[gH]<;>first|rfl|skip
 case mv x=>rw[e (x:=x) (λt d=>by simpa[gX]using d)]
 case pick c a b=>rw[e (x:=c) (λt d=>by simp[gX,d]),e (x:=a) (λt d=>by simp[gX,d]),e (x:=b) (λt d=>by simp[gX,d])]
 case box x=>rw[e (x:=x) (λt d=>by simpa[gX]using d)]
 case build z ps=>simp only[CT,SL (f:=f) (f':=f') (l:=ps) (λt d=>h t (by simpa[gX]using d))]
 case buildSl t sz z m ps=>
  have:=SL (f:=f) (f':=f') (l:=ps.map λp=>(p.1*sz,sz,p.2)) (λt d=>h t (by simpa[gX,bY,eU]using d));simp only[yT,this]
 case ld1 x=>rw[e (x:=x) (λt d=>by simpa[gX]using d)]
 case ldN n x=>rw[e (x:=x) (λt d=>by simpa[gX]using d)]
 case st1 a x=>rw[e (x:=a) (λt d=>by simp[gX,d]),e (x:=x) (λt d=>by simp[gX,d])]
 case stN n a x=>rw[e (x:=a) (λt d=>by simp[gX,d]),e (x:=x) (λt d=>by simp[gX,d])]
 case nilck x=>rw[e (x:=x) (λt d=>by simpa[gX]using d)]
 case arith op x y=>rw[e (x:=x) (λt d=>by simp[gX,d]),e (x:=y) (λt d=>by simp[gX,d])]
 case eqS b ls neg x y=>rw[e (x:=x) (λt d=>by simp[gX,d]),e (x:=y) (λt d=>by simp[gX,d])]
 case un op x=>rw[e (x:=x) (λt d=>by simpa[gX]using d)]
 case conv k x=>rw[e (x:=x) (λt d=>by simpa[gX]using d)]
 case b2s x=>rw[e (x:=x) (λt d=>by simpa[gX]using d)]
 case mkfn g a b=>rw[AQ (f:=f) (f':=f') (l:=a) (λt d=>h t (by simp[gX,d])),AQ (f:=f) (f':=f') (l:=b) (λt d=>h t (by simp[gX,d]))]
 case mksl t sz O' z l c=>rw[e (x:=l) (λt d=>by simp[gX,d]),e (x:=c) (λt d=>by simp[gX,d])]
 case slc sz x lo hi=>
  have q:∀n,gY f lo n=gY f' lo n:=λn=>xu λt d=>h t (by simp[gX,d]);have j:∀n,gY f hi n=gY f' hi n:=λn=>xu λt d=>h t (by simp[gX,d]);simp only[tS,q,j,e (x:=x) (λt d=>by simp[gX,d])]
 case slc3 sz x lo hi mx=>
  have q:∀n,gY f lo n=gY f' lo n:=λn=>xu λt d=>h t (by simp[gX,d]);have j:∀n,gY f (some hi) n=gY f' (some hi) n:=λn=>xu λt d=>h t (by simp only[xb]at d;simp[gX,d]);have s:∀n,gY f (some mx) n=gY f' (some mx) n:=λn=>xu λt d=>h t (by simp only[xb]at d;simp[gX,d]);simp only[yw,q,j,s,e (x:=x) (λt d=>by simp[gX,d])]
 case slcArr sz m x lo hi=>
  have q:∀n,gY f lo n=gY f' lo n:=λn=>xu λt d=>h t (by simp[gX,d]);have j:∀n,gY f hi n=gY f' hi n:=λn=>xu λt d=>h t (by simp[gX,d]);simp only[Ah,q,j,e (x:=x) (λt d=>by simp[gX,d])]
 case slcS x lo hi=>
  have q:∀n,gY f lo n=gY f' lo n:=λn=>xu λt d=>h t (by simp[gX,d]);have j:∀n,gY f hi n=gY f' hi n:=λn=>xu λt d=>h t (by simp[gX,d]);simp only[Ov,q,j,e (x:=x) (λt d=>by simp[gX,d])]
 case fieldA o x=>rw[e (x:=x) (λt d=>by simpa[gX]using d)]
 case field o n b x=>rw[e (x:=x) (λt d=>by simpa[gX]using d)]
 case idxA sz x i=>rw[e (x:=x) (λt d=>by simp[gX,d]),e (x:=i) (λt d=>by simp[gX,d])]
 case idxArr sz n x i=>rw[e (x:=x) (λt d=>by simp[gX,d]),e (x:=i) (λt d=>by simp[gX,d])]
 case idx sz n b x i=>rw[e (x:=x) (λt d=>by simp[gX,d]),e (x:=i) (λt d=>by simp[gX,d])]
 case idxStr x i=>rw[e (x:=x) (λt d=>by simp[gX,d]),e (x:=i) (λt d=>by simp[gX,d])]
 case lookup kk z ok m k=>rw[e (x:=m) (λt d=>by simp[gX,d]),e (x:=k) (λt d=>by simp[gX,d])]
 case mapUpd kk m k x=>rw[e (x:=m) (λt d=>by simp[gX,d]),e (x:=k) (λt d=>by simp[gX,d]),e (x:=x) (λt d=>by simp[gX,d])]
 case ext x i=>rw[e (x:=x) (λt d=>by simpa[gX]using d)]
 case app t sz O' x y=>rw[e (x:=x) (λt d=>by simp[gX,d]),e (x:=y) (λt d=>by simp[gX,d])]
 case copy sz x y=>rw[e (x:=x) (λt d=>by simp[gX,d]),e (x:=y) (λt d=>by simp[gX,d])]
 case len k x=>rw[e (x:=x) (λt d=>by simpa[gX]using d)]
 case minmax b xs=>simp only[D6,Yf (f:=f) (f':=f') (l:=xs) (λt d=>h t (by simpa[gX]using d))]
end
end Go.AL
namespace Go.AL
open Go
theorem LV{f f':gL}{op:iD}(h:∀t∈gX op,f t=f' t):kA f op=kA f' op:=by
 cases op<;>first|rfl|skip
 case call g args=>simp only[kA,AQ (f:=f) (f':=f') (l:=args) (λt a=>h t (by simpa[gX]using a))]
 case callN g args=>simp only[kA,AQ (f:=f) (f':=f') (l:=args) (λt a=>h t (by simpa[gX]using a))]
 case callv g args=>
  simp only[kA,AQ (f:=f) (f':=f') (l:=args) (λt a=>h t (by simp[gX,a])),AP (f:=f) (f':=f') (x:=g) (λt a=>h t (by simp[gX,a]))]
theorem ME{f f':gL}{op:iD}(h:∀t∈gX op,f t=f' t)(H:U):gK f H op=gK f' H op:=by
 have c:∀ {x:X},(∀t∈iC x,t∈gX op)->ev f x=ev f' x:=λd=>AP λt b=>h t (d t b);have e:=LV h;cases op<;>simp only[gK]<;>first|rfl|skip
 case ld1 x=>rw[c (x:=x) (λt b=>by simpa[gX]using b)]
 case ldN n x=>rw[c (x:=x) (λt b=>by simpa[gX]using b)]
 case b2s x=>rw[c (x:=x) (λt b=>by simpa[gX]using b)]
 case slcArr sz n x lo hi=>rw[c (x:=x) (λt b=>by simp[gX,b])]
 case st1 a x=>rw[c (x:=a) (λt b=>by simp[gX,b])]
 case stN n a x=>rw[c (x:=a) (λt b=>by simp[gX,b])]
 case lookup kk z ok m k=>rw[c (x:=m) (λt b=>by simp[gX,b])]
 case mapUpd kk m k x=>rw[c (x:=m) (λt b=>by simp[gX,b])]
 case app t sz O' x y=>rw[c (x:=x) (λt b=>by simp[gX,b]),c (x:=y) (λt b=>by simp[gX,b])]
 case copy sz x y=>rw[c (x:=x) (λt b=>by simp[gX,b]),c (x:=y) (λt b=>by simp[gX,b])]
 case len k x=>cases k<;>simp only[gK]<;>rw[c (x:=x) (λt b=>by simpa[gX]using b)]
 case call g args=>rw[AQ (f:=f) (f':=f') (l:=args) (λt b=>h t (by simpa[gX]using b))]
 case callN g args=>rw[AQ (f:=f) (f':=f') (l:=args) (λt b=>h t (by simpa[gX]using b))]
 case callv g args=>rw[e]
section
variable{H1 H2:U}
theorem Od{v:Nat}(h:H1[v]? = H2[v]?)(g:Nat):rowAt H1 v g=rowAt H2 v g:=by simp only[rowAt,h]
theorem Sh{v:Nat}(h:H1[v]? = H2[v]?):lD H1 v=lD H2 v:=by simp only[lD,h]
theorem H8{v o n:Nat}(h:Alike (v,some (o,n)) H1 H2)(g:Nat) :
  (rowAt H1 v g=none/\rowAt H2 v g=none)\/∃t cs ds,rowAt H1 v g=some (t,cs)/\rowAt H2 v g=some (t,ds)/\cs.length=ds.length/\∀i,o<=i->i<o+n->cs[i]? = ds[i]? := by
 rcases h with h|⟨t,d,cs,ds,h1,a,c,b⟩
 .rw[Od h g]
  cases f:rowAt H2 v g with
  | none=>exact .inl ⟨rfl,rfl⟩
  | some p=>exact .inr ⟨p.1,p.2,p.2,rfl,rfl,rfl,λ_ _ _=>rfl⟩
 .by_cases e:d=g
  .exact .inr ⟨t,cs,ds,by simp[rowAt,h1,e],by simp[rowAt,a,e],c,b⟩
  .exact .inl ⟨by simp[rowAt,h1,e],by simp[rowAt,a,e]⟩
theorem Tp{sz:Nat}{d:D}(h:tU (nv d) H1 H2):kR sz H1 d=kR sz H2 d:=by
 unfold kR;split<;>first|rfl|skip
 rename_i v g a off len;have:=h (v,none) (by simp[nv]);rw[Od this]
theorem tU.left{a b:List Fp}(h:tU (a++b) H1 H2):tU a H1 H2:=λx c=>h x (bt _ c)
theorem tU.right{a b:List Fp}(h:tU (a++b) H1 H2):tU b H1 H2:=λx c=>h x (bB _ c)
theorem abv{f:gL}{op:iD}(h:tU (gK f H1 op) H1 H2)(n:Nat):gH f H1 n op=gH f H2 n op:=by
 cases op<;>simp only[gH]<;>first|rfl|skip
 case ld1 x=>
  congr 1;simp only[gK]at h;unfold wW;split<;>first|rfl|skip
  rename_i v g o b;rw[b]at h;rcases H8 (h (v,some (o,1)) (by simp[uU])) g with⟨d,c⟩|⟨t,cs,ds,d,c,e,j⟩
  .rw[d,c]
  .grind
 case ldN m x=>
  congr 1;simp only[gK]at h;unfold vI;split<;>first|rfl|skip
  rename_i v g o b;rw[b]at h;rcases H8 (h (v,some (o,m)) (by simp[uU])) g with⟨d,c⟩|⟨t,cs,ds,d,c,e,j⟩
  .rw[d,c]
  .rw[d,c]
   have:(cs.drop o).take m=(ds.drop o).take m:=by
    apply bT;intro i;simp only[aF,aI];split
    .grind
    .rfl
   simp only[e,this]
 case st1 a x=>
  simp only[gK]at h;unfold Ce;split<;>first|rfl|skip
  rename_i v g o b;rw[b]at h;rcases H8 (h (v,some (o,1)) (by simp[uU])) g with⟨d,c⟩|⟨t,cs,ds,d,c,e,j⟩
  .rw[d,c]
  .grind
 case stN m a x=>
  simp only[gK]at h;unfold Ch;split<;>first|rfl|skip
  rename_i v g o xs b _;rw[b]at h;rcases H8 (h (v,some (o,m)) (by simp[uU])) g with⟨d,c⟩|⟨t,cs,ds,d,c,e,j⟩
  .rw[d,c]
  .grind
 case slcArr sz m x lo hi=>
  congr 1;simp only[gK]at h;unfold Ah;split<;>first|rfl|skip
  rename_i v g o l r b _ _;rw[b]at h;rcases H8 (h (v,some (o,m*sz)) (by simp[uU])) g with⟨d,c⟩|⟨t,cs,ds,d,c,e,j⟩
  .rw[d,c]
  .grind
 case lookup kk z ok m k=>
  congr 1;simp only[gK]at h;unfold BJ;split<;>first|rfl|skip
  rename_i v kv b _;rw[b]at h;rw[Sh (h (v,none) (by simp[nv]))]
 case mapUpd kk m k x=>
  simp only[gK]at h;unfold zS;split<;>first|rfl|skip
  rename_i v kv b _;rw[b]at h;rw[Sh (h (v,none) (by simp[nv]))]
 case b2s x=>
  congr 1;simp only[gK]at h;unfold CR;rw[Tp (sz:=1) h]
 case len k x=>
  congr 1;unfold mK;split<;>first|rfl|skip
  rename_i v b;simp only[gK]at h;rw[b]at h;rw[Sh (h (v,none) (by simp[nv]))]
 case app t sz O' x y=>
  simp only[gK]at h;unfold sy;rw[Tp (sz:=sz) h.right];split<;>first|rfl|skip
  split<;>first|rfl|skip
  rename_i v g p off len b;rw[b]at h;rw[Od (h (v,none) (by simp[nv]))]
 case copy sz x y=>
  simp only[gK]at h;unfold y5;rw[Tp (sz:=sz) h.right];split<;>first|rfl|skip
  rename_i v g p off len q n b _;rw[b]at h;rw[Od (h (v,none) (by simp[nv]))]
theorem Ac(H:U)(v g:Nat):rowAt H v g=match rowsOf H v with|some (t,g',cs)=>if g'=g then some (t,cs)else none|none=>none:=by
 unfold rowAt rowsOf
 cases H[v]? with
 | none=>rfl
 | some o=>cases o<;>rfl
theorem HY:∀(k:Nat) (d:D),(∀v∈iv H1 k d,rowsOf H1 v=rowsOf H2 v)->iv H2 k d=iv H1 k d/\gd (λ_=>none) H2 k d=gd (λ_=>none) H1 k d
 | 0,d,_=>⟨rfl,rfl⟩
 | k+1,d,h=>by
  have f:∀(ds:List D),(∀v∈(ds.map (iv H1 k)).flatten,rowsOf H1 v=rowsOf H2 v)->ds.map (iv H2 k)=ds.map (iv H1 k)/\ds.map (gd (λ_=>none) H2 k)=ds.map (gd (λ_=>none) H1 k):=by intro ds q;have h1:∀d∈ds,∀v∈iv H1 k d,rowsOf H1 v=rowsOf H2 v:=λd j v c=>q v (bh.2 ⟨_,ao.2 ⟨d,j,rfl⟩,c⟩);exact⟨au λd j=>(HY k d (h1 d j)).1,au λd j=>(HY k d (h1 d j)).2⟩
  unfold iv at h;unfold iv gd
  by_cases r:closed d=true
  .grind
  .simp only[if_neg r]at h ⊢
   cases d with
   | agg cs=>obtain⟨a,b⟩:=f cs h;simp only[a,b,and_self]
   | tup cs=>obtain⟨a,b⟩:=f cs h;simp only[a,b,and_self]
   | gi cs=>obtain⟨a,b⟩:=f cs h;simp only[a,b,and_self]
   | sl sz es=>
    have h1:∀e∈es,e.map (iv H2 k)=e.map (iv H1 k)/\e.map (gd (λ_=>none) H2 k)=e.map (gd (λ_=>none) H1 k):=λe i=>f e λv c=>h v (bh.2 ⟨_,ao.2 ⟨e,i,rfl⟩,c⟩);have a:es.map (λe=>(e.map (iv H2 k)).flatten)=es.map (λe=>(e.map (iv H1 k)).flatten):=au λe i=>by rw[(h1 e i).1]
    have b:es.map (λx=>x.map (gd (λ_=>none) H2 k))=es.map (λx=>x.map (gd (λ_=>none) H1 k)):=au λe i=>(h1 e i).2;simp only[a,b,and_self]
   | fn g x y=>
    obtain⟨a,b⟩:=f x λv c=>h v (bt _ c);obtain⟨w,s⟩:=f y λv c=>h v (bB _ c);simp only[a,b,w,s,and_self]
   | fM v g sz off len=>
    have c:rowsOf H1 v=rowsOf H2 v:=h v (by simp);simp only[Ac,<-c]
    cases n:rowsOf H1 v with
    | none=>exact⟨rfl,rfl⟩
    | some p=>
     obtain⟨t,o,cs⟩:=p;obtain⟨l,l2⟩:=f cs λu m=>h u (by simp only[n];exact a8 _ m);refine⟨by simp only[l],?_⟩
     by_cases hg:o=g
     .grind
     .grind
   | ptr v g off=>
    have c:rowsOf H1 v=rowsOf H2 v:=h v (by simp);simp only[Ac,<-c]
    cases n:rowsOf H1 v with
    | none=>exact⟨rfl,rfl⟩
    | some p=>
     obtain⟨t,o,cs⟩:=p;obtain⟨l,l2⟩:=f cs λu m=>h u (by simp only[n];exact a8 _ m);refine⟨by simp only[l],?_⟩
     by_cases hg:o=g
     .grind
     .grind
   | _=>exact⟨rfl,rfl⟩
