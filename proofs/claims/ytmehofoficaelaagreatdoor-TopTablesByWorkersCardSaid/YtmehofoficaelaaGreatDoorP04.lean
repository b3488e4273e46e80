/- 4 -/
import Derived.Test.YtmehofoficaelaaGreatDoorP03
import Derived.Laws.IdiomRangeMap
import Derived.RangeFuncLeaves
import Derived.OwnWalkIn
set_option linter.all false
open Option renaming some→aE,none→cc,bind_some→jI
open Go.Builtin renaming zeroCells→bf,clear_→fx,append_→ku
open Go renaming leftOf→cp,run_underlying→di,Value→dx,World→ep,execOp→ez,Oper→eB,Program→fa,getObj→fp,grownCap→hI,TypeId→hY,Act→jA,MapEntry→j',setObj→kD,zeroValue→lb,Deferred→lp,eqGuard→lu
open Go.Result renaming andThen_ok→eh
open List renaming replicate→ej,mem_of_getElem?→hU,map_cons→jX,getElem?_eq_getElem→kx,take→mz,map_id'→mP,length→List.l
open Go.Sem renaming run_bind→ek,run→er,run_pure→iK
open Bool renaming false→eK,true→eL
open Go.Instr renaming next→fb,mapEntry→ga,entryStore→kb,keyThatStays→la,entry→lK,range→ml
open Go.Utf8 renaming decode→gb
open Nat renaming le_refl→iN
open Go.Oper renaming semAt_plain→kl
open Int renaming toNat→Int.n
namespace Go.AL
open Go
section
variable{G:GT}{c:Ctx}{H:gQ}{w:ep}{ks:nX}
def CS(ks:nX):Prop:=∀(i j:Nat) (p q:Nat×Bool),ks[i]? = aE p->ks[j]? = aE q->p.1=q.1->i=j
theorem Xi{i:Nat}{o:Ob}(h:(pJ ks H)[i]? = aE o)(d:o≠.dead):∃v a,ks[i]? = aE (v,eL)/\H[v]? = aE a/\o=lG (iP ks) H a:=by
 unfold pJ at h;simp only[aw,ar]at h;obtain⟨p,c,b⟩:=h;split at b
 .grind
 .grind
theorem aeI{o:Ob}(h:(lG (iP ks) H o).alive=eL):o.alive=eL/\(lG (iP ks) H o).gen=o.gen:=by cases o<;>simp_all [lG,Ob.alive,Ob.gen]
theorem W7{v i:Nat}(b:CS ks)(h:ks[i]? = aE (v,eL)):iP ks v=aE i:=by
 cases a:iP ks v with
 | none=>exact absurd h (aee a i)
 | some j=>
  have:=aef a;rw[b i j _ _ h this rfl]
theorem RG{i:Nat}{L:Loc}(h:nh (c.ib ks H) (pJ ks H) i L):∃v,ks[i]? = aE (v,eL)/\nh c H v L:=by obtain⟨o,f,b,a⟩:=h;obtain⟨v,d,h1,g,rfl⟩:=Xi f (by intro e;subst e;cases b);obtain⟨k,j⟩:=aeI b;refine⟨v,h1,d,g,k,?_⟩;rw[j]at a;simpa[Ctx.ib,h1]using a
theorem adV{b:Nat}(h:nH (c.ib ks H) (pJ ks H) b):nH c H b:=by obtain⟨i,L,hl,a,e⟩:=h;obtain⟨v,_,d⟩:=RG hl;exact⟨v,L,d,a,e⟩
theorem HO(h:iy G c H w)(T:CS ks):iy G (c.ib ks H) (pJ ks H) w where
 inj i j L M h1 A h3 h4 O:=by obtain⟨v,k1,F⟩:=RG h1;obtain⟨v',k2,l2⟩:=RG A;have:=h.inj v v' L M F l2 h3 h4 O;subst this;exact T i j _ _ k1 k2 rfl
 lt b n:=h.lt b (adV n)
 nF b n K:=by
  obtain⟨i,L,hl,q,e⟩:=n;obtain⟨v,k1,F⟩:=RG hl;rcases K with K|⟨v',M,l2,S,P,W⟩
  .exact h.nF b ⟨v,L,F,q,e⟩ K
  .have:=h.inj v v' L M F l2 q P (e.trans W.symm);subst this;exact aee S i k1
 l9 b n:=by
  rcases n with n|⟨v,L,l,_,q,e⟩
  .exact h.l9 b n
  .exact h.lt b ⟨v,L,l,q,e⟩
 out i k hi:=by simp only[pJ,List.length_map]at hi;simp[Ctx.ib,aY hi]
 n5 i o k ho z:=by
  have I:o≠.dead:=by rintro rfl;rcases z with z|⟨z,_⟩<;>cases z
  obtain⟨v,y,h1,A,rfl⟩:=Xi ho I;rcases z with z|⟨V,hg⟩
  .cases y<;>simp[lG]at z
  .obtain⟨D,C⟩:=aeI V;have:=h.n5 v y k A (.inr ⟨D,by rw[<-C];exact hg⟩);simpa[Ctx.ib,h1]using this
 ob i o ho:=by
  by_cases I:o = .dead
  .subst I;simp[iY]
  .obtain⟨v,y,h1,A,rfl⟩:=Xi ho I;have h0:=h.ob v y A;have f:(c.ib ks H).ι i y.gen=c.ι v y.gen:=by simp[Ctx.ib,h1]
   have N:∀u d,gX c w u d->gX (c.ib ks H) w u (ib (iP ks) H 40 d):=λu d U=>Cx h 40 U
   cases y with
   | dead=>simp[lG,iY]
   | na=>simp[lG,iY]
   | row t g cs=>
    simp only[lG,Ob.gen]at f ⊢;rw[f];simp only[Ob.gen]at h0
    cases a:c.ι v g with
    | none=>rw[a]at h0;simp[iY]at h0
    | some L=>
     rw[a]at h0;simp only[iY]at h0 ⊢;split
     .grind
     .grind
   | map kk es=>
    simp only[lG,Ob.gen]at f ⊢;rw[f];simp only[Ob.gen]at h0
    cases a:c.ι v 0 with
    | none=>rw[a]at h0;simp[iY]at h0
    | some L=>
     rw[a]at h0;simp only[iY]at h0 ⊢;obtain⟨q,Y,arr,B,D,C,J,E⟩:=h0;refine⟨q,λx R=>?_,arr,B,D,by simpa using C,λj e x O R=>?_,by simpa using E⟩
     .grind
     .grind
   | iV rf env st=>
    simp only[lG,Ob.gen]at f ⊢;rw[f];simp only[Ob.gen]at h0
    cases a:c.ι v 0 with
    | none=>rw[a]at h0;simp[iY]at h0
    | some L=>
     rw[a]at h0;simp only[iY]at h0 ⊢;obtain⟨q,r,D,C,J,E⟩:=h0;refine⟨q,r,D,λk=>?_,J,E⟩
     have key:∀(env:Env) (k:Nat),(Env.get (env.map λx=>(x.1,ib (iP ks) H 40 x.2)) k)=ib (iP ks) H 40 (env.get k):=by
      intro env k
      induction env with
      | nil=>rfl
      | cons p r Q=>
       obtain⟨j,d⟩:=p;simp only[jX,Env.y4];split
       .rfl
       .exact Q
     rw[key];exact N _ _ (C k)
   | uI s p=>
    simp only[lG,Ob.gen]at f ⊢;rw[f];simp only[Ob.gen]at h0
    cases a:c.ι v 0 with
    | none=>rw[a]at h0;simp[iY]at h0
    | some L=>
     rw[a]at h0;simpa only[iY]using h0
   | jO m since seen=>
    simp only[lG,Ob.gen]at f ⊢;rw[f];simp only[Ob.gen]at h0
    cases a:c.ι v 0 with
    | none=>rw[a]at h0;simp[iY]at h0
    | some L=>
     rw[a]at h0;simp only[iY]at h0 ⊢;obtain⟨D,C,X,J,E⟩:=h0;exact⟨D,C,X,N _ _ J,E⟩
   | jJ=>
    simp only[lG,Ob.gen]at f ⊢;rw[f];simp only[Ob.gen]at h0
    cases a:c.ι v 0 with
    | none=>rw[a]at h0;simp[iY]at h0
    | some L=>
     rw[a]at h0;simpa only[iY]using h0
 gl g cs hg:=by obtain⟨h1,A⟩:=h.gl g cs hg;exact⟨h1,A.closed (λb n=>FD n) (by simpa[AL.closed]using h1)⟩
 rt:=h.rt
theorem Xm(h:iy G c H w){n:Nat}(g:∀v,v<n->(ks[v]?).map (·.1)=aE v):Step n c H w (c.ib ks H) (pJ ks H) w where
 os:=⟨rfl,iN _⟩
 tape:=rfl
 output:=rfl
 size:=iN _
 RT:=rfl
 Fm b a:=FD a
 Fn b a:=by
  rcases a with a|⟨v,L,l,_,d,e⟩
  .exact .inl a
  .exact .inr (.inr ⟨v,L,l,d,e⟩)
 kept _ _ _:=rfl
 old v k L d ic:=by have:=g v d;simp only[ar]at this;obtain⟨p,f,e⟩:=this;simp only[Ctx.ib,f,e];exact ic
 own b a:=.inr (adV a)
theorem ajB(env:Env)(k:Nat):(Env.get (env.map λx=>(x.1,ib (iP ks) H 40 x.2)) k)=ib (iP ks) H 40 (env.get k):=by
 induction env with
 | nil=>rfl
 | cons p r a=>
  obtain⟨j,d⟩:=p;simp only[jX,Env.y4];split
  .rfl
  .exact a
theorem aao(h:iy G c H w){env:Env}{a:jA}(b:mg c w env.get a):mg (c.ib ks H) w (Env.get (env.map λx=>(x.1,ib (iP ks) H 40 x.2))) a:=λk=>by rw[ajB];exact Cx h 40 (b k)
theorem ajv(live:List Nat)(env:Env)(k:Nat):(forget live env).get k = .any\/(forget live env).get k=env.get k:=by
 unfold forget
 induction live with
 | nil=>exact .inl rfl
 | cons x r a=>
  simp only[jX,Env.y4];split
  .grind
  .exact a
theorem F4{env:Env}{a:jA}(b:mg c w env.get a)(live:List Nat):mg c w (forget live env).get a:=λk=>by
 rcases ajv live env k with h|h<;>rw[h]
 .exact .any _
 .exact b k
theorem Lg{x:Nat}:∀ {l:List Nat},x∈dedup l->x∈l
 | [],h=>h
 | y::r,h=>by
  unfold dedup at h;split at h
  .exact bt _ (Lg h)
  .rcases ak.1 h with rfl|h
   .grind
   .exact bt _ (Lg h)
theorem Jr{x:Nat}:∀ {l:List Nat},x∈l->x∈dedup l
 | y::r,h=>by
  unfold dedup;split
  .rename_i a;rcases ak.1 h with rfl|h
   .exact Jr a
   .exact Jr h
  .rcases ak.1 h with rfl|h
   .grind
   .exact bt _ (Jr h)
theorem RW:∀(l:List Nat),(dedup l).Nodup
 | []=>gF
 | y::r=>by
  unfold dedup;split
  .exact RW r
  .rename_i a;exact bT.2 ⟨λh=>a (Lg h),RW r⟩
theorem acq(h:(ks.map (·.1)).Nodup):CS ks:=by
 intro i j p q f d e;have hi:(ks.map (·.1))[i]? = aE p.1:=by simp[f]
 have a:(ks.map (·.1))[j]? = aE q.1:=by simp[d]
 have b:=(ae.1 hi).1;have c:=(ae.1 a).1;rw[kx b]at hi;rw[kx c]at a;simp only[ax]at hi a;exact(fZ h).1 (by rw[hi,a,e])
theorem acu{n:Nat}{K:List Nat}(g:∀v∈K,n<=v)(c:K.Nodup):CS (jx n K):=by apply acq;unfold jx;simp only[List.map_append,bC,fL,mP];rw[a8];refine⟨gd,c,λa f b d e=>?_⟩;subst e;have:=g a d;simp at f;omega
theorem acs{n:Nat}{K:List Nat}(v:Nat)(a:v<n):((jx n K)[v]?).map (·.1)=aE v:=by unfold jx;rw[ah (by simpa using a)];simp[a]
theorem abl{S:List Nat}:CS (nv H S):=by apply acq;unfold nv;simp only[bC,fL,mP];exact gd
theorem abk{S:List Nat}(v:Nat)(a:v<H.l):((nv H S)[v]?).map (·.1)=aE v:=by unfold nv;simp[a]
theorem T'{S:List Nat}:(pJ (nv H S) H).l=H.l:=by simp[pJ,nv]
end
def PW:Operand->Bool
 | .const (.slice cc 0 0)=>eL
 | _=>eK
def HT(P:fa)(t:hY):Bool:=match P.underlying t with
 | some (.slice _)=>eL
 | _=>eK
def uS(P:fa)(G:GT)(o:eB):Option jG:=
 match o.op with
 | .binOp .eql t x y _=>if HT P t=eL/\PW y=eL then(cX G x).map (.nilS eK)else cc
 | .binOp .neq t x y _=>if HT P t=eL/\PW y=eL then(cX G x).map (.nilS eL)else cc
 | .range t x=>match P.underlying t,cX G x with
  | some .string,aE a=>aE (.rangeS a)
  | some (.map _ _),aE a=>aE (.rangeM a)
  | _,_=>cc
 | .next x eL=>(cX G x).map .nextS
 | .next x eK=>(cX G x).map .nextM
 | .entry x=>(cX G x).map .entry
 | .call c=>match c.callee,c.argTypes.toList,c.args.toList with
  | .builtin .cap,[t],[x]=>if HT P t then(cX G x).map .capE else cc
  | .builtin .clear,[t],[x]=>match P.underlying t with
   | some (.slice e)=>match tv P e,P.info? e,cX G x with
    | some z,aE i,aE a=>if z.l=i.size/\0<i.size then aE (.clr i.size z a)else cc
    | _,_,_=>cc
   | _=>cc
  | .builtin .append,[t,u],[x,y]=>match P.underlying t,P.underlying u with
   | some (.slice e),aE (.int .i64)=>match tv P e,P.info? e,cX G x,cX G y with
    | some z,aE i,aE a,aE b=>if z.l=i.size/\0<i.size then aE (.appZ e i.size i.bytes z a b)else cc
    | _,_,_,_=>cc
   | _,_=>cc
  | _,_,_=>cc
 | .mapEntry t m k=>match P.underlying t with
  | some (.map kt e)=>match xm P kt,Ih P e,cX G m,cX G k with
   | some kk,aE z,aE a,aE b=>aE (.mapEnt kk z a b)
   | _,_,_,_=>cc
  | _=>cc
 | .entryStore _ m s x=>match cX G m,cX G s,cX G x with
  | some a,aE b,aE c=>aE (.entSt a b c)
  | _,_,_=>cc
 | _=>cc
def AF(kv:dx):List (dx×D)->Nat->Option (Nat×D)
 | [],_=>cc
 | (k,d)::r,i=>if oz kv k then aE (i,d)else AF kv r (i+1)
def AE(a:KK)(z:D)(m k:D)(H:gQ):R:=
 match m,keyOf k with
 | .im v,aE kv=>match mU H v with
  | some (kk,es)=>if kk=a/\kk.has kv=eL then(match AF kv es 0 with
    | some (j,d)=>aE (.tup [d,.i j],.obj v (.map kk (lF es kv d)))
    | none=>aE (.tup [z,.i es.l],.obj v (.map kk (lF es kv z))))else cc
  | none=>cc
 | _,_=>cc
def Dh(m s x:D)(H:gQ):R:=
 match m,s with
 | .im v,.val (.int .i64 n)=>match mU H v with
  | some (kk,es)=>match es[n.n]? with
   | some (k,_)=>if 0<=n then aE (.any,.obj v (.map kk (es.set n.n (k,x))))else cc
   | none=>cc
  | none=>cc
 | _,_=>cc
def RV(neg:Bool):D->Option D
 | .gV=>aE (.b !neg)
 | .sl _ (_::_)=>aE (.b neg)
 | .gR _ _ _ _ (_+1)=>aE (.b neg)
 | _=>cc
def Pw(t sz bytes:Nat)(z:List D)(x n:D)(a:Nat):R:=
 match x,n with
 | .gV,.val (.int .i64 m)=>if 0<m/\tb (m*bytes) 140737488355328/\tb m 9223372036854775807 then aE (.gR a 0 sz 0 m.n,.new (.row t 0 (ej m.n z).flatten))else cc
 | _,_=>cc
def Ji(sz:Nat)(z:List D)(x:D)(H:gQ):R:=
 match x with
 | .gV=>aE (.any,.no)
 | .gR v g a off len=>match rowAt H v g with
  | some (t,cs)=>if a=sz/\(off+len)*sz<=cs.l then aE (.any,.obj v (.row t g (cs.take (off*sz)++(ej len z).flatten++cs.drop ((off+len)*sz))))else cc
  | none=>cc
 | _=>cc
def WJ(x:D)(H:gQ):R:=
 match x with
 | .ptr v 0 0=>match H[v]? with
  | some (.uI s p)=>if p<s.size then aE (.tup [.b eL,.i p,.val (.int .i32 (gb s p).1)],.obj v (.uI s (p+(gb s p).2)))else aE (.tup [.b eK],.no)
  | _=>cc
 | _=>cc
def Lz(x:D)(H:gQ)(a:Nat):R:=
 match x with
 | .im m=>match mU H m with
  | some (_,es)=>aE (.ptr a 0 0,.new (.jO (.im m) es.l []))
  | none=>cc
 | _=>cc
def Qb(x:D)(H:gQ):Option D:=
 match x with
 | .ptr v 0 0=>match H[v]? with
  | some (.jO (.im m) since seen)=>match mU H m,seen.getLast? with
   | some (_,es),aE i=>match es[i]? with
    | some (k,d)=>if es.l=since then aE (.tup [uC k,d])else cc
    | none=>cc
   | _,_=>cc
  | _=>cc
 | _=>cc
def nW(env:iM)(H:gQ)(n:Nat):jG->R
 | .nilS neg x=>lift (RV neg (ev env x))
 | .capE x=>match ev env x with
  | .gV=>aE (.i 0,.no)
  | _=>cc
 | .appZ t sz bytes z x m=>Pw t sz bytes z (ev env x) (ev env m) n
 | .clr sz z x=>Ji sz z (ev env x) H
 | .rangeS x=>match ev env x with
  | .val (.string s)=>aE (.ptr n 0 0,.new (.uI s 0))
  | _=>cc
 | .nextS x=>WJ (ev env x) H
 | .rangeM x=>Lz (ev env x) H n
 | .entry x=>lift (Qb (ev env x) H)
 | .mapEnt kk z m k=>AE kk z (ev env m) (ev env k) H
 | .entSt m s x=>Dh (ev env m) (ev env s) (ev env x) H
 | _=>cc
def SE:jG->Bool
 | .nilS .. | .capE .. | .appZ .. | .clr .. | .rangeS .. | .nextS .. | .rangeM .. | .nextM .. | .entry .. | .mapEnt .. | .entSt .. => eL
 | _=>eK
def atB{op:jG}(h:SE op=eL)(f:iM)(H:gQ)(n:Nat):iL f H n op=none:=by cases op<;>first|(cases h;done)|rfl
def atC{op:jG}(h:SE op=eL)(f:iM):lZ f op=none:=by cases op<;>first|(cases h;done)|rfl
def TA{P:fa}{G:GT}{o:eB}{a:jG}(h:uS P G o=aE a):SE a=true:=by
 unfold uS at h
 repeat' split at h
 all_goals first|(cases h;done)|(simp only[ar]at h;obtain⟨_,_,rfl⟩:=h;rfl)|(cases h;rfl)
section
variable{P:fa}{G:GT}{c:Ctx}{H:gQ}{w:ep}{env:iM}{a:jA}
abbrev KO(H:gQ)(al:Al)(d:D)(δ:Dl):kH:=λd' H'=>d'=d/\H'=δ.app H al
theorem RS(h:iy G c H w){al:Al}(e:o7 H al)(o:Obj)(ob:Ob)(hg:ob.gen=0)(i:ob.alive=eL)
  (f:(∀u d,gX c w u d->gX (c.set al.1 0 ⟨w.heap.size,0,0,eK⟩) (w.alloc o) u d)->(w.alloc o).heap[w.heap.size]? = aE o->iY (c.set al.1 0 ⟨w.heap.size,0,0,eK⟩) (w.alloc o) (aE ⟨w.heap.size,0,0,eK⟩) ob) :
  iy G (c.set al.1 0 ⟨w.heap.size,0,0,eK⟩) (al.2 ob) (w.alloc o)/\gX (c.set al.1 0 ⟨w.heap.size,0,0,eK⟩) (w.alloc o) (.pointer (aE ⟨w.heap.size,0,cc⟩)) (.ptr al.1 0 0) /\
   Step H.l c H w (c.set al.1 0 ⟨w.heap.size,0,0,eK⟩) (al.2 ob) (w.alloc o):=by
 have b:(⟨w.heap.size,0,0,eK⟩:Loc).kQ=eK->w.heap.size<=(⟨w.heap.size,0,0,eK⟩:Loc).b/\(⟨w.heap.size,0,0,eK⟩:Loc).b<(w.alloc o).heap.size:=λ_=>⟨iN _,gP⟩;have a:=(e ob).wQ;have hs:=SM h a (ly.alloc w o) ⟨w.heap.size,0,0,eK⟩ b;rw[hg]at hs;have h1:=Xy h a (ly.alloc w o) ⟨w.heap.size,0,0,eK⟩ b i (by rw[hg];exact f (λu d g=>g.sv h.toHeapOK hs) (heap_alloc_new w o));rw[hg]at h1;exact⟨h1,.ptr (c:=c.set al.1 0 ⟨w.heap.size,0,0,eK⟩) al.1 0 0 ⟨w.heap.size,0,0,eK⟩ (Ctx.uH _ _ _ _) rfl,hs⟩
theorem adJ(h:iy G c H w){t:hY}(f:HT P t=eL){neg:Bool}{x d:D}{u:dx}(i:gX c w u x)(a:RV neg x=aE d)(xo k:Operand) :
  ∃r,(do lu (if neg then .neq else .eql) t xo k u (.slice cc 0 0);binOp (if neg then .neq else .eql) t u (.slice cc 0 0)).run P w = .ok r w/\gX c w r d:=by
 have v:∃e,P.underlying t=aE (.slice e):=by
  unfold HT at f;split at f
  .exact⟨_,km⟩
  .cases f
 obtain⟨e,s⟩:=v
 have j:∀(n:Nat) (ad:Option Addr) (len cap:Nat),(Op.equalIn (n+1) t (.slice ad len cap) (.slice cc 0 0)).run P w = .ok ad.isNone w:=by intro n ad len cap;cases ad<;>simp[Op.equalIn,di s]
 have p:∀ad len cap,Op.equal t (.slice ad len cap) (.slice cc 0 0)=Op.equalIn (9999+1) t (.slice ad len cap) (.slice cc 0 0):=λ_ _ _=>rfl
 have key:∀(ad:Option Addr) (len cap:Nat),u = .slice ad len cap->(do lu (if neg then .neq else .eql) t xo k u (.slice cc 0 0);binOp (if neg then .neq else .eql) t u (.slice cc 0 0)).run P w = .ok (.bool (if neg then !ad.isNone else ad.isNone)) w:=by rintro ad len cap rfl;have h1:=j 9999 ad len cap;cases neg<;>simp only[lu,binOp,p,bQ,if_false,if_true,ek,Bool.not_true,iK,eh,h1]
 unfold RV at a;split at a
 .cases a;cases i;exact⟨_,key cc 0 0 rfl,by cases neg<;>exact .val _⟩
 .cases a
  cases i with
  | sl ad len cap sz es g b m o z l C E=>
   have:ad≠none:=λe=>by have:=l e;simp at b;omega
   obtain⟨q,rfl⟩:=Option.ne_none_iff_exists'.1 this;exact⟨_,key _ _ _ rfl,by cases neg<;>exact .val _⟩
 .cases a
  cases i with
  | gR _ _ _ _ _ cap L A B m o y=>exact⟨_,key _ _ _ rfl,by cases neg<;>exact .val _⟩
 .cases a
theorem ari(h:iy G c H w){v g o:Nat}{a:hY}{cs xs:List D}(n:H[v]? = aE (.row a g cs)){L:Loc}(l:c.ι v g=aE L)(j:L.kQ=eK){vs:List dx}(f:Cells c w vs xs)
  (C:o+xs.l<=cs.l):∃w',(storeCells ⟨L.b,L.base+o,cc⟩ vs).run P w = .ok () w'/\iy G c (H.set v (.row a g (cs.take o++xs++cs.drop (o+xs.l)))) w'/\Step H.l c H w c (H.set v (.row a g (cs.take o++xs++cs.drop (o+xs.l)))) w':=by
 obtain⟨arr,h1,x,E,u⟩:=AS h n l j;have q:vs.l=xs.l:=f.len;have k:=run_storeCells_at P L.b (L.base+o) a vs 0 arr w h1 iz f.one;simp only[cu]at k
 have m:=Ig h n l j h1 (arr.toList.take (L.base+o)++vs++arr.toList.drop (L.base+o+vs.l)).toArray
  iz x (cs.take o++xs++cs.drop (o+xs.l)) iz (λi d p=>by
   have A:=u.uJ f o;obtain⟨y,r,t,s⟩:=A.get p;refine⟨y,?_,t,s⟩;rw[<-r];simp only[dT];have e:(mz (L.base+o) arr.toList).l=L.base+o:=iz;have b:(mz o (mz cs.l (List.drop L.base arr.toList))).l=o:=iz
   by_cases z:i<o
   .rw[ah iz,ah (by rw[e];omega),ah iz,ah (by rw[b];omega)];simp only[aJ,aD];rw[if_pos U,if_pos z,if_pos U]
   .by_cases c2:i<o+xs.l
    .rw[ah iz,ao (by rw[e];omega),ah iz,ao (by rw[b];omega),e,b];congr 1;omega
    .have B:i<cs.l:=by have:=(ae.1 p).1;simp at this;omega
     rw[ao iz,ao iz];simp only[aD,aJ,aq,e,b,q];rw[if_pos U];congr 1
     omega)
 exact⟨_,k,m.1,m.2⟩
theorem arj(h:iy G c H w){al:Al}{t e ty:hY}{i:TypeInfo}{z:List D}(l:P.underlying t=aE (.slice e))(hi:P.info? e=aE i)(M:tv P e=aE z)(O:z.l=i.size)(T:0<i.size)
  {x d:D} {δ:Dl} {u:dx} (s:gX c w u x) (a:Ji i.size z x H=aE (d,δ)):∃w',(fx #[t] ty #[u]).run P w = .ok (.tuple #[]) w'/\kj G c H w (KO H al d δ) (.tuple #[]) w':=by
 unfold Ji at a;split at a
 .cases a;cases s;exact⟨w,by simp[fx,di l],_,_,c,⟨rfl,rfl⟩,h,.any _,Step.refl _ _ _ _⟩
 .rename_i v g W off len;split at a
  .rename_i f cs J;split at a
   .rename_i E;obtain⟨rfl,C⟩:=E;cases a;have k:=wO J;dsimp only at k;obtain⟨b,A,X,p⟩:=CF M w;have Q:b.cells.size=i.size:=by have:=(p c w).len;simp at this;omega
    have n:(Dl.obj v (.row f g (cs.take (off*i.size)++(ej len z).flatten++cs.drop ((off+len)*i.size)))).app H al=H.set v (.row f g (cs.take (off*i.size)++(ej len z).flatten++cs.drop ((off+len)*i.size))):=rfl;have q:(ej len z).flatten.l=len*i.size:=by simp[O]
    have m:(.row f g (cs.take (off*i.size)++(ej 0 z).flatten++cs.drop ((off+0)*i.size)))=Ob.row f g cs:=gP
    have j:H.set v (.row f g cs)=H:=by have K:=(ae.1 k).1;have I:=(ae.1 k).2;rw[<-I];exact dW K
    cases s with
    | gR _ _ _ _ _ cap L r F S V R=>
     by_cases y:len=0
     .subst y;refine⟨w,by simp[fx,di l],_,_,c,⟨rfl,rfl⟩,?_,.any _,?_⟩
      .rw[n,m,j];exact h
      .rw[n,m,j];exact Step.refl _ _ _ _
     .have B:Cells c w (bf b.cells len).toList (ej len z).flatten:=by
       have h1:(bf b.cells len).toList=(ej len b.cells.toList).flatten:=by unfold bf;exact Sc b.cells len U
       rw[h1];exact Qp _ _ p len
      obtain⟨w',k1,k2,k3⟩:=ari (P:=P) (o:=off*i.size) h k r F B (by rw[q,<-bJ];exact C);rw[q,<-bJ]at k2 k3;refine⟨w',?_,_,_,c,⟨rfl,rfl⟩,k2,.any _,k3⟩;obtain⟨N,rfl⟩:=Nat.exists_eq_succ_of_ne_zero y;simp[fx,di l,A,k1]
    | nU _ _ _ _ L r ad=>
     refine⟨w,by cases ad<;>simp[fx,di l],_,_,c,⟨rfl,rfl⟩,?_,.any _,?_⟩
     .rw[n,m,j];exact h
     .rw[n,m,j];exact Step.refl _ _ _ _
   .cases a
  .cases a
 .cases a
theorem ara(h:iy G c H w){al:Al}(R:o7 H al){t u ty e:hY}{i:TypeInfo}{z:List D}(V:P.underlying t=aE (.slice e))(T:P.underlying u=aE (.int .i64))(hi:P.info? e=aE i)(S:tv P e=aE z)(Ej:z.l=i.size)(N:0<i.size)
  {x y d:D} {δ:Dl} {C B:dx} (h1:gX c w C x) (W:gX c w B y) (b:Pw e i.size i.bytes z x y al.1=aE (d,δ)) :
  ∃r w',(ku #[t,u] ty #[C,B]).run P w = .ok r w'/\kj G c H w (KO H al d δ) r w':=by
 unfold Pw at b;split at b
 .rename_i m;split at b
  .rename_i O;cases b;cases h1;cases W;obtain⟨a,x8,Ru,A⟩:=CF S w;have G3:i.zero=aE a:=by simpa[hi]using Ru
   have F:a.cells.size=i.size:=by have:=(A c w).len;simp at this;omega
   obtain⟨n,rfl⟩:∃n:Nat,m=n:=⟨m.n,U⟩;obtain⟨vf,g,BG⟩:=O;simp only[tb]at g BG;have f:0<n:=U
   have v:n*i.bytes<=140737488355328:=by
    have h1:((n*i.bytes:Nat):Int)<=140737488355328:=by rw[Int.natCast_mul];exact g
    omega
   have a1:n<=9223372036854775807:=U;have I:=grownCap_ge w n 0 e;have M:=grownCap_le_maxLen w n 0 e (by unfold maxLen;omega);have wn:IntKind.i64.wrap (n:Int)=n:=wrap_i64 (by unfold p6;omega)
   have Q:(ku #[t,u] ty #[.slice cc 0 0,.int .i64 n]).run P w = .ok (.slice (aE ⟨w.heap.size,0,cc⟩) n (hI w n 0 e))
     (w.drew.alloc (.cells (bf a.cells n++bf a.cells (hI w n 0 e-n)) e)):=by
    have k:¬(n=0):=U;have q:∀w:ep,(asInt (.int .i64 (n:Int))).run P w = .ok (n:Int) w:=λw=>by simp[asInt,asIntOf]
    have l:¬((n:Int)<=0):=U;have J:max (n:Int) 0=n:=U;have Ko:(n:Int).n=n:=U;have j:¬(i.size=0):=U;have p:¬((n:Int)<0):=U;have o:¬(281474976710656<(n:Int)*(i.bytes:Int)):=by have:(n:Int)*(i.bytes:Int)<=140737488355328:=g;omega
    have Up:¬(281474976710656<Builtin.nextslicecap n 0*i.bytes):=by have:=growslice_fits (old:=0) f v;omega
    have s:¬(9223372036854775807<(n:Int)):=U;simp[ku,di V,di T,sizeOf,typeInfo,lb,hi,G3,q,wn,p,o,k,j,Up,s,l,J,Question.forced,newRow,hI,run_firstCells_none];intro h0;exact absurd h0 (Nat.ne_of_gt (Nat.mul_pos f N))
   refine⟨_,_,Q,?_⟩
   have K:Cells c w (bf a.cells n).toList (ej n z).flatten:=by
    have h1:(bf a.cells n).toList=(ej n a.cells.toList).flatten:=by unfold bf;exact Sc a.cells n U
    rw[h1];exact Qp _ _ A n
   have j:(bf a.cells n++bf a.cells (hI w n 0 e-n)).size=hI w n 0 e*i.size:=by simp only[cQ,size_zeroCells,F,<-bJ];congr 1;omega
   obtain⟨L,e1,e2,e3,Z,Y,X⟩:=Hq h w.drew (ly.drew w) e _ (ej n z).flatten (bf a.cells n).size (bf a.cells n++bf a.cells (hI w n 0 e-n)) (R _).wQ K (by
    simp only[dM]
    exact List.take_left' gP) (by simp only[cQ];omega)
   have E:=Lq (c:=c) (w:=w.drew.alloc (.cells (bf a.cells n++bf a.cells (hI w n 0 e-n)) e)) e1 e3 al.1 0 i.size n (hI w n 0 e) (by rw[Z,j]) I M;rw[e2]at E;exact⟨_,_,_,⟨rfl,rfl⟩,Y,E,X⟩
  .cases b
 .cases b
theorem arF(h:iy G c H w){al:Al}{x d:D}{δ:Dl}{u:dx}{ty:hY}(o:gX c w u x)(f:WJ x H=aE (d,δ)):∃r w',(fb u eL ty).run P w = .ok r w'/\kj G c H w (KO H al d δ) r w':=by
 unfold WJ at f;split at f
 .rename_i v;split at f
  .rename_i s p a
   cases o with
   | ptr _ _ _ L m l=>
    have g:=h.ob v _ a;simp only[Ob.gen]at g;rw[m]at g;simp only[iY]at g;obtain⟨_,k,e⟩:=g;have q:=(aX.1 e).1;rw[k]
    by_cases j:p<s.size
    .rw[if_pos j]at f;cases f
     obtain⟨m1,m2⟩:=CN h a rfl rfl (ob':=.uI s (p+(gb s p).2)) rfl m l (.stringIter s (p+(gb s p).2)) (λw' n _=>by simp only[iY];exact⟨l,k,n⟩)
     refine⟨.tuple #[.bool eL,goInt p,.int .i32 (gb s p).1],_,?_,_,_,c,⟨rfl,rfl⟩,m1,?_,m2⟩
     .simp[fb,fp,kD,er,e,j]
     .refine .tup [.bool eL,goInt p,.int .i32 (gb s p).1] _ rfl λi v d a b=>?_
      match i,a,b with
      | 0,a,b=>cases a;cases b;exact .val _
      | 1,a,b=>cases a;cases b;exact .val _
      | 2,a,b=>cases a;cases b;exact .val _
    .rw[if_neg j]at f;cases f;refine⟨.tuple #[.bool eK],w,?_,_,_,c,⟨rfl,rfl⟩,h,?_,Step.refl _ _ _ _⟩
     .simp[fb,fp,er,e,j]
     .refine .tup [.bool eK] _ rfl λi v d a b=>?_
      match i,a,b with
      | 0,a,b=>cases a;cases b;exact .val _
  .cases f
 .cases f
theorem aro(h:iy G c H w){x d:D}{u:dx}(I:gX c w u x)(a:Qb x H=aE d):∃r,(lK u).run P w = .ok r w/\gX c w r d:=by
 unfold Qb at a;split at a
 .rename_i v;split at a
  .rename_i m since seen b;split at a
   .rename_i kk es i J R;split at a
    .rename_i k d0 t;split at a
     .rename_i g;cases a;have y:=wG J;dsimp only at y
      cases I with
      | ptr _ _ _ L F T=>
       have p:=h.ob v _ b;simp only[Ob.gen]at p;rw[F]at p;simp only[iY]at p;obtain⟨_,C,V,S,n⟩:=p
       cases S with
       | im _ X Q W=>
        have o:=h.ob m _ y;simp only[Ob.gen]at o;rw[Q]at o;simp only[iY]at o;obtain⟨_,B,arr,f,N,A,z,O⟩:=o;have hi:i<arr.size:=by rw[A];exact(ae.1 t).1
        have M:arr[i]? = aE arr[i]:=by simp[hi]
        obtain⟨q1,q2,q3⟩:=z i _ _ M t;have s:seen.toArray.back? = aE i:=by simpa[Array.back?_eq_getElem?,List.getLast?_eq_getElem?]using R
        have q:arr.find? (λe=>e.born == i)=aE arr[i]:=by
         rw[Array.find?_eq_some_iff_getElem];refine⟨by simp[q3],i,hi,rfl,λj U=>?_⟩;have E:j<es.l:=by rw[<-A];omega
         have:=(z j arr[j] es[j] gP (by simp[E])).2.2;simp[this]
         try omega
        refine⟨.tuple #[k,arr[i].val],?_,?_⟩
        .rw[C];have K:f=since:=by rw[O,g]
         subst K;simp only[aR];simp only[lK,fp,ek,er,n,eh,s,N,q];simp[q1]
        .refine .tup [k,arr[i].val] _ rfl λj v d b l=>?_
         match j,b,l with
         | 0,b,l=>cases b;cases l;exact aeb (B _ (hU t))
         | 1,b,l=>cases b;cases l;exact q2
     .cases a
    .cases a
   .cases a
  .cases a
 .cases a
theorem arI(h:iy G c H w){al:Al}(n:o7 H al){t:hY}{k e:hY}(o:P.underlying t=aE (.map k e)){x d:D}{δ:Dl}{u:dx}(p:gX c w u x)(b:Lz x H al.1=aE (d,δ)) :
  ∃r w',(ml t u).run P w = .ok r w'/\kj G c H w (KO H al d δ) r w':=by
 unfold Lz at b;split at b
 .rename_i m;split at b
  .rename_i kk es q;cases b;have i:=wG q;dsimp only at i
   cases p with
   | im _ g j v=>
    have f:=h.ob m _ i;simp only[Ob.gen]at f;rw[j]at f;simp only[iY]at f;obtain⟨_,_,arr,a,y,B,A,z⟩:=f
    obtain⟨k1,k2,k3⟩:=RS h n (.mapIter (aE g.b) a #[] a) (.jO (.im m) es.l []) rfl rfl (λl s=>by
     simp only[iY];refine⟨trivial,trivial,g.b,l _ _ (.im m g j v),?_⟩
     rw[<-z];exact s)
    exact⟨_,_,run_range_map w t k e g.b arr a o y,_,_,_,⟨rfl,rfl⟩,k1,k2,k3⟩
  .cases b
 .cases b
theorem aa6{kv:dx}:∀ {l:List j'} {i n:Nat} {v:dx},pU kv l i=aE (n,v)->i<=n
 | [],_,_,_,h=>by cases h
 | a::l,i,n,v,h=>by
  unfold pU at h;split at h
  .cases h;exact iN _
  .have:=aa6 h;omega
theorem aa7{kv:dx}:∀ {l:List j'} {i j:Nat} {v:dx} {e:j'},pU kv l i=aE (i+j,v)->l[j]? = aE e->e.val=v
 | [],_,_,_,_,h,_=>by cases h
 | a::l,i,j,v,e,h,he=>by
  unfold pU at h;split at h
  .simp only[ax,ef]at h;obtain⟨h1,rfl⟩:=h;have:j=0:=U;subst this;cases he;rfl
  .cases j with
   | zero=>exact absurd (aa6 h) U
   | succ j=>exact aa7 (i:=i+1) (j:=j) (by rw[h];congr 2;omega) he
theorem ada(kv:dx):∀(l:List j') (es:List (dx×D)) (i:Nat),l.l=es.l ->
  (∀(j:Nat) (e:j') (x:dx×D),l[j]? = aE e->es[j]? = aE x->e.key=x.1/\gX c w e.val x.2) ->
  (pU kv l i=cc/\AF kv es i=cc)\/∃j v d,pU kv l i=aE (i+j,v)/\AF kv es i=aE (i+j,d)/\gX c w v d
 | [],[],i,_,_=>.inl ⟨rfl,rfl⟩
 | e::l,(k,d)::es,i,hl,h=>by
  obtain⟨b,m⟩:=h 0 e (k,d) rfl rfl;dsimp only at b m
  by_cases a:oz kv e.key=eL
  .exact .inr ⟨0,e.val,d,by simp[pU,a],by simp[AF,<-b,a],m⟩
  .have g:oz kv k=false:=by rw[<-b];simpa using a
   rcases ada kv l es (i+1) (by simpa using hl) (λj e x a n=>h (j+1) e x (by simpa using a) (by simpa using n))with⟨h1,f⟩|⟨j,v,d',h1,f,o⟩
   .exact .inl ⟨by simp[pU,a,h1],by simp[AF,g,f]⟩
   .exact .inr ⟨j+1,v,d',by simp[pU,a,h1];omega,by simp[AF,g,f];omega,o⟩
theorem arB(h:iy G c H w){al:Al}{t k e:hY}{kk:KK}{z:D}(hu:P.underlying t=aE (.map k e))(X:xm P k=aE kk)(F:Ih P e=aE z){m x d:D}{δ:Dl}{u v:dx}(h1:gX c w u m)(h2:gX c w v x)
  (y:AE kk z m x H=aE (d,δ)):∃r w',(ga t u v).run P w = .ok r w'/\kj G c H w (KO H al d δ) r w':=by
 have Vp:(kk = .str\/kk = .bool\/∃k,kk = .int k)\/∃l,kk = .ints l:=by
  obtain⟨d,_,hc⟩:=SS X;rcases hc with⟨k,_,rfl⟩|⟨_,rfl⟩|⟨_,rfl⟩|⟨_,l,_,rfl,_⟩
  .exact .inl (.inr (.inr ⟨k,rfl⟩))
  .exact .inl (.inl rfl)
  .exact .inl (.inr (.inl rfl))
  .exact .inr ⟨l,rfl⟩
 obtain⟨C,x8,KT⟩:∃C,(lb e).run P w = .ok C w/\gX c w C z:=by
  unfold Ih at F
  cases hi:P.info? e with
  | none=>simp[hi]at F
  | some i=>
   simp only[hi,jI]at F
   cases Ek:i.zero with
   | none=>simp[Ek]at F
   | some C=>
    simp only[Ek,jI]at F;exact⟨C,by simp[lb,run_typeInfo hi,Ek],W4 F⟩
 unfold AE at y;split at y
 .rename_i v0 kv Kf;split at y
  .rename_i M es Z;split at y
   .rename_i ky;obtain⟨rfl,K⟩:=ky;have o:=V2 h2 Kf;subst o
    cases h1 with
    | im _ L ic N=>
     have O:=h.ob v0 _ (wG Z);simp only[Ob.gen]at O;rw[ic]at O;simp only[iY]at O;obtain⟨_,wi,arr,f,hm,g⟩:=O;have JY:=Wr g wi;have DT:=run_findKey X K arr.toList JY w;have qz:=run_checkKey (w:=w) X eK K;have wg:(fp L.b).run P w = .ok (.map arr f) w:=by simp[fp,er,hm]
     have Kc:∀y',∀x∈lF es v y',M.has x.1=true:=λy' x n=>by
      rcases ade x n with h|rfl
      .exact wi x h
      .exact K
     have Y:∀(j:Nat) (e:j') (x:dx×D),arr.toList[j]? = aE e->es[j]? = aE x->e.key=x.1/\gX c w e.val x.2:=λj e x s n=>let ⟨a,b,_⟩:=g.2.1 j e x (by simpa using s) n;⟨a,b⟩
     have A:arr.toList.l=es.l:=by simpa using g.1
     rcases ada (c:=c) (w:=w) v arr.toList es 0 A Y with⟨Q,g2⟩|⟨j0,R,d0,Q,g2,g3⟩
     .rw[g2]at y;cases y;rcases JD (c:=c) (w:=w) v arr.toList es 0 A Y with⟨f1,f2,f3⟩|⟨j,val,d,f1,f2,_⟩
      .have jr:(ga t (.map (aE L.b)) v).run P w = .ok (.tuple #[C,goInt f]) { w with heap:=w.heap.setIfInBounds L.b (.map (arr.push { key:=v,val:=C,born:=f }) (f+1)) }:=by simp only[ga,ek,di hu,eh,wg,qz,DT,f1,x8];simp[kD,er,hm]
       obtain⟨m1,m2⟩:=CN h (wG Z) rfl rfl rfl ic N (.map (arr.push { key:=v,val:=C,born:=f }) (f+1)) (ob':=.map M (lF es v z)) (by
        intro w' W I;simp only[iY];refine⟨N,Kc z,_,_,W,?_⟩;rw[f3];refine⟨by simp[g.1],λi e x s n=>?_,by simp[g.2.2]⟩;rw[fq]at s;split at s
        .rename_i hi;cases s;rw[ao (by rw[hi,g.1];exact iN _),hi,g.1]at n;simp at n;subst n;exact⟨rfl,I _ _ KT,by rw[hi,g.1,g.2.2]⟩
        .have hi:i<es.l:=by rw[<-g.1];exact(aX.1 s).1
         rw[ah hi]at n;obtain⟨p,q,r⟩:=g.2.1 i e x s n
         exact⟨p,I _ _ q,r⟩)
       refine⟨_,_,jr,_,_,c,⟨rfl,rfl⟩,m1,.tup [C,goInt f] _ rfl (λi v d o B=>?_),m2⟩
       match i,o,B with
       | 0,o,B=>cases o;cases B;exact KT.sv h.toHeapOK m2
       | 1,o,B=>cases o;cases B;rw[g.2.2];exact .val _
      .rw[Q]at f1;cases f1
     .rw[g2]at y;cases y;rcases JD (c:=c) (w:=w) v arr.toList es 0 A Y with⟨f1,f2,f3⟩|⟨j,val,d,f1,f2,_,f4,f5,E,f6,f7⟩
      .rw[Q]at f1;cases f1
      .have S:0+j0=0+j/\R=val:=by rw[Q]at f1;simp only[ax,ef]at f1;exact f1
       obtain⟨S,rfl⟩:=S;have S:j0=j:=U;subst S;have oK:j0<arr.size:=by simpa using f4
       have V:arr[j0]? = aE E:=by simpa using f6
       have U':M.has E.key=true:=JY E (hU f6)
       have VA:(la E.key v).run P w = .ok v w:=by simp[la,aeD Vp K U' f7]
       have J:j0<es.l:=by rw[<-g.1];exact oK
       have T:E.val=R/\E.born=j0:=by refine⟨?_,(g.2.1 j0 E es[j0] V (by simp[J])).2.2⟩;exact aa7 (kv:=v) (i:=0) f1 f6
       have jr:(ga t (.map (aE L.b)) v).run P w = .ok (.tuple #[R,goInt (j0:Nat)]) { w with heap:=w.heap.setIfInBounds L.b (.map (arr.modify j0 λe=>{ e with key:=v }) f) }:=by simp only[ga,ek,di hu,eh,wg,qz,DT,f1,aR,V,aK,bh,VA,T.2];simp[kD,er,hm]
       obtain⟨m1,m2⟩:=CN h (wG Z) rfl rfl rfl ic N (.map (arr.modify j0 λe=>{ e with key:=v }) f) (ob':=.map M (lF es v d0)) (by
        intro w' W I;simp only[iY];refine⟨N,Kc d0,_,_,W,?_⟩;rw[f5];refine⟨by simp[g.1],λi e x s n=>?_,by simp[g.2.2]⟩;rw[bB]at s;rw[bI]at n;split at s
        .rename_i hi;subst hi;rw[if_pos rfl,if_pos J]at n;simp only[ar]at s;obtain⟨e0,h0,rfl⟩:=s;cases n;rw[V]at h0;cases h0;exact⟨rfl,I _ _ (by rw[T.1];exact g3),T.2⟩
        .rename_i hi;rw[if_neg hi]at n;obtain⟨p,q,r⟩:=g.2.1 i e x s n
         exact⟨p,I _ _ q,r⟩)
       refine⟨_,_,jr,_,_,c,⟨rfl,rfl⟩,m1,.tup [R,goInt (j0:Nat)] _ rfl (λi v d o B=>?_),m2⟩
       match i,o,B with
       | 0,o,B=>cases o;cases B;exact g3.sv h.toHeapOK m2
       | 1,o,B=>cases o;cases B;rw[aR];exact .val _
   .cases y
  .cases y
 .cases y
theorem arn(h:iy G c H w){al:Al}{t:hY}{m s x d:D}{δ:Dl}{u v k:dx}(h1:gX c w u m)(U:gX c w v s)(T:gX c w k x)
  (b:Dh m s x H=aE (d,δ)):∃w',(kb t u v k).run P w = .ok () w'/\kj G c H w (KO H al d δ) undef w':=by
 unfold Dh at b;split at b
 .rename_i N n;split at b
  .rename_i kk es E;split at b
   .rename_i C W hg;split at b
    .rename_i S;cases b;cases U
     cases h1 with
     | im _ L I F=>
      have z:=h.ob N _ (wG E);simp only[Ob.gen]at z;rw[I]at z;simp only[iY]at z;obtain⟨_,B,arr,a,K,g⟩:=z;have A:n.n<es.l:=(ae.1 hg).1;have l:n.n<arr.size:=by rw[g.1];exact A
      have Y:arr.findIdx? (λe=>(e.born:Int) == n)=aE n.n:=by
       rw[Array.findIdx?_eq_some_iff_getElem];refine⟨l,?_,λj Z=>?_⟩
       .have:=(g.2.1 n.n arr[n.n] es[n.n] (by simp[l]) (by simp[A])).2.2;rw[this];have e:((n.n:Nat):Int)=n:=Int.toNat_of_nonneg S;rw[e];simp
       .have Q:j<es.l:=by omega
        have:=(g.2.1 j arr[j] es[j] gP (by simp[Q])).2.2;rw[this];simp;omega
      have M:(fp L.b).run P w = .ok (.map arr a) w:=by simp[fp,er,K]
      have X:(asInt (.int .i64 n)).run P w = .ok n w:=by simp[asInt,asIntOf]
      have R:(kb t (.map (aE L.b)) (.int .i64 n) k).run P w = .ok () { w with heap:=w.heap.setIfInBounds L.b (.map (arr.modify n.n λe=>{ e with val:=k }) a) }:=by simp only[kb,ek,eh,M,X,Y];simp[kD,er,K]
      obtain⟨m1,m2⟩:=CN h (wG E) rfl rfl rfl I F (.map (arr.modify n.n λe=>{ e with val:=k }) a) (ob':=.map kk (es.set n.n (C,x))) (by
       intro w' O J;simp only[iY];refine⟨F,λy f=>?_,_,_,O,?_⟩
       .rcases et f with f|rfl
        .exact B y f
        .exact B (C,W) (hU hg)
       refine⟨by simp[g.1],λi e y o f=>?_,by simp[g.2.2]⟩;rw[bB]at o;rw[bI]at f;split at o
       .rename_i hi;subst hi;rw[if_pos rfl,if_pos A]at f;cases f;simp only[ar]at o;obtain⟨V,h0,rfl⟩:=o;obtain⟨p,q,r⟩:=g.2.1 _ V _ h0 hg;exact⟨p,J _ _ T,r⟩
       .rename_i hi;rw[if_neg hi]at f;obtain⟨p,q,r⟩:=g.2.1 i e y o f
        exact⟨p,J _ _ q,r⟩)
      exact⟨_,R,_,_,c,⟨rfl,rfl⟩,m1,.any _,m2⟩
    .cases b
   .cases b
  .cases b
 .cases b
theorem atp(h:iy G c H w)(l:mg c w env a){al:Al}(L:o7 H al){o:eB}{R:jG}(b:uS P G o=aE R){d:D}{δ:Dl}(g:nW env H al.1 R=aE (d,δ)) :
  ∃v w',FL ((ez a.eval o).run P w) v w'/\kj G c H w (KO H al d δ) v w':=by
 have plain:∀ {v:dx} {d:D},gX c w v d->kj G c H w (KO H al d .no) v w:=λq=>⟨_,_,c,⟨rfl,rfl⟩,h,q,Step.refl _ _ _ _⟩;unfold uS at b;split at b
 .rename_i t x y ty f;split at b
  .rename_i n;simp only[ar]at b;obtain⟨X,hX,rfl⟩:=b
   have N:y = .const (.slice cc 0 0):=by
    have:=n.2;unfold PW at this;split at this
    .rfl
    .cases this
   subst N;obtain⟨C,rfl⟩:=nT g;obtain⟨r,h1,j⟩:=adJ h n.1 (jH h l hX) C x (.const (.slice cc 0 0));exact⟨r,w,by simp only[ez,f];exact kL h1,plain j⟩
  .cases b
 .rename_i t x y ty f;split at b
  .rename_i n;simp only[ar]at b;obtain⟨X,hX,rfl⟩:=b
   have N:y = .const (.slice cc 0 0):=by
    have:=n.2;unfold PW at this;split at this
    .rfl
    .cases this
   subst N;obtain⟨C,rfl⟩:=nT g;obtain⟨r,h1,j⟩:=adJ h n.1 (jH h l hX) C x (.const (.slice cc 0 0));exact⟨r,w,by simp only[ez,f];exact kL h1,plain j⟩
  .cases b
 .rename_i t x f;split at b
  .rename_i X p hX;cases b;simp only[nW]at g;split at g
   .rename_i s hs;cases g;have q:=jH h l hX;rw[hs]at q;generalize Q:a.eval x=u at q;cases q;obtain⟨k1,k2,k3⟩:=RS h L (.stringIter s 0) (.uI s 0) rfl rfl (λ_ U=>by simp only[iY];exact⟨trivial,trivial,U⟩);refine⟨_,_,by simp only[ez,f,Q];exact kL (v:=.pointer (aE ⟨w.heap.size,0,cc⟩)) (w':=w.alloc (.stringIter s 0)) (by simp[ml,di p]),_,_,_,⟨rfl,rfl⟩,k1,k2,k3⟩
   .cases g
  .rename_i k e X p hX;cases b;obtain⟨r,w',h1,j⟩:=arI (P:=P) h L p (jH h l hX) g;exact⟨r,w',by simp only[ez,f];exact kL h1,j⟩
  .cases b
 .rename_i x f;simp only[ar]at b;obtain⟨X,hX,rfl⟩:=b;obtain⟨r,w',h1,j⟩:=arF (P:=P) (ty:=o.type) h (jH h l hX) g;exact⟨r,w',by simp only[ez,f];exact kL h1,j⟩
 .simp only[ar]at b;obtain⟨X,hX,rfl⟩:=b;cases g
 .rename_i x f;simp only[ar]at b;obtain⟨X,hX,rfl⟩:=b;obtain⟨C,rfl⟩:=nT g;obtain⟨r,h1,j⟩:=aro (P:=P) h (jH h l hX) C;exact⟨r,w,by simp only[ez,f];exact kL h1,plain j⟩
 .rename_i cl f;split at b
  .rename_i t x F E B;split at b
   .rename_i M;simp only[ar]at b;obtain⟨X,hX,rfl⟩:=b;have A:cl.argTypes = #[t]:=by rw[<-cz (xs:=cl.argTypes),E]
    have K:cl.args = #[x]:=by rw[<-cz (xs:=cl.args),B]
    have q:=jH h l hX;simp only[nW]at g;split at g
    .rename_i S;cases g;rw[S]at q;generalize Q:a.eval x=u at q;cases q
     have W:∃e,P.underlying t=aE (.slice e):=by
      unfold HT at M;split at M
      .exact⟨_,km⟩
      .cases M
     obtain⟨e,p⟩:=W;refine⟨.int .i64 0,w,by rw[zz f F,A,K];exact kL (by simp[Q,Builtin.cap_,di p,goInt]),plain (.val _)⟩
    .cases g
   .cases b
  .rename_i t x F E B;have A:cl.argTypes = #[t]:=by rw[<-cz (xs:=cl.argTypes),E]
   have K:cl.args = #[x]:=by rw[<-cz (xs:=cl.args),B]
   split at b
   .rename_i e p;split at b
    .rename_i z i X I hi hX;split at b
     .rename_i n;cases b;obtain⟨w',h1,j⟩:=arj (P:=P) (al:=al) (ty:=o.type) h p hi I n.1 n.2 (jH h l hX) g;exact⟨_,w',by rw[zz f F,A,K];exact kL (by simpa using h1),j⟩
     .cases b
    .cases b
   .cases b
  .rename_i t u x y F E B;have A:cl.argTypes = #[t,u]:=by rw[<-cz (xs:=cl.argTypes),E]
   have K:cl.args = #[x,y]:=by rw[<-cz (xs:=cl.args),B]
   split at b
   .rename_i e p O;split at b
    .rename_i z i X Y I hi hX J;split at b
     .rename_i n;cases b;obtain⟨r,w',h1,j⟩:=ara (P:=P) (ty:=o.type) h L p O hi I n.1 n.2 (jH h l hX) (jH h l J) g;exact⟨r,w',by rw[zz f F,A,K];exact kL (by simpa using h1),j⟩
     .cases b
    .cases b
   .cases b
  .cases b
 .rename_i t m k f;split at b
  .rename_i kt e p;split at b
   .rename_i kk z X Y T I hX J;cases b;obtain⟨r,w',h1,j⟩:=arB (P:=P) (al:=al) h p T I (jH h l hX) (jH h l J) g;exact⟨r,w',by simp only[ez,f];exact kL h1,j⟩
   .cases b
  .cases b
 .rename_i t m s x f;split at b
  .rename_i X Y Z hX J V;cases b;obtain⟨w',h1,j⟩:=arn (P:=P) (al:=al) (t:=t) h (jH h l hX) (jH h l J) (jH h l V) g;exact⟨_,w',by simp only[ez,f];exact Mt h1,j⟩
  .cases b
 .cases b
end
abbrev FW(ro:Option Nat):Fence:={ Fence.wide with round:=ro }
def Jc{a:Option Nat}{n:Nat}{P:fa}{f:FuncId}{args:Array dx}{w:ep}{R:Ending->ep->Prop}:CallsIn (FW a) n P f args w R↔Calls P f args w R:=
 callsIn_wide (n:=n)
inductive oF(c:Ctx):List Nat->List lp->Prop
 | nil:oF c [] []
 | cons {v:Nat} {vs:List Nat} {ds:List lp} (L:Loc) (h1:c.ι v 0=aE L) (h2:L.kQ=eK) (h:oF c vs ds):oF c (v::vs) ({ target:=.collected L.b,args:=#[] }::ds)
def oF.mono{c c':Ctx}(b:∀v L,c.ι v 0=aE L->c'.ι v 0=aE L){vs:List Nat}{ds:List lp}(h:oF c vs ds):oF c' vs ds:=by
 induction h with
 | nil=>exact .nil
 | cons L h1 d _ a=>exact .cons L (b _ _ h1) d a
structure mA(G:GT)(N:Nat)(c:Ctx)(w:ep)(s:St)(a:jA):Prop where
 gW:iy G c s.H w
 env:mg c w s.env.get a
 size:N<=a.tmps.size
 marks:oF c s.marks a.defers
def vQ(N:Nat):Option Tmp->Bool
 | some d=>decide (d<N)
 | none=>eL
def Tz(P:fa)(G:GT)(o:eB):Option jG:=match pv P G o with
 | some op=>aE op
 | none=>uS P G o
def yT(P:fa)(G:GT)(N:Nat)(ops:Array eB)(o:eB):Option jb:=
 match Tz P G o with
 | none=>cc
 | some op=>if vQ N o.dst=eL then(match o.guard with
   | none=>aE ⟨o.dst,op,cc⟩
   | some (j,want)=>match (ops[j]?).bind (·.dst)with
    | some t=>aE ⟨o.dst,op,aE (t,want)⟩
    | none=>cc)else cc
def rZ(P:fa)(G:GT)(N:Nat)(ops:Array eB):List eB->Option (List jb)
 | []=>aE []
 | o::r=>match yT P G N ops o,rZ P G N ops r with
  | some e,aE l=>aE (e::l)
  | _,_=>cc
section
variable{P:fa}{G:GT}{c:Ctx}{w:ep}{env:iM}{a:jA}{N:Nat}
theorem asc{env:Env}{a:jA}{c:Ctx}{w:ep}(b:mg c w env.get a)(hN:N<=a.tmps.size){dst:Option Tmp}(f:vQ N dst=eL){v:dx}{d:D}(h:gX c w v d) :
  mg c w (put env dst d).get (a.put dst v):=by
 cases dst with
 | none=>exact b
 | some t=>
  have g:t<a.tmps.size:=aW (by simpa[vQ]using f) hN;intro k;simp only[put,Env.y4,Act.put];split
  .simp_all
  .rename_i e;have:(a.tmps.setIfInBounds t v).getD k undef=a.tmps.getD k undef:=pK;rw[this];exact b k
theorem ad2{a:jA}{dst:Option Tmp}{v:dx}:(a.put dst v).tmps.size=a.tmps.size:=by cases dst<;>simp[Act.put]
theorem put_defers{a:jA}{dst:Option Tmp}{v:dx}:(a.put dst v).defers=a.defers:=by cases dst<;>rfl
theorem mg.carry{c c':Ctx}{w w':ep}(h:∀v d,gX c w v d->gX c' w' v d)(b:mg c w env a):mg c' w' env a:=λk=>h _ _ (b k)
theorem mA.next{c':Ctx}{w':ep}{H':gQ}{s:St}(hs:mA G N c w s a)(gW:iy G c' H' w')(e:Step s.H.l c s.H w c' H' w'){dst:Option Tmp}(g:vQ N dst=eL)
  {v:dx} {d:D} (f:gX c' w' v d):mA G N c' w' { s with env:=put s.env dst d,H:=H' } (a.put dst v) where
 gW:=gW
 env:=asc (hs.env.carry λ_ _ h=>h.sv hs.gW.toHeapOK e) hs.size g f
 size:=by rw[ad2];exact hs.size
 marks:=by
  rw[put_defers];refine hs.marks.mono λv L h=>e.old v 0 L ?_ h;rcases bU v s.H.l with b|b
  .exact b
  .rw[hs.gW.out v 0 b]at h;cases h
theorem xx(p:mg c w env a){ops:Array eB}{o:eB}{g:Option (Nat×Bool)}(hg:match o.guard with
   | none=>g=cc
   | some (j,d)=>∃t,(ops[j]?).bind (·.dst)=aE t/\g=aE (t,d)) {b:Bool} (h:guardOf env g=aE b):Region.wanted o (yielded ops a.tmps)=b:=by
 unfold Region.wanted;split at hg
 .rename_i l;subst hg;simp only[guardOf,ax]at h;simp[l,h]
 .rename_i j d l;obtain⟨t,n,rfl⟩:=hg;simp only[guardOf]at h;split at h
  .rename_i x m;cases h;have f:=p t;rw[m]at f;generalize e:a.tmps.getD t undef=v at f;cases f
   have i:a.tmps[t]? = aE (.bool x):=by
    rw[dA]at e
    cases k:a.tmps[t]? with
    | none=>rw[k]at e;simp[undef]at e
    | some q=>rw[k]at e;simpa using e
   simp only[l,yielded,n,jI,i];cases x<;>cases d<;>rfl
  .rename_i vs m;cases h;have f:=p t;rw[m]at f;generalize e:a.tmps.getD t undef=v at f;cases f
   have i:a.tmps[t]? = aE (.tuple vs)\/a.tmps[t]? = none:=by
    rw[dA]at e
    cases k:a.tmps[t]? with
    | none=>exact .inr rfl
    | some q=>rw[k]at e;exact .inl (by simpa using e)
   rcases i with i|i<;>simp only[l,yielded,n,jI,i]<;>cases d<;>rfl
  .cases h
theorem ZX{o:eB}{op:jG}(h:Tz P G o=aE op):pv P G o=aE op\/uS P G o=aE op:=by
 unfold Tz at h;split at h
 .grind
 .exact .inr h
theorem ZT{o:eB}{a:jG}(b:pv P G o=aE a\/uS P G o=aE a){f:iM}{H:gQ}{n:Nat}{r:D×Dl}(h:iL f H n a=aE r):pv P G o=aE a:=by refine b.resolve_right λc=>?_;rw[atB (TA c)]at h;cases h
theorem Jk{o:eB}{a:jG}(b:pv P G o=aE a\/uS P G o=aE a){f:iM}{r:FuncId×List D}(h:lZ f a=aE r):pv P G o=aE a:=by refine b.resolve_right λc=>?_;rw[atC (TA c)]at h;cases h
theorem Br{ops:Array eB}{o:eB}{e:jb}(h:yT P G N ops o=aE e) :
  (pv P G o=aE e.op\/uS P G o=aE e.op)/\e.dst=o.dst/\(vQ N o.dst=eL)/\(match o.guard with
   | none=>e.guard=cc
   | some (j,a)=>∃t,(ops[j]?).bind (·.dst)=aE t/\e.guard=aE (t,a)):=by
 unfold yT at h;split at h
 .cases h
 .rename_i op b;split at h
  .rename_i c;split at h
   .rename_i hg;cases h;exact⟨ZX b,rfl,c,by simp[hg]⟩
   .rename_i j a hg;split at h
    .rename_i t d;cases h;exact⟨ZX b,rfl,c,t,d,rfl⟩
    .cases h
  .cases h
theorem EG{o:eB}{a:jG}(h:pv P G o=aE a):∀c,o.op≠.defer c:=by intro c b;simp[pv,b]at h
theorem adx{o:eB}{a:jG}(h:uS P G o=aE a):∀c,o.op≠.defer c:=by intro c b;simp[uS,b]at h
theorem aui{e:Option Nat}{n:Nat}{o:eB}{s:St}{f:jG}{d:D}{δ:Dl}{next:jA->ep->Prop}{Q:Exit->jA->ep->Prop}(hs:mA G N c w s a)(j:uS P G o=aE f)
  (q:vQ N o.dst=eL) {al:Al} (m:o7 s.H al) (h:nW s.env.get s.H al.1 f=aE (d,δ))
  (k:∀c' w' l,mA G N c' w' { s with env:=put s.env o.dst d,H:=δ.app s.H al } l->Step s.H.l c s.H w c' (δ.app s.H al) w'->next l w'):o.wpIn (FW e) n P a w next Q:=by
 obtain⟨v,w',b,d',H',c',⟨rfl,rfl⟩,gW,p,g⟩:=atp (P:=P) hs.gW hs.env m j h;refine⟨λ_ _=>trivial,?_⟩;rw[kl (FW e) a.eval o (adx j)];have i:=k c' w' (a.put o.dst v) (hs.next gW g q p) g;rcases b with b|⟨b,rfl⟩
 .rw[b];exact i
 .rw[b];exact i
theorem auf{ro:Option Nat}{n:Nat}{o:eB}{s:St}{x:X}{next:jA->ep->Prop}{Q:Exit->jA->ep->Prop}(hs:mA G N c w s a)(q:uS P G o=aE (.nextM x))
  (g:vQ N o.dst=eL) {v m since:Nat} {seen:List Nat} {kk:KK} {es:List (dx×D)} (hx:ev s.env.get x = .ptr v 0 0) (f:s.H[v]? = aE (.jO (.im m) since seen)) (hm:s.H[m]? = aE (.map kk es)) (qh:es.l=since)
  (k0:(∀i,i<es.l->i∈seen)->∀c' w' I,mA G N c' w' { s with env:=put s.env o.dst (.tup [.b eK]) } I->Step s.H.l c s.H w c' s.H w'->next I w')
  (k1:∀i k d,es[i]? = aE (k,d)->i ∉ seen->∀c' w' I,mA G N c' w' { s with env:=put s.env o.dst (.tup [.b eL,uC k,d]),H:=s.H.set v (.jO (.im m) since (seen ++ [i])) } I ->
   Step s.H.l c s.H w c' (s.H.set v (.jO (.im m) since (seen ++ [i]))) w'->next I w'):o.wpIn (FW ro) n P a w next Q:=by
 have jB:∃y,o.op = .next y eK/\cX G y=aE x:=by
  unfold uS at q
  repeat' split at q
  all_goals first|(cases q;done)|(simp only[ar]at q;obtain⟨_,_,Y⟩:=q;cases Y;done)|skip
  simp only[ar]at q;obtain⟨X,hX,Y⟩:=q;cases Y;exact⟨_,km,hX⟩
 obtain⟨y,ho,hX⟩:=jB;have W:=jH hs.gW hs.env hX;rw[hx]at W;generalize hu:a.eval y=u at W
 cases W with
 | ptr _ _ _ L ic jk=>
  have O:=hs.gW.ob v _ f;simp only[Ob.gen]at O;rw[ic]at O;simp only[iY]at O;obtain⟨_,R,bm,As,r⟩:=O
  cases As with
  | im _ p Em Rr=>
   have K:=hs.gW.ob m _ hm;simp only[Ob.gen]at K;rw[Em]at K;simp only[iY]at K;obtain⟨_,wi,arr,b,Kl,js,S,J2⟩:=K;have qe:b=since:=by rw[J2,qh]
   subst qe;refine⟨λ_ _=>trivial,?_⟩;rw[kl (FW ro) a.eval o (adx q)]
   have UM:∀e∈arr.toList,e.born<b:=by
    intro e t;obtain⟨i,hi⟩:=aG.1 t;have J:i<es.l:=by rw[<-js];have:=(ae.1 hi).1;simpa using this
    have:=(S i e es[i] (by simpa using hi) (by simp[J])).2.2;omega
   have F:=next_test_false seen.toArray arr b b UM (iN _)
   have z:(cp arr seen.toArray).filter (λe=>decide (e.born<b))=cp arr seen.toArray:=by apply Array.filter_eq_self.2;intro e t;simp only[decide_eq_true_eq];exact UM e (by simpa using (eY.1 t).1)
   have o4:(cp arr seen.toArray).filter (λe=>decide (e.born>=b)) = #[]:=by apply Array.filter_eq_empty_iff.2;intro e t;have:=UM e (by simpa using (eY.1 t).1);simp;omega
   have E:∀w1:ep,w1.heap=w.heap->(fp L.b).run P w1 = .ok (.mapIter (aE p.b) b seen.toArray b) w1:=λw1 h1=>by simp[fp,er,h1,r]
   have C:∀w1:ep,w1.heap=w.heap->(fp p.b).run P w1 = .ok (.map arr b) w1:=λw1 h1=>by simp[fp,er,h1,Kl]
   have mm:∀e,e∈(cp arr seen.toArray).toList->∃i k d,es[i]? = aE (k,d)/\i ∉ seen/\e.key=k/\gX c w e.val d/\e.born=i:=by
    intro e t
    have za:e∈arr/\(!seen.toArray.contains e.born)=true:=by have:=eY.1 (show e∈cp arr seen.toArray by simpa using t);exact this
    obtain⟨i,hi⟩:=aG.1 (show e∈arr.toList by simpa using za.1);have J:i<es.l:=by rw[<-js];have:=(ae.1 hi).1;simpa using this
    obtain⟨q1,q2,q3⟩:=S i e es[i] (by simpa using hi) (by simp[J]);refine⟨i,es[i].1,es[i].2,by simp[J],?_,q1,q2,q3⟩;have:=za.2;rw[q3]at this;simpa using this
   by_cases M:(cp arr seen.toArray) = #[]
   .have T:(ez a.eval o).run P w = .ok (.value (.tuple #[.bool eK])) w:=by
     have A:(fb (.pointer (aE ⟨L.b,0,cc⟩)) eK o.type).run P w = .ok (.tuple #[.bool eK]) w:=by have Ki:(arr.filter λe => !(seen.toArray).contains e.born) = #[]:=M;simp only[fb,ek,E w rfl,eh,C w rfl,F,bQ,if_false,iK,Ki];simp[choose,er,Question.forced]
     simp only[ez,ho,hu];rw[R];simp[A]
    rw[T];refine k0 (λi hi=>?_) c w _ (hs.next hs.gW (Step.refl _ _ _ _) g (.tup [.bool eK] _ rfl λj v d f g=>?_)) (Step.refl _ _ _ _)
    .by_cases iG:i∈seen
     .exact iG
     .exfalso;have DY:i<arr.size:=U;have a2:=(S i arr[i] es[i] (by simp[DY]) (by simp[hi])).2.2
      have:arr[i]∈cp arr seen.toArray:=by refine eY.2 ⟨Array.getElem_mem _,?_⟩;rw[a2];simpa using iG
      rw[M]at this;simp at this
    .match j,f,g with
     | 0,f,g=>cases f;cases g;exact .val _
   .have iU:(cp arr seen.toArray).isEmpty=false:=by
     cases hq:(cp arr seen.toArray).isEmpty with
     | false=>rfl
     | true=>exact absurd (Array.isEmpty_iff.1 hq) M
    have lD:0<(cp arr seen.toArray).size:=by
     rcases ey (cp arr seen.toArray).size with h|h
     .exact absurd (Array.eq_empty_of_size_eq_zero h) M
     .exact h
    have vc:∃(i:Nat) (w1:ep),i<(cp arr seen.toArray).size/\ly w w1/\w1.heap=w.heap/\(choose (.mapNext (cp arr seen.toArray).size)).run P w = .ok i w1:=by
     by_cases hf:(Question.mapNext (cp arr seen.toArray).size).forced=eL
     .exact⟨0,w,lD,ly.refl w,rfl,by simp[choose,er,hf]⟩
     .exact⟨w.tape w.drawn (.mapNext (cp arr seen.toArray).size) % (cp arr seen.toArray).size,{ w with drawn:=w.drawn+1 },Nat.mod_lt _ lD,ly.drew w,rfl,by simp[choose,er,hf,Question.cut]⟩
    obtain⟨i,w1,hi,B,a0,a1⟩:=vc;obtain⟨l,k,d,h1,A,h3,h4,h5⟩:=mm (cp arr seen.toArray)[i] gP;have Ap:=hs.gW.r9 B
    obtain⟨m1,m2⟩:=CN Ap f rfl rfl (ob':=.jO (.im m) b (seen ++ [l])) rfl ic jk (.mapIter (aE p.b) b (seen ++ [l]).toArray b) (λw' ta wx=>by
     simp only[iY]
     exact⟨jk,R,p.b,.im m p Em Rr,ta⟩)
    have V:Step s.H.l c s.H w c (s.H.set v (.jO (.im m) b (seen ++ [l]))) { w1 with heap:=w1.heap.setIfInBounds L.b (.mapIter (aE p.b) b (seen ++ [l]).toArray b) }:=(Fb _ B).trans m2 (iN _)
    have T:(ez a.eval o).run P w = .ok (.value (.tuple #[.bool eL,k,(cp arr seen.toArray)[i].val])) { w1 with heap:=w1.heap.setIfInBounds L.b (.mapIter (aE p.b) b (seen ++ [l]).toArray b) }:=by
     have my:(kD L.b (.mapIter (aE p.b) b (seen ++ [l]).toArray b)).run P w1 = .ok () { w1 with heap:=w1.heap.setIfInBounds L.b (.mapIter (aE p.b) b (seen ++ [l]).toArray b) }:=by simp[kD,er,a0,r]
     have A:(fb (.pointer (aE ⟨L.b,0,cc⟩)) eK o.type).run P w = .ok (.tuple #[.bool eL,k,(cp arr seen.toArray)[i].val]) { w1 with heap:=w1.heap.setIfInBounds L.b (.mapIter (aE p.b) b (seen ++ [l]).toArray b) }:=by
      have Ki:(arr.filter λe => !(seen.toArray).contains e.born)=cp arr seen.toArray:=rfl;have ka:((if (cp arr seen.toArray).isEmpty then #[cc]else #[])++(cp arr seen.toArray ++ #[]).map aE)=(cp arr seen.toArray).map some:=by simp[iU]
      simp only[fb,ek,E w rfl,eh,C w rfl,F,bQ,if_false,iK,Ki,z,o4,ka,Array.size_map,a1];have Z:((cp arr seen.toArray).map aE)[i]? = aE (aE (cp arr seen.toArray)[i]):=by simp[hi]
      simp only[Z,ek];rw[h5,(gP:seen.toArray.push l=(seen ++ [l]).toArray),my];simp[h3]
     simp only[ez,ho,hu];rw[R];simp[A]
    rw[T];refine k1 l k d h1 A c _ _ (hs.next m1 V g (.tup [.bool eL,k,(cp arr seen.toArray)[i].val] _ rfl λj v d f g=>?_)) V
    match j,f,g with
    | 0,f,g=>cases f;cases g;exact .val _
    | 1,f,g=>cases f;cases g;exact aeb (wi _ (hU h1))
    | 2,f,g=>cases f;cases g;exact h4.sv hs.gW.toHeapOK V
theorem aug{e:Option Nat}{n:Nat}{o:eB}{s:St}{f:jG}{d:D}{δ:Dl}{next:jA->ep->Prop}{Q:Exit->jA->ep->Prop}(hs:mA G N c w s a)(j:pv P G o=aE f)
  (q:vQ N o.dst=eL) {al:Al} (m:o7 s.H al) (h:iL s.env.get s.H al.1 f=aE (d,δ))
  (k:∀c' w' l,mA G N c' w' { s with env:=put s.env o.dst d,H:=δ.app s.H al } l->Step s.H.l c s.H w c' (δ.app s.H al) w'->next l w'):o.wpIn (FW e) n P a w next Q:=by
 obtain⟨v,w',b,d',H',c',⟨rfl,rfl⟩,gW,p,g⟩:=adZ (P:=P) (K:=λd' H'=>d'=d/\H'=δ.app s.H al) hs.gW hs.env m j (Ze h ⟨rfl,rfl⟩);refine⟨λ_ _=>trivial,?_⟩;rw[kl (FW e) a.eval o (EG j)];have i:=k c' w' (a.put o.dst v) (hs.next gW g q p) g;rcases b with b|⟨b,rfl⟩
 .rw[b];exact i
 .rw[b];exact i
end
section
variable{P:fa}{G:GT}{c:Ctx}{w:ep}{env:iM}{a:jA}{N:Nat}
theorem ZY{o:eB}{b:jG}(a:pv P G o=aE b)(h:KZ b=eL):∃cl,o.op = .call cl:=by
 unfold pv at a;split at a
 all_goals first|exact⟨_,km⟩|skip
 all_goals exfalso
 all_goals try simp only[aB,ag,aL]at a
 all_goals (repeat' first|(obtain⟨_,_,a⟩:=a)|split at a|simp only[ag]at a)
 all_goals first|(simp[KZ]at h;done)|(cases a<;>simp[KZ]at h)
theorem Sq{H:gQ}(gW:iy G c H w)(t:mg c w env a){o:eB}{l:jG}(b:pv P G o=aE l){f:FuncId}{args:List D}(d:lZ env l=aE (f,args))(r:uW P f=eL) :
  ∃vs:List dx,(ez a.eval o).run P w = .ok (.enter f vs.toArray) w/\kF c w vs args:=by
 have J:=b;unfold pv at b
 cases j:o.op with
 | call cl=>
  simp only[j,aB,ag]at b;obtain⟨xs,u,b⟩:=b;have s:=C9 gW t cl.args.toList u;split at b
  .rename_i g q;split at b
   .have p:g=f/\List.map (ev env) xs=args:=by
     cases b;have C:lZ env (if G.nw g=eL then jG.callN g xs else jG.call g xs)=aE (g,xs.map (ev env)):=by split<;>rfl
     rw[C]at d;simpa using d
    obtain⟨rfl,rfl⟩:=p;refine⟨_,?_,s⟩;have e:cl.args.map a.eval=(cl.args.toList.map a.eval).toArray:=by cases cl.args;simp
    simp only[ez,j,resolve,q,Act.eval,Deferred.ofValue,ek,iK,eh,invoke];rw[<-e];have h:=Sr (P:=P) r (cl.args.map a.eval) w;simpa using h
   .cases b
  .rename_i x K q;simp only[ag,aL,ax]at b;obtain⟨X,hX,rfl⟩:=b;simp only[lZ]at d;split at d
   .rename_i k first cap s5
    cases d;have m:=jH gW t hX;rw[s5]at m;generalize B:a.eval x=v at m
    cases m with
    | fn _ fs cs _ _ I e2 F E=>
     refine⟨fs++cl.args.toList.map a.eval++cs,?_,((kF.Lo I F).append s).append (kF.Lo e2 E)⟩;simp only[ez,j,resolve,q,B,Deferred.ofValue,ek,iK,eh,invoke];have h:=Sr (P:=P) r (fs.toArray++cl.args.map a.eval++cs.toArray) w;have e2:fs.toArray++cl.args.map a.eval++cs.toArray=(fs++cl.args.toList.map a.eval++cs).toArray:=by cases cl.args;simp
     rw[e2]at h ⊢;exact h
   .cases d
  .split at b
   .simp only[ag]at b;obtain⟨A,_,b⟩:=b;split at b
    .simp only[ag]at b;obtain⟨i,_,z,_,y,_,b⟩:=b;split at b
     .split at b
      .cases b;cases d
      .cases b
     .cases b
    .cases b
   .cases b
  .split at b
   .simp only[ag]at b;obtain⟨A,_,b⟩:=b;split at b
    .simp only[ag]at b;obtain⟨y,_,b⟩:=b;split at b
     .simp only[ag]at b;obtain⟨n,_,b⟩:=b;split at b
      .cases b;cases d
      .cases b
     .cases b
    .cases b
   .cases b
  .split at b
   .split at b
    .cases b;cases d
    .cases b;cases d
    .cases b;cases d
    .cases b
   .cases b
  .cases b;cases d
  .cases b;cases d
  .cases b
 | _=>
  have h1:KZ l=true:=by unfold lZ at d;unfold KZ;split at d<;>first|rfl|cases d
  obtain⟨cl,h⟩:=ZY J h1;rw[j]at h;cases h
end
abbrev Fp:=Nat×Option (Nat×Nat)
def pk:D->List Fp
 | .gR v _ _ _ _=>[(v,cc)]
 | .im v=>[(v,cc)]
 | _=>[]
def xE(n:Nat):D->List Fp
 | .ptr v _ o=>[(v,aE (o,n))]
 | _=>[]
def iO(f:iM)(H:gQ):jG->List Fp
 | .ld1 x=>xE 1 (ev f x)
 | .ldN n x=>xE n (ev f x)
 | .st1 a _=>xE 1 (ev f a)
 | .stN n a _=>xE n (ev f a)
 | .lookup _ _ _ m _=>pk (ev f m)
 | .mapUpd _ m _ _=>pk (ev f m)
 | .len .map x=>pk (ev f x)
 | .b2s x=>pk (ev f x)
 | .slcArr sz n x _ _=>xE (n*sz) (ev f x)
 | .app _ _ _ x y=>pk (ev f x)++pk (ev f y)
 | .copy _ x y=>pk (ev f x)++pk (ev f y)
 | .call g args=>((args.map (ev f)).map (jq H 40)).flatten.map λv=>(v,cc)
 | .callN g args=>((args.map (ev f)).map (jq H 40)).flatten.map λv=>(v,cc)
 | .callv g args=>match lZ f (.callv g args)with
  | some (_,ds)=>(ds.map (jq H 40)).flatten.map λv=>(v,cc)
  | none=>[]
 | _=>[]
def kX(n:Nat):Dl->List Fp
 | .no=>[]
 | .cells v o xs=>[(v,aE (o,xs.l))]
 | .obj v _=>[(v,cc)]
 | .new _=>[(n,cc)]
def wX:Fp->Fp->Bool
 | (v,cc),(u,_)=>v != u
 | (v,aE _),(u,cc)=>v != u
 | (v,aE (o,n)),(u,aE (p,m))=>v != u||decide (o+n<=p)||decide (p+m<=o)
def wY(a b:List Fp):Bool:=a.all λx=>b.all λy=>wX x y
def Alike(x:Fp)(H1 H2:gQ):Prop:=
 match x with
 | (v,cc)=>H1[v]? = H2[v]?
 | (v,aE (o,n))=>H1[v]? = H2[v]?\/∃t g cs ds,H1[v]? = aE (.row t g cs)/\H2[v]? = aE (.row t g ds)/\cs.l=ds.l/\∀i,o<=i->i<o+n->cs[i]? = ds[i]?
def wS(l:List Fp)(H1 H2:gQ):Prop:=∀x∈l,Alike x H1 H2
def jE:X->List Nat
 | .t k=>[k]
 | .c _=>[]
def zB(l:List X):List Nat:=(l.map jE).flatten
def zA:Option X->List Nat
 | some x=>jE x
 | none=>[]
def jg:jG->List Nat
 | .mv x=>jE x
 | .pick c a b=>jE c++jE a++jE b
 | .box _ x=>jE x
 | .alloc _ _=>[]
 | .build _ ps=>(ps.map λp=>jE p.2.2).flatten
 | .buildSl _ _ _ _ ps=>(ps.map λp=>jE p.2).flatten
 | .ld1 x=>jE x
 | .ldN _ x=>jE x
 | .st1 a x=>jE a++jE x
 | .stN _ a x=>jE a++jE x
 | .nilck x=>jE x
 | .arith _ x y=>jE x++jE y
 | .eqS _ _ _ x y=>jE x++jE y
 | .un _ x=>jE x
 | .conv _ x=>jE x
 | .b2s x=>jE x
 | .mkfn _ a b=>zB a++zB b
 | .mkmap _=>[]
 | .mksl _ _ _ _ l c=>jE l++jE c
 | .slc _ x lo hi=>jE x++zA lo++zA hi
 | .slcS x lo hi=>jE x++zA lo++zA hi
 | .slc3 _ x lo hi mx=>jE x++zA lo++jE hi++jE mx
 | .slcArr _ _ x lo hi=>jE x++zA lo++zA hi
 | .fieldA _ x=>jE x
 | .field _ _ _ x=>jE x
 | .idxA _ x i=>jE x++jE i
 | .idxArr _ _ x i=>jE x++jE i
 | .idx _ _ _ x i=>jE x++jE i
 | .idxStr x i=>jE x++jE i
 | .lookup _ _ _ m k=>jE m++jE k
 | .mapUpd _ m k x=>jE m++jE k++jE x
 | .ext x _=>jE x
 | .call _ args=>zB args
 | .callN _ args=>zB args
 | .callv f args=>jE f++zB args
 | .app _ _ _ x y=>jE x++jE y
 | .copy _ x y=>jE x++jE y
 | .len _ x=>jE x
 | .minmax _ xs=>zB xs
 | .nilS _ x | .capE x | .clr _ _ x | .rangeS x | .nextS x | .rangeM x | .nextM x | .entry x=>jE x
 | .mapEnt _ _ m k=>jE m++jE k
 | .entSt m s x=>jE m++jE s++jE x
 | .appZ _ _ _ _ x n=>jE x++jE n
def Lu:jG->Bool
 | .mv _ | .pick .. | .build .. | .nilck _ | .arith .. | .eqS .. | .un .. | .conv .. | .mkfn .. | .slc .. | .slcS .. | .slc3 .. | .fieldA .. | .field .. | .idxA .. | .idxArr .. | .idx .. | .idxStr .. | .ext .. | .minmax ..
 | .len .slice _ | .len .string _=>eL
 | _=>eK
def W2:jG->Bool
 | .ld1 _ | .ldN .. | .b2s _ | .slcArr .. | .lookup .. | .len .. | .call .. | .callv .. => eL
 | op=>Lu op
def SF(a b:jG):Bool:=Lu a||Lu b||(W2 a&&W2 b)
section
variable{f f':iM}
theorem Dn{x:X}(h:∀t∈jE x,f t=f' t):ev f x=ev f' x:=by
 cases x with
 | t k=>exact h k (by simp[jE])
 | c d=>rfl
theorem Dp{l:List X}(h:∀t∈zB l,f t=f' t):l.map (ev f)=l.map (ev f'):=
 au λx a=>Dn λt b=>h t (bq.2 ⟨_,aj.2 ⟨x,a,rfl⟩,b⟩)
theorem WV:∀ {l:List (Nat×Nat×X)},(∀t∈(l.map λp=>jE p.2.2).flatten,f t=f' t)->partsOf f l=partsOf f' l
 | [],_=>rfl
 | (o,n,x)::r,h=>by have h1:ev f x=ev f' x:=Dn λt a=>h t (by simp[a]);have b:=WV (l:=r) λt a=>h t (by simp only[jX,bg,ai];exact .inr a);simp only[partsOf,h1,b]
theorem zR{x:Option X}{n:Int}(h:∀t∈zA x,f t=f' t):jd f x n=jd f' x n:=by
 cases x with
 | none=>rfl
 | some x=>simp only[jd,Dn (x:=x) h]
theorem ack:∀ {l:List X},(∀t∈zB l,f t=f' t)->tQ f l=tQ f' l
 | [],_=>rfl
 | x::r,h=>by have h1:ev f x=ev f' x:=Dn λt a=>h t (by simp[zB,a]);have b:=ack (l:=r) λt a=>h t (by simp only[zB,jX,bg,ai];exact .inr a);simp only[tQ,h1,b]
theorem Zd{op:jG}(h:∀t∈jg op,f t=f' t)(H:gQ)(n:Nat):iL f H n op=iL f' H n op:=by
 have e:∀ {x:X},(∀t∈jE x,t∈jg op)->ev f x=ev f' x:=λq=>Dn λt d=>h t (q t d);cases op<;>simp only[iL]<;>first|rfl|skip
 case mv x=>rw[e (x:=x) (λt d=>by simpa[jg]using d)]
 case pick c a b=>rw[e (x:=c) (λt d=>by simp[jg,d]),e (x:=a) (λt d=>by simp[jg,d]),e (x:=b) (λt d=>by simp[jg,d])]
 case box x=>rw[e (x:=x) (λt d=>by simpa[jg]using d)]
 case build z ps=>simp only[FR,WV (f:=f) (f':=f') (l:=ps) (λt d=>h t (by simpa[jg]using d))]
 case buildSl t sz z m ps=>
  have:=WV (f:=f) (f':=f') (l:=ps.map λp=>(p.1*sz,sz,p.2)) (λt d=>h t (by simpa[jg,bC,fL]using d));simp only[Bl,this]
 case ld1 x=>rw[e (x:=x) (λt d=>by simpa[jg]using d)]
 case ldN n x=>rw[e (x:=x) (λt d=>by simpa[jg]using d)]
 case st1 a x=>rw[e (x:=a) (λt d=>by simp[jg,d]),e (x:=x) (λt d=>by simp[jg,d])]
 case stN n a x=>rw[e (x:=a) (λt d=>by simp[jg,d]),e (x:=x) (λt d=>by simp[jg,d])]
 case nilck x=>rw[e (x:=x) (λt d=>by simpa[jg]using d)]
 case arith op x y=>rw[e (x:=x) (λt d=>by simp[jg,d]),e (x:=y) (λt d=>by simp[jg,d])]
 case eqS b ls neg x y=>rw[e (x:=x) (λt d=>by simp[jg,d]),e (x:=y) (λt d=>by simp[jg,d])]
 case un op x=>rw[e (x:=x) (λt d=>by simpa[jg]using d)]
 case conv k x=>rw[e (x:=x) (λt d=>by simpa[jg]using d)]
 case b2s x=>rw[e (x:=x) (λt d=>by simpa[jg]using d)]
 case mkfn g a b=>rw[Dp (f:=f) (f':=f') (l:=a) (λt d=>h t (by simp[jg,d])),Dp (f:=f) (f':=f') (l:=b) (λt d=>h t (by simp[jg,d]))]
 case mksl t sz Tg z l c=>rw[e (x:=l) (λt d=>by simp[jg,d]),e (x:=c) (λt d=>by simp[jg,d])]
 case slc sz x lo hi=>
  have j:∀n,jd f lo n=jd f' lo n:=λn=>zR λt d=>h t (by simp[jg,d]);have e2:∀n,jd f hi n=jd f' hi n:=λn=>zR λt d=>h t (by simp[jg,d]);simp only[vH,j,e2,e (x:=x) (λt d=>by simp[jg,d])]
 case slc3 sz x lo hi mx=>
  have j:∀n,jd f lo n=jd f' lo n:=λn=>zR λt d=>h t (by simp[jg,d]);have e2:∀n,jd f (aE hi) n=jd f' (aE hi) n:=λn=>zR λt d=>h t (by simp only[zA]at d;simp[jg,d]);have r:∀n,jd f (aE mx) n=jd f' (aE mx) n:=λn=>zR λt d=>h t (by simp only[zA]at d;simp[jg,d]);simp only[AW,j,e2,r,e (x:=x) (λt d=>by simp[jg,d])]
 case slcArr sz m x lo hi=>
  have j:∀n,jd f lo n=jd f' lo n:=λn=>zR λt d=>h t (by simp[jg,d]);have e2:∀n,jd f hi n=jd f' hi n:=λn=>zR λt d=>h t (by simp[jg,d]);simp only[CH,j,e2,e (x:=x) (λt d=>by simp[jg,d])]
 case slcS x lo hi=>
  have j:∀n,jd f lo n=jd f' lo n:=λn=>zR λt d=>h t (by simp[jg,d]);have e2:∀n,jd f hi n=jd f' hi n:=λn=>zR λt d=>h t (by simp[jg,d]);simp only[SA,j,e2,e (x:=x) (λt d=>by simp[jg,d])]
 case fieldA o x=>rw[e (x:=x) (λt d=>by simpa[jg]using d)]
 case field o n b x=>rw[e (x:=x) (λt d=>by simpa[jg]using d)]
 case idxA sz x i=>rw[e (x:=x) (λt d=>by simp[jg,d]),e (x:=i) (λt d=>by simp[jg,d])]
 case idxArr sz n x i=>rw[e (x:=x) (λt d=>by simp[jg,d]),e (x:=i) (λt d=>by simp[jg,d])]
 case idx sz n b x i=>rw[e (x:=x) (λt d=>by simp[jg,d]),e (x:=i) (λt d=>by simp[jg,d])]
 case idxStr x i=>rw[e (x:=x) (λt d=>by simp[jg,d]),e (x:=i) (λt d=>by simp[jg,d])]
 case lookup kk z ok m k=>rw[e (x:=m) (λt d=>by simp[jg,d]),e (x:=k) (λt d=>by simp[jg,d])]
 case mapUpd kk m k x=>rw[e (x:=m) (λt d=>by simp[jg,d]),e (x:=k) (λt d=>by simp[jg,d]),e (x:=x) (λt d=>by simp[jg,d])]
 case ext x i=>rw[e (x:=x) (λt d=>by simpa[jg]using d)]
 case app t sz Tg x y=>rw[e (x:=x) (λt d=>by simp[jg,d]),e (x:=y) (λt d=>by simp[jg,d])]
 case copy sz x y=>rw[e (x:=x) (λt d=>by simp[jg,d]),e (x:=y) (λt d=>by simp[jg,d])]
 case len k x=>rw[e (x:=x) (λt d=>by simpa[jg]using d)]
 case minmax b xs=>simp only[Hj,ack (f:=f) (f':=f') (l:=xs) (λt d=>h t (by simpa[jg]using d))]
end
def PH{f f':iM}{op:jG}(h:∀t∈jg op,f t=f' t):lZ f op=lZ f' op:=by
 cases op<;>first|rfl|skip
 case call g args=>simp only[lZ,Dp (f:=f) (f':=f') (l:=args) (λt a=>h t (by simpa[jg]using a))]
 case callN g args=>simp only[lZ,Dp (f:=f) (f':=f') (l:=args) (λt a=>h t (by simpa[jg]using a))]
 case callv g args=>
  simp only[lZ,Dp (f:=f) (f':=f') (l:=args) (λt a=>h t (by simp[jg,a])),Dn (f:=f) (f':=f') (x:=g) (λt a=>h t (by simp[jg,a]))]
def Qq{f f':iM}{op:jG}(h:∀t∈jg op,f t=f' t)(H:gQ):iO f H op=iO f' H op:=by
 have c:∀ {x:X},(∀t∈jE x,t∈jg op)->ev f x=ev f' x:=λd=>Dn λt b=>h t (d t b);have e:=PH h;cases op<;>simp only[iO]<;>first|rfl|skip
 case ld1 x=>rw[c (x:=x) (λt b=>by simpa[jg]using b)]
 case ldN n x=>rw[c (x:=x) (λt b=>by simpa[jg]using b)]
 case b2s x=>rw[c (x:=x) (λt b=>by simpa[jg]using b)]
 case slcArr sz n x lo hi=>rw[c (x:=x) (λt b=>by simp[jg,b])]
 case st1 a x=>rw[c (x:=a) (λt b=>by simp[jg,b])]
 case stN n a x=>rw[c (x:=a) (λt b=>by simp[jg,b])]
 case lookup kk z ok m k=>rw[c (x:=m) (λt b=>by simp[jg,b])]
 case mapUpd kk m k x=>rw[c (x:=m) (λt b=>by simp[jg,b])]
 case app t sz Tg x y=>rw[c (x:=x) (λt b=>by simp[jg,b]),c (x:=y) (λt b=>by simp[jg,b])]
 case copy sz x y=>rw[c (x:=x) (λt b=>by simp[jg,b]),c (x:=y) (λt b=>by simp[jg,b])]
 case len k x=>cases k<;>simp only[iO]<;>rw[c (x:=x) (λt b=>by simpa[jg]using b)]
 case call g args=>rw[Dp (f:=f) (f':=f') (l:=args) (λt b=>h t (by simpa[jg]using b))]
 case callN g args=>rw[Dp (f:=f) (f':=f') (l:=args) (λt b=>h t (by simpa[jg]using b))]
 case callv g args=>rw[e]
section
variable{H1 H2:gQ}
theorem Sj{v:Nat}(h:H1[v]? = H2[v]?)(g:Nat):rowAt H1 v g=rowAt H2 v g:=by simp only[rowAt,h]
theorem Wm{v:Nat}(h:H1[v]? = H2[v]?):mU H1 v=mU H2 v:=by simp only[mU,h]
theorem LQ{v o n:Nat}(h:Alike (v,aE (o,n)) H1 H2)(g:Nat) :
  (rowAt H1 v g=cc/\rowAt H2 v g=cc)\/∃t cs ds,rowAt H1 v g=aE (t,cs)/\rowAt H2 v g=aE (t,ds)/\cs.l=ds.l/\∀i,o<=i->i<o+n->cs[i]? = ds[i]? := by
 rcases h with h|⟨t,d,cs,ds,h1,a,c,b⟩
 .rw[Sj h g]
  cases f:rowAt H2 v g with
  | none=>exact .inl ⟨rfl,rfl⟩
  | some p=>exact .inr ⟨p.1,p.2,p.2,rfl,rfl,rfl,λ_ _ _=>rfl⟩
 .by_cases e:d=g
  .exact .inr ⟨t,cs,ds,by simp[rowAt,h1,e],by simp[rowAt,a,e],c,b⟩
  .exact .inl ⟨by simp[rowAt,h1,e],by simp[rowAt,a,e]⟩
theorem Xr{sz:Nat}{d:D}(h:wS (pk d) H1 H2):lX sz H1 d=lX sz H2 d:=by
 unfold lX;split<;>first|rfl|skip
 rename_i v g a off len;have:=h (v,cc) (by simp[pk]);rw[Sj this]
theorem wS.left{a b:List Fp}(h:wS (a++b) H1 H2):wS a H1 H2:=λx c=>h x (bp _ c)
theorem wS.right{a b:List Fp}(h:wS (a++b) H1 H2):wS b H1 H2:=λx c=>h x (bK _ c)
theorem afQ{f:iM}{op:jG}(h:wS (iO f H1 op) H1 H2)(n:Nat):iL f H1 n op=iL f H2 n op:=by
 cases op<;>simp only[iL]<;>first|rfl|skip
 case ld1 x=>
  congr 1;simp only[iO]at h;unfold zm;split<;>first|rfl|skip
  rename_i v g o b;rw[b]at h;rcases LQ (h (v,aE (o,1)) (by simp[xE])) g with⟨c,e2⟩|⟨t,cs,ds,c,e2,d,e⟩
  .rw[c,e2]
  .grind
 case ldN m x=>
  congr 1;simp only[iO]at h;unfold yg;split<;>first|rfl|skip
  rename_i v g o b;rw[b]at h;rcases LQ (h (v,aE (o,m)) (by simp[xE])) g with⟨c,e2⟩|⟨t,cs,ds,c,e2,d,e⟩
  .rw[c,e2]
  .rw[c,e2]
   have:(cs.drop o).take m=(ds.drop o).take m:=by
    apply bN;intro i;simp only[aJ,aD];split
    .grind
    .rfl
   simp only[d,this]
 case st1 a x=>
  simp only[iO]at h;unfold E8;split<;>first|rfl|skip
  rename_i v g o b;rw[b]at h;rcases LQ (h (v,aE (o,1)) (by simp[xE])) g with⟨c,e2⟩|⟨t,cs,ds,c,e2,d,e⟩
  .rw[c,e2]
  .grind
 case stN m a x=>
  simp only[iO]at h;unfold Fa;split<;>first|rfl|skip
  rename_i v g o xs b _;rw[b]at h;rcases LQ (h (v,aE (o,m)) (by simp[xE])) g with⟨c,e2⟩|⟨t,cs,ds,c,e2,d,e⟩
  .rw[c,e2]
  .grind
 case slcArr sz m x lo hi=>
  congr 1;simp only[iO]at h;unfold CH;split<;>first|rfl|skip
  rename_i v g o l q b _ _;rw[b]at h;rcases LQ (h (v,aE (o,m*sz)) (by simp[xE])) g with⟨c,e2⟩|⟨t,cs,ds,c,e2,d,e⟩
  .rw[c,e2]
  .grind
 case lookup kk z ok m k=>
  congr 1;simp only[iO]at h;unfold Es;split<;>first|rfl|skip
  rename_i v kv b _;rw[b]at h;rw[Wm (h (v,cc) (by simp[pk]))]
 case mapUpd kk m k x=>
  simp only[iO]at h;unfold Co;split<;>first|rfl|skip
  rename_i v kv b _;rw[b]at h;rw[Wm (h (v,cc) (by simp[pk]))]
 case b2s x=>
  congr 1;simp only[iO]at h;unfold FO;rw[Xr (sz:=1) h]
 case len k x=>
  congr 1;unfold od;split<;>first|rfl|skip
  rename_i v b;simp only[iO]at h;rw[b]at h;rw[Wm (h (v,cc) (by simp[pk]))]
 case app t sz Tg x y=>
  simp only[iO]at h;unfold tC;rw[Xr (sz:=sz) h.right];split<;>first|rfl|skip
  split<;>first|rfl|skip
  rename_i v g j off len b;rw[b]at h;rw[Sj (h (v,cc) (by simp[pk]))]
 case copy sz x y=>
  simp only[iO]at h;unfold Bs;rw[Xr (sz:=sz) h.right];split<;>first|rfl|skip
  rename_i v g j off len p n b _;rw[b]at h;rw[Sj (h (v,cc) (by simp[pk]))]
theorem CA(H:gQ)(v g:Nat):rowAt H v g=match rowsOf H v with|some (t,g',cs)=>if g'=g then aE (t,cs)else cc|none=>none:=by
 unfold rowAt rowsOf
 cases H[v]? with
 | none=>rfl
 | some o=>cases o<;>rfl
theorem LI:∀(k:Nat) (d:D),(∀v∈jq H1 k d,rowsOf H1 v=rowsOf H2 v)->jq H2 k d=jq H1 k d/\ib (λ_=>cc) H2 k d=ib (λ_=>cc) H1 k d
 | 0,d,_=>⟨rfl,rfl⟩
 | k+1,d,h=>by
  have f:∀(ds:List D),(∀v∈(ds.map (jq H1 k)).flatten,rowsOf H1 v=rowsOf H2 v)->ds.map (jq H2 k)=ds.map (jq H1 k)/\ds.map (ib (λ_=>cc) H2 k)=ds.map (ib (λ_=>cc) H1 k):=by intro ds q;have h1:∀d∈ds,∀v∈jq H1 k d,rowsOf H1 v=rowsOf H2 v:=λd j v c=>q v (bq.2 ⟨_,aj.2 ⟨d,j,rfl⟩,c⟩);exact⟨au λd j=>(LI k d (h1 d j)).1,au λd j=>(LI k d (h1 d j)).2⟩
  unfold jq at h;unfold jq ib
  by_cases r:closed d=eL
  .grind
  .simp only[if_neg r]at h ⊢
   cases d with
   | agg cs=>obtain⟨a,b⟩:=f cs h;simp only[a,b,and_self]
   | tup cs=>obtain⟨a,b⟩:=f cs h;simp only[a,b,and_self]
   | ie cs=>obtain⟨a,b⟩:=f cs h;simp only[a,b,and_self]
   | sl sz es=>
    have h1:∀e∈es,e.map (jq H2 k)=e.map (jq H1 k)/\e.map (ib (λ_=>cc) H2 k)=e.map (ib (λ_=>cc) H1 k):=λe i=>f e λv c=>h v (bq.2 ⟨_,aj.2 ⟨e,i,rfl⟩,c⟩);have a:es.map (λe=>(e.map (jq H2 k)).flatten)=es.map (λe=>(e.map (jq H1 k)).flatten):=au λe i=>by rw[(h1 e i).1]
    have b:es.map (λx=>x.map (ib (λ_=>cc) H2 k))=es.map (λx=>x.map (ib (λ_=>cc) H1 k)):=au λe i=>(h1 e i).2;simp only[a,b,and_self]
   | fn g x y=>
    obtain⟨a,b⟩:=f x λv c=>h v (bp _ c);obtain⟨w,s⟩:=f y λv c=>h v (bK _ c);simp only[a,b,w,s,and_self]
   | gR v g sz off len=>
    have c:rowsOf H1 v=rowsOf H2 v:=h v gP;simp only[CA,<-c]
    cases m:rowsOf H1 v with
    | none=>exact⟨rfl,rfl⟩
    | some p=>
     obtain⟨t,o,cs⟩:=p;obtain⟨l,l2⟩:=f cs λu n=>h u (by simp only[m];exact bt _ n);refine⟨by simp only[l],?_⟩
     by_cases hg:o=g
     .grind
     .grind
   | ptr v g off=>
    have c:rowsOf H1 v=rowsOf H2 v:=h v gP;simp only[CA,<-c]
    cases m:rowsOf H1 v with
    | none=>exact⟨rfl,rfl⟩
    | some p=>
     obtain⟨t,o,cs⟩:=p;obtain⟨l,l2⟩:=f cs λu n=>h u (by simp only[m];exact bt _ n);refine⟨by simp only[l],?_⟩
     by_cases hg:o=g
     .grind
     .grind
   | _=>exact⟨rfl,rfl⟩
