/- Part 4 of DisputeMatchesReference. -/
import Derived.Test.YtmehofoficaelaaGreatDoorM03
import Derived.Laws.IdiomRangeMap
import Derived.RangeFuncLeaves
import Derived.OwnWalkIn
set_option linter.all false
open Option renaming some→aE,none→bb,bind_some→dr
open List renaming replicate→bs,mem_of_getElem?→cp,map_cons→dx,getElem?_eq_getElem→eh,take→ek,map_id'→en,length→List.l
open Bool renaming false→b4,true→cj
open Nat renaming le_refl→di
open Int renaming toNat→Int.n
namespace Go.AL
open Go
section
variable{G:GT}{c:Ctx}{H:gg}{w:World}{ks:oQ}
def B1(ks:oQ):Prop:=∀(i j:Nat) (p q:Nat×Bool),ks[i]? = aE p->ks[j]? = aE q->p.1=q.1->i=j
theorem U0{i:Nat}{o:Ob}(h:(sV ks H)[i]? = aE o)(d:o≠.dead):∃v a,ks[i]? = aE (v,cj)/\H[v]? = aE a/\o=qv (jc ks) H a:=by
 unfold sV at h;simp only[ax,aq]at h;obtain⟨p,c,b⟩:=h;split at b
 .grind
 .grind
theorem acB{o:Ob}(h:(qv (jc ks) H o).alive=cj):o.alive=cj/\(qv (jc ks) H o).gen=o.gen:=by cases o<;>simp_all [qv,Ob.alive,Ob.gen]
theorem UO{v i:Nat}(b:B1 ks)(h:ks[i]? = aE (v,cj)):jc ks v=aE i:=by
 cases a:jc ks v with
 | none=>exact absurd h (ace a i)
 | some j=>
  have:=acf a;rw[b i j _ _ h this rfl]
theorem PD{i:Nat}{L:Loc}(h:mJ (c.gA ks H) (sV ks H) i L):∃v,ks[i]? = aE (v,cj)/\mJ c H v L:=by obtain⟨o,f,a,b⟩:=h;obtain⟨v,d,h1,g,rfl⟩:=U0 f (by intro e;subst e;cases a);obtain⟨k,j⟩:=acB a;refine⟨v,h1,d,g,k,?_⟩;rw[j]at b;simpa[Ctx.gA,h1]using b
theorem abU{b:Nat}(h:mZ (c.gA ks H) (sV ks H) b):mZ c H b:=by obtain⟨i,L,hl,a,e⟩:=h;obtain⟨v,_,d⟩:=PD hl;exact⟨v,L,d,a,e⟩
theorem Gd(h:gL G c H w)(T:B1 ks):gL G (c.gA ks H) (sV ks H) w where
 inj i j L M h1 A h3 h4 O:=by obtain⟨v,k1,F⟩:=PD h1;obtain⟨v',k2,l2⟩:=PD A;have:=h.inj v v' L M F l2 h3 h4 O;subst this;exact T i j _ _ k1 k2 rfl
 lt b n:=h.lt b (abU n)
 nF b n K:=by
  obtain⟨i,L,hl,q,e⟩:=n;obtain⟨v,k1,F⟩:=PD hl;rcases K with K|⟨v',M,l2,S,P,W⟩
  .exact h.nF b ⟨v,L,F,q,e⟩ K
  .have:=h.inj v v' L M F l2 q P (e.trans W.symm);subst this;exact ace S i k1
 lF b n:=by
  rcases n with n|⟨v,L,l,_,q,e⟩
  .exact h.lF b n
  .exact h.lt b ⟨v,L,l,q,e⟩
 out i k hi:=by simp only[sV,List.length_map]at hi;simp[Ctx.gA,cG hi]
 nC i o k ho z:=by
  have I:o≠.dead:=by rintro rfl;rcases z with z|⟨z,_⟩<;>cases z
  obtain⟨v,y,h1,A,rfl⟩:=U0 ho I;rcases z with z|⟨V,hg⟩
  .cases y<;>simp[qv]at z
  .obtain⟨D,C⟩:=acB V;have:=h.nC v y k A (.inr ⟨D,by rw[<-C];exact hg⟩);simpa[Ctx.gA,h1]using this
 ob i o ho:=by
  by_cases I:o = .dead
  .subst I;simp[iy]
  .obtain⟨v,y,h1,A,rfl⟩:=U0 ho I;have h0:=h.ob v y A;have f:(c.gA ks H).ι i y.gen=c.ι v y.gen:=by simp[Ctx.gA,h1]
   have N:∀u d,gq c w u d->gq (c.gA ks H) w u (gA (jc ks) H 40 d):=λu d U=>BI h 40 U
   cases y with
   | dead=>simp[qv,iy]
   | mF=>simp[qv,iy]
   | row t g cs=>
    simp only[qv,Ob.gen]at f ⊢;rw[f];simp only[Ob.gen]at h0
    cases a:c.ι v g with
    | none=>rw[a]at h0;simp[iy]at h0
    | some L=>
     rw[a]at h0;simp only[iy]at h0 ⊢;split
     .grind
     .grind
   | map kk es=>
    simp only[qv,Ob.gen]at f ⊢;rw[f];simp only[Ob.gen]at h0
    cases a:c.ι v 0 with
    | none=>rw[a]at h0;simp[iy]at h0
    | some L=>
     rw[a]at h0;simp only[iy]at h0 ⊢;obtain⟨q,Y,arr,B,D,C,J,E⟩:=h0;refine⟨q,λx R=>?_,arr,B,D,by simpa using C,λj e x O R=>?_,by simpa using E⟩
     .grind
     .grind
   | iE rf env st=>
    simp only[qv,Ob.gen]at f ⊢;rw[f];simp only[Ob.gen]at h0
    cases a:c.ι v 0 with
    | none=>rw[a]at h0;simp[iy]at h0
    | some L=>
     rw[a]at h0;simp only[iy]at h0 ⊢;obtain⟨q,r,D,C,J,E⟩:=h0;refine⟨q,r,D,λk=>?_,J,E⟩
     have key:∀(env:Env) (k:Nat),(Env.get (env.map λx=>(x.1,gA (jc ks) H 40 x.2)) k)=gA (jc ks) H 40 (env.get k):=by
      intro env k
      induction env with
      | nil=>rfl
      | cons p r Q=>
       obtain⟨j,d⟩:=p;simp only[dx,Env.yg];split
       .rfl
       .exact Q
     rw[key];exact N _ _ (C k)
   | ua s p=>
    simp only[qv,Ob.gen]at f ⊢;rw[f];simp only[Ob.gen]at h0
    cases a:c.ι v 0 with
    | none=>rw[a]at h0;simp[iy]at h0
    | some L=>
     rw[a]at h0;simpa only[iy]using h0
   | jG m since seen=>
    simp only[qv,Ob.gen]at f ⊢;rw[f];simp only[Ob.gen]at h0
    cases a:c.ι v 0 with
    | none=>rw[a]at h0;simp[iy]at h0
    | some L=>
     rw[a]at h0;simp only[iy]at h0 ⊢;obtain⟨D,C,X,J,E⟩:=h0;exact⟨D,C,X,N _ _ J,E⟩
   | ka=>
    simp only[qv,Ob.gen]at f ⊢;rw[f];simp only[Ob.gen]at h0
    cases a:c.ι v 0 with
    | none=>rw[a]at h0;simp[iy]at h0
    | some L=>
     rw[a]at h0;simpa only[iy]using h0
 gl g cs hg:=by obtain⟨h1,A⟩:=h.gl g cs hg;exact⟨h1,A.closed (λb n=>Eo n) (by simpa[AL.closed]using h1)⟩
 rt:=h.rt
theorem U5(h:gL G c H w){n:Nat}(g:∀v,v<n->(ks[v]?).map (·.1)=aE v):Step n c H w (c.gA ks H) (sV ks H) w where
 os:=⟨rfl,di _⟩
 tape:=rfl
 output:=rfl
 size:=di _
 RT:=rfl
 Fm b a:=Eo a
 Fn b a:=by
  rcases a with a|⟨v,L,l,_,d,e⟩
  .exact .inl a
  .exact .inr (.inr ⟨v,L,l,d,e⟩)
 kept _ _ _:=rfl
 old v k L d gC:=by have:=g v d;simp only[aq]at this;obtain⟨p,f,e⟩:=this;simp only[Ctx.gA,f,e];exact gC
 own b a:=.inr (abU a)
theorem agU(env:Env)(k:Nat):(Env.get (env.map λx=>(x.1,gA (jc ks) H 40 x.2)) k)=gA (jc ks) H 40 (env.get k):=by
 induction env with
 | nil=>rfl
 | cons p r a=>
  obtain⟨j,d⟩:=p;simp only[dx,Env.yg];split
  .rfl
  .exact a
theorem Xu(h:gL G c H w){env:Env}{a:Act}(b:lO c w env.get a):lO (c.gA ks H) w (Env.get (env.map λx=>(x.1,gA (jc ks) H 40 x.2))) a:=λk=>by rw[agU];exact BI h 40 (b k)
theorem agP(live:List Nat)(env:Env)(k:Nat):(forget live env).get k = .any\/(forget live env).get k=env.get k:=by
 unfold forget
 induction live with
 | nil=>exact .inl rfl
 | cons x r a=>
  simp only[dx,Env.yg];split
  .grind
  .exact a
theorem EK{env:Env}{a:Act}(b:lO c w env.get a)(live:List Nat):lO c w (forget live env).get a:=λk=>by
 rcases agP live env k with h|h<;>rw[h]
 .exact .any _
 .exact b k
theorem Jo{x:Nat}:∀ {l:List Nat},x∈dedup l->x∈l
 | [],h=>h
 | y::r,h=>by
  unfold dedup at h;split at h
  .exact bh _ (Jo h)
  .rcases ay.1 h with rfl|h
   .grind
   .exact bh _ (Jo h)
theorem N5{x:Nat}:∀ {l:List Nat},x∈l->x∈dedup l
 | y::r,h=>by
  unfold dedup;split
  .rename_i a;rcases ay.1 h with rfl|h
   .exact N5 a
   .exact N5 h
  .rcases ay.1 h with rfl|h
   .grind
   .exact bh _ (N5 h)
theorem PS:∀(l:List Nat),(dedup l).Nodup
 | []=>List.nodup_nil
 | y::r=>by
  unfold dedup;split
  .exact PS r
  .rename_i a;exact cW.2 ⟨λh=>a (Jo h),PS r⟩
theorem aav(h:(ks.map (·.1)).Nodup):B1 ks:=by
 intro i j p q f d e;have hi:(ks.map (·.1))[i]? = aE p.1:=by simp[f]
 have a:(ks.map (·.1))[j]? = aE q.1:=by simp[d]
 have b:=(ae.1 hi).1;have c:=(ae.1 a).1;rw[eh b]at hi;rw[eh c]at a;simp only[av]at hi a;exact(List.getElem_inj h).1 (by rw[hi,a,e])
theorem aay{n:Nat}{K:List Nat}(g:∀v∈K,n<=v)(c:K.Nodup):B1 (jC n K):=by apply aav;unfold jC;simp only[List.map_append,b6,fg,en];rw[cZ];refine⟨fo,c,λa f b d e=>?_⟩;subst e;have:=g a d;simp at f;omega
theorem aax{n:Nat}{K:List Nat}(v:Nat)(a:v<n):((jC n K)[v]?).map (·.1)=aE v:=by unfold jC;rw[ah (by simpa using a)];simp[a]
theorem YE{S:List Nat}:B1 (nz H S):=by apply aav;unfold nz;simp only[b6,fg,en];exact fo
theorem YD{S:List Nat}(v:Nat)(a:v<H.l):((nz H S)[v]?).map (·.1)=aE v:=by unfold nz;simp[a]
theorem RU{S:List Nat}:(sV (nz H S) H).l=H.l:=by simp[sV,nz]
end
def NW:Operand->Bool
 | .const (.slice bb 0 0)=>cj
 | _=>b4
def Gj(P:Program)(t:TypeId):Bool:=match P.underlying t with
 | some (.slice _)=>cj
 | _=>b4
def um(P:Program)(G:GT)(o:Oper):Option jh:=
 match o.op with
 | .binOp .eql t x y _=>if Gj P t=cj/\NW y=cj then(cX G x).map (.nilS b4)else bb
 | .binOp .neq t x y _=>if Gj P t=cj/\NW y=cj then(cX G x).map (.nilS cj)else bb
 | .range t x=>match P.underlying t,cX G x with
  | some .string,aE a=>aE (.rangeS a)
  | some (.map _ _),aE a=>aE (.rangeM a)
  | _,_=>bb
 | .next x cj=>(cX G x).map .nextS
 | .next x b4=>(cX G x).map .nextM
 | .entry x=>(cX G x).map .entry
 | .call c=>match c.callee,c.argTypes.toList,c.args.toList with
  | .builtin .cap,[t],[x]=>if Gj P t then(cX G x).map .capE else bb
  | .builtin .clear,[t],[x]=>match P.underlying t with
   | some (.slice e)=>match sZ P e,P.info? e,cX G x with
    | some z,aE i,aE a=>if z.l=i.size/\0<i.size then aE (.clr i.size z a)else bb
    | _,_,_=>bb
   | _=>bb
  | .builtin .append,[t,u],[x,y]=>match P.underlying t,P.underlying u with
   | some (.slice e),aE (.int .i64)=>match sZ P e,P.info? e,cX G x,cX G y with
    | some z,aE i,aE a,aE b=>if z.l=i.size/\0<i.size then aE (.appZ e i.size i.bytes z a b)else bb
    | _,_,_,_=>bb
   | _,_=>bb
  | _,_,_=>bb
 | .mapEntry t m k=>match P.underlying t with
  | some (.map kt e)=>match wC P kt,Gx P e,cX G m,cX G k with
   | some kk,aE z,aE a,aE b=>aE (.mapEnt kk z a b)
   | _,_,_,_=>bb
  | _=>bb
 | .entryStore _ m s x=>match cX G m,cX G s,cX G x with
  | some a,aE b,aE c=>aE (.entSt a b c)
  | _,_,_=>bb
 | _=>bb
def zP(kv:Value):List (Value×D)->Nat->Option (Nat×D)
 | [],_=>bb
 | (k,d)::r,i=>if oY kv k then aE (i,d)else zP kv r (i+1)
def zO(a:KK)(z:D)(m k:D)(H:gg):R:=
 match m,keyOf k with
 | .gM v,aE kv=>match mq H v with
  | some (kk,es)=>if kk=a/\kk.has kv=cj then(match zP kv es 0 with
    | some (j,d)=>aE (.tup [d,.i j],.obj v (.map kk (np es kv d)))
    | none=>aE (.tup [z,.i es.l],.obj v (.map kk (np es kv z))))else bb
  | none=>bb
 | _,_=>bb
def Cn(m s x:D)(H:gg):R:=
 match m,s with
 | .gM v,.val (.int .i64 n)=>match mq H v with
  | some (kk,es)=>match es[n.n]? with
   | some (k,_)=>if 0<=n then aE (.any,.obj v (.map kk (es.set n.n (k,x))))else bb
   | none=>bb
  | none=>bb
 | _,_=>bb
def PR(neg:Bool):D->Option D
 | .gp=>aE (.b !neg)
 | .sl _ (_::_)=>aE (.b neg)
 | .gh _ _ _ _ (_+1)=>aE (.b neg)
 | _=>bb
def Ny(t sz bytes:Nat)(z:List D)(x n:D)(a:Nat):R:=
 match x,n with
 | .gp,.val (.int .i64 m)=>if 0<m/\sM (m*bytes) 140737488355328/\sM m 9223372036854775807 then aE (.gh a 0 sz 0 m.n,.new (.row t 0 (bs m.n z).flatten))else bb
 | _,_=>bb
def HC(sz:Nat)(z:List D)(x:D)(H:gg):R:=
 match x with
 | .gp=>aE (.any,.no)
 | .gh v g a off len=>match rowAt H v g with
  | some (t,cs)=>if a=sz/\(off+len)*sz<=cs.l then aE (.any,.obj v (.row t g (cs.take (off*sz)++(bs len z).flatten++cs.drop ((off+len)*sz))))else bb
  | none=>bb
 | _=>bb
def Up(x:D)(H:gg):R:=
 match x with
 | .ptr v 0 0=>match H[v]? with
  | some (.ua s p)=>if p<s.size then aE (.tup [.b cj,.i p,.val (.int .i32 (Utf8.decode s p).1)],.obj v (.ua s (p+(Utf8.decode s p).2)))else aE (.tup [.b b4],.no)
  | _=>bb
 | _=>bb
def JF(x:D)(H:gg)(a:Nat):R:=
 match x with
 | .gM m=>match mq H m with
  | some (_,es)=>aE (.ptr a 0 0,.new (.jG (.gM m) es.l []))
  | none=>bb
 | _=>bb
def Oa(x:D)(H:gg):Option D:=
 match x with
 | .ptr v 0 0=>match H[v]? with
  | some (.jG (.gM m) since seen)=>match mq H m,seen.getLast? with
   | some (_,es),aE i=>match es[i]? with
    | some (k,d)=>if es.l=since then aE (.tup [tW k,d])else bb
    | none=>bb
   | _,_=>bb
  | _=>bb
 | _=>bb
def nv(env:il)(H:gg)(n:Nat):jh->R
 | .nilS neg x=>lift (PR neg (ev env x))
 | .capE x=>match ev env x with
  | .gp=>aE (.i 0,.no)
  | _=>bb
 | .appZ t sz bytes z x m=>Ny t sz bytes z (ev env x) (ev env m) n
 | .clr sz z x=>HC sz z (ev env x) H
 | .rangeS x=>match ev env x with
  | .val (.string s)=>aE (.ptr n 0 0,.new (.ua s 0))
  | _=>bb
 | .nextS x=>Up (ev env x) H
 | .rangeM x=>JF (ev env x) H n
 | .entry x=>lift (Oa (ev env x) H)
 | .mapEnt kk z m k=>zO kk z (ev env m) (ev env k) H
 | .entSt m s x=>Cn (ev env m) (ev env s) (ev env x) H
 | _=>bb
def Qw:jh->Bool
 | .nilS .. | .capE .. | .appZ .. | .clr .. | .rangeS .. | .nextS .. | .rangeM .. | .nextM .. | .entry .. | .mapEnt .. | .entSt .. => cj
 | _=>b4
def apX{op:jh}(h:Qw op=cj)(f:il)(H:gg)(n:Nat):ie f H n op=none:=by cases op<;>first|(cases h;done)|rfl
def apY{op:jh}(h:Qw op=cj)(f:il):lB f op=none:=by cases op<;>first|(cases h;done)|rfl
def Rk{P:Program}{G:GT}{o:Oper}{a:jh}(h:um P G o=aE a):Qw a=true:=by
 unfold um at h
 repeat' split at h
 all_goals first|(cases h;done)|(simp only[aq]at h;obtain⟨_,_,rfl⟩:=h;rfl)|(cases h;rfl)
section
variable{P:Program}{G:GT}{c:Ctx}{H:gg}{w:World}{env:il}{a:Act}
abbrev KO(H:gg)(al:Al)(d:D)(δ:Dl):kd:=λd' H'=>d'=d/\H'=δ.app H al
theorem PN(h:gL G c H w){al:Al}(e:oD H al)(o:Obj)(ob:Ob)(hg:ob.gen=0)(i:ob.alive=cj)
  (f:(∀u d,gq c w u d->gq (c.set al.1 0 ⟨w.heap.size,0,0,b4⟩) (w.alloc o) u d)->(w.alloc o).heap[w.heap.size]? = aE o->iy (c.set al.1 0 ⟨w.heap.size,0,0,b4⟩) (w.alloc o) (aE ⟨w.heap.size,0,0,b4⟩) ob) :
  gL G (c.set al.1 0 ⟨w.heap.size,0,0,b4⟩) (al.2 ob) (w.alloc o)/\gq (c.set al.1 0 ⟨w.heap.size,0,0,b4⟩) (w.alloc o) (.pointer (aE ⟨w.heap.size,0,bb⟩)) (.ptr al.1 0 0) /\
   Step H.l c H w (c.set al.1 0 ⟨w.heap.size,0,0,b4⟩) (al.2 ob) (w.alloc o):=by
 have b:(⟨w.heap.size,0,0,b4⟩:Loc).ko=b4->w.heap.size<=(⟨w.heap.size,0,0,b4⟩:Loc).b/\(⟨w.heap.size,0,0,b4⟩:Loc).b<(w.alloc o).heap.size:=λ_=>⟨di _,gf⟩;have a:=(e ob).vK;have hs:=QE h a (kN.alloc w o) ⟨w.heap.size,0,0,b4⟩ b;rw[hg]at hs;have h1:=Vg h a (kN.alloc w o) ⟨w.heap.size,0,0,b4⟩ b i (by rw[hg];exact f (λu d g=>g.rG h.toHeapOK hs) (heap_alloc_new w o));rw[hg]at h1;exact⟨h1,.ptr (c:=c.set al.1 0 ⟨w.heap.size,0,0,b4⟩) al.1 0 0 ⟨w.heap.size,0,0,b4⟩ (Ctx.tZ _ _ _ _) rfl,hs⟩
theorem abI(h:gL G c H w){t:TypeId}(f:Gj P t=cj){neg:Bool}{x d:D}{u:Value}(i:gq c w u x)(a:PR neg x=aE d)(xo k:Operand) :
  ∃r,(do eqGuard (if neg then .neq else .eql) t xo k u (.slice bb 0 0);binOp (if neg then .neq else .eql) t u (.slice bb 0 0)).run P w = .ok r w/\gq c w r d:=by
 have v:∃e,P.underlying t=aE (.slice e):=by
  unfold Gj at f;split at f
  .exact⟨_,jX⟩
  .cases f
 obtain⟨e,s⟩:=v
 have j:∀(n:Nat) (ad:Option Addr) (len cap:Nat),(Op.equalIn (n+1) t (.slice ad len cap) (.slice bb 0 0)).run P w = .ok ad.isNone w:=by intro n ad len cap;cases ad<;>simp[Op.equalIn,run_underlying s]
 have p:∀ad len cap,Op.equal t (.slice ad len cap) (.slice bb 0 0)=Op.equalIn (9999+1) t (.slice ad len cap) (.slice bb 0 0):=λ_ _ _=>rfl
 have key:∀(ad:Option Addr) (len cap:Nat),u = .slice ad len cap->(do eqGuard (if neg then .neq else .eql) t xo k u (.slice bb 0 0);binOp (if neg then .neq else .eql) t u (.slice bb 0 0)).run P w = .ok (.bool (if neg then !ad.isNone else ad.isNone)) w:=by rintro ad len cap rfl;have h1:=j 9999 ad len cap;cases neg<;>simp only[eqGuard,binOp,p,bG,if_false,if_true,Sem.run_bind,Bool.not_true,Sem.run_pure,Result.andThen_ok,h1]
 unfold PR at a;split at a
 .cases a;cases i;exact⟨_,key bb 0 0 rfl,by cases neg<;>exact .val _⟩
 .cases a
  cases i with
  | sl ad len cap sz es g b m o z l B E=>
   have:ad≠none:=λe=>by have:=l e;simp at b;omega
   obtain⟨q,rfl⟩:=Option.ne_none_iff_exists'.1 this;exact⟨_,key _ _ _ rfl,by cases neg<;>exact .val _⟩
 .cases a
  cases i with
  | gh _ _ _ _ _ cap L C A m o y=>exact⟨_,key _ _ _ rfl,by cases neg<;>exact .val _⟩
 .cases a
theorem anI(h:gL G c H w){v g o:Nat}{a:TypeId}{cs xs:List D}(l:H[v]? = aE (.row a g cs)){L:Loc}(p:c.ι v g=aE L)(j:L.ko=b4){vs:List Value}(f:Cells c w vs xs)
  (C:o+xs.l<=cs.l):∃w',(storeCells ⟨L.b,L.base+o,bb⟩ vs).run P w = .ok () w'/\gL G c (H.set v (.row a g (cs.take o++xs++cs.drop (o+xs.l)))) w'/\Step H.l c H w c (H.set v (.row a g (cs.take o++xs++cs.drop (o+xs.l)))) w':=by
 obtain⟨arr,h1,x,E,u⟩:=zW h l p j;have q:vs.l=xs.l:=f.len;have n:=run_storeCells_at P L.b (L.base+o) a vs 0 arr w h1 gO f.one;simp only[cJ]at n
 have k:=Gw h l p j h1 (arr.toList.take (L.base+o)++vs++arr.toList.drop (L.base+o+vs.l)).toArray
  gO x (cs.take o++xs++cs.drop (o+xs.l)) gO (λi d m=>by
   have A:=u.ub f o;obtain⟨y,r,t,s⟩:=A.get m;refine⟨y,?_,t,s⟩;rw[<-r];simp only[dC];have b:(ek (L.base+o) arr.toList).l=L.base+o:=gO;have e:(ek o (ek cs.l (List.drop L.base arr.toList))).l=o:=gO
   by_cases z:i<o
   .rw[ah gO,ah (by rw[b];omega),ah gO,ah (by rw[e];omega)];simp only[aJ,aM];rw[if_pos U,if_pos z,if_pos U]
   .by_cases c2:i<o+xs.l
    .rw[ah gO,ak (by rw[b];omega),ah gO,ak (by rw[e];omega),b,e];congr 1;omega
    .have B:i<cs.l:=by have:=(ae.1 m).1;simp at this;omega
     rw[ak gO,ak gO];simp only[aM,aJ,ar,b,e,q];rw[if_pos U];congr 1
     omega)
 exact⟨_,n,k.1,k.2⟩
theorem anJ(h:gL G c H w){al:Al}{t e ty:TypeId}{i:TypeInfo}{z:List D}(l:P.underlying t=aE (.slice e))(hi:P.info? e=aE i)(M:sZ P e=aE z)(A:z.l=i.size)(V:0<i.size)
  {x d:D} {δ:Dl} {u:Value} (r:gq c w u x) (a:HC i.size z x H=aE (d,δ)):∃w',(Builtin.clear_ #[t] ty #[u]).run P w = .ok (.tuple #[]) w'/\jJ G c H w (KO H al d δ) (.tuple #[]) w':=by
 unfold HC at a;split at a
 .cases a;cases r;exact⟨w,by simp[Builtin.clear_,run_underlying l],_,_,c,⟨rfl,rfl⟩,h,.any _,Step.refl _ _ _ _⟩
 .rename_i v g W off len;split at a
  .rename_i f cs J;split at a
   .rename_i I;obtain⟨rfl,E⟩:=I;cases a;have k:=vF J;dsimp only at k;obtain⟨b,B,X,p⟩:=BP M w;have Q:b.cells.size=i.size:=by have:=(p c w).len;simp at this;omega
    have n:(Dl.obj v (.row f g (cs.take (off*i.size)++(bs len z).flatten++cs.drop ((off+len)*i.size)))).app H al=H.set v (.row f g (cs.take (off*i.size)++(bs len z).flatten++cs.drop ((off+len)*i.size))):=rfl;have q:(bs len z).flatten.l=len*i.size:=by simp[A]
    have m:(.row f g (cs.take (off*i.size)++(bs 0 z).flatten++cs.drop ((off+0)*i.size)))=Ob.row f g cs:=gf
    have j:H.set v (.row f g cs)=H:=by have N:=(ae.1 k).1;have F:=(ae.1 k).2;rw[<-F];exact eJ N
    cases r with
    | gh _ _ _ _ _ cap L y K S T R=>
     by_cases s:len=0
     .subst s;refine⟨w,by simp[Builtin.clear_,run_underlying l],_,_,c,⟨rfl,rfl⟩,?_,.any _,?_⟩
      .rw[n,m,j];exact h
      .rw[n,m,j];exact Step.refl _ _ _ _
     .have C:Cells c w (Builtin.zeroCells b.cells len).toList (bs len z).flatten:=by
       have h1:(Builtin.zeroCells b.cells len).toList=(bs len b.cells.toList).flatten:=by unfold Builtin.zeroCells;exact P8 b.cells len U
       rw[h1];exact Ou _ _ p len
      obtain⟨w',k1,k2,k3⟩:=anI (P:=P) (o:=off*i.size) h k y K C (by rw[q,<-bt];exact E);rw[q,<-bt]at k2 k3;refine⟨w',?_,_,_,c,⟨rfl,rfl⟩,k2,.any _,k3⟩;obtain⟨O,rfl⟩:=Nat.exists_eq_succ_of_ne_zero s;simp[Builtin.clear_,run_underlying l,B,k1]
    | nq _ _ _ _ L y ad=>
     refine⟨w,by cases ad<;>simp[Builtin.clear_,run_underlying l],_,_,c,⟨rfl,rfl⟩,?_,.any _,?_⟩
     .rw[n,m,j];exact h
     .rw[n,m,j];exact Step.refl _ _ _ _
   .cases a
  .cases a
 .cases a
theorem anB(h:gL G c H w){al:Al}(R:oD H al){t u ty e:TypeId}{i:TypeInfo}{z:List D}(V:P.underlying t=aE (.slice e))(T:P.underlying u=aE (.int .i64))(hi:P.info? e=aE i)(S:sZ P e=aE z)(zH:z.l=i.size)(N:0<i.size)
  {x y d:D} {δ:Dl} {B A:Value} (h1:gq c w B x) (X:gq c w A y) (b:Ny e i.size i.bytes z x y al.1=aE (d,δ)) :
  ∃r w',(Builtin.append_ #[t,u] ty #[B,A]).run P w = .ok r w'/\jJ G c H w (KO H al d δ) r w':=by
 unfold Ny at b;split at b
 .rename_i m;split at b
  .rename_i O;cases b;cases h1;cases X;obtain⟨a,xB,Pq,v⟩:=BP S w;have FM:i.zero=aE a:=by simpa[hi]using Pq
   have F:a.cells.size=i.size:=by have:=(v c w).len;simp at this;omega
   obtain⟨n,rfl⟩:∃n:Nat,m=n:=⟨m.n,U⟩;obtain⟨oL,f,AW⟩:=O;simp only[sM]at f AW;have E:0<n:=U
   have o:n*i.bytes<=140737488355328:=by
    have h1:((n*i.bytes:Nat):Int)<=140737488355328:=by rw[Int.natCast_mul];exact f
    omega
   have YV:n<=9223372036854775807:=U;have I:=grownCap_ge w n 0 e;have K:=grownCap_le_maxLen w n 0 e (by unfold maxLen;omega);have wn:IntKind.i64.wrap (n:Int)=n:=wrap_i64 (by unfold pj;omega)
   have Q:(Builtin.append_ #[t,u] ty #[.slice bb 0 0,.int .i64 n]).run P w = .ok (.slice (aE ⟨w.heap.size,0,bb⟩) n (grownCap w n 0 e))
     (w.drew.alloc (.cells (Builtin.zeroCells a.cells n++Builtin.zeroCells a.cells (grownCap w n 0 e-n)) e)):=by
    have j:¬(n=0):=U;have p:∀w:World,(asInt (.int .i64 (n:Int))).run P w = .ok (n:Int) w:=λw=>by simp[asInt,asIntOf]
    have k:¬((n:Int)<=0):=U;have M:max (n:Int) 0=n:=U;have W:(n:Int).n=n:=U;have g:¬(i.size=0):=U;have q:¬((n:Int)<0):=U;have l:¬(281474976710656<(n:Int)*(i.bytes:Int)):=by have:(n:Int)*(i.bytes:Int)<=140737488355328:=f;omega
    have Sf:¬(281474976710656<Builtin.nextslicecap n 0*i.bytes):=by have:=growslice_fits (old:=0) E o;omega
    have s:¬(9223372036854775807<(n:Int)):=U;simp[Builtin.append_,run_underlying V,run_underlying T,sizeOf,typeInfo,zeroValue,hi,FM,p,wn,q,l,j,g,Sf,s,k,M,Question.forced,newRow,grownCap,run_firstCells_none];intro h0;exact absurd h0 (Nat.ne_of_gt (Nat.mul_pos E N))
   refine⟨_,_,Q,?_⟩
   have J:Cells c w (Builtin.zeroCells a.cells n).toList (bs n z).flatten:=by
    have h1:(Builtin.zeroCells a.cells n).toList=(bs n a.cells.toList).flatten:=by unfold Builtin.zeroCells;exact P8 a.cells n U
    rw[h1];exact Ou _ _ v n
   have g:(Builtin.zeroCells a.cells n++Builtin.zeroCells a.cells (grownCap w n 0 e-n)).size=grownCap w n 0 e*i.size:=by simp only[cK,size_zeroCells,F,<-bt];congr 1;omega
   obtain⟨L,e1,e2,e3,e4,Z,Y⟩:=FY h w.drew (kN.drew w) e _ (bs n z).flatten (Builtin.zeroCells a.cells n).size (Builtin.zeroCells a.cells n++Builtin.zeroCells a.cells (grownCap w n 0 e-n)) (R _).vK J (by
    simp only[dw]
    exact List.take_left' gf) (by simp only[cK];omega)
   have C:=Jx (c:=c) (w:=w.drew.alloc (.cells (Builtin.zeroCells a.cells n++Builtin.zeroCells a.cells (grownCap w n 0 e-n)) e)) e1 e3 al.1 0 i.size n (grownCap w n 0 e) (by rw[e4,g]) I K;rw[e2]at C;exact⟨_,_,_,⟨rfl,rfl⟩,Z,C,Y⟩
  .cases b
 .cases b
theorem an2(h:gL G c H w){al:Al}{x d:D}{δ:Dl}{u:Value}{ty:TypeId}(o:gq c w u x)(f:Up x H=aE (d,δ)):∃r w',(Instr.next u cj ty).run P w = .ok r w'/\jJ G c H w (KO H al d δ) r w':=by
 unfold Up at f;split at f
 .rename_i v;split at f
  .rename_i s p a
   cases o with
   | ptr _ _ _ L m l=>
    have g:=h.ob v _ a;simp only[Ob.gen]at g;rw[m]at g;simp only[iy]at g;obtain⟨_,k,e⟩:=g;have q:=(aU.1 e).1;rw[k]
    by_cases j:p<s.size
    .rw[if_pos j]at f;cases f
     obtain⟨m1,m2⟩:=BW h a rfl rfl (ob':=.ua s (p+(Utf8.decode s p).2)) rfl m l (.stringIter s (p+(Utf8.decode s p).2)) (λw' n _=>by simp only[iy];exact⟨l,k,n⟩)
     refine⟨.tuple #[.bool cj,goInt p,.int .i32 (Utf8.decode s p).1],_,?_,_,_,c,⟨rfl,rfl⟩,m1,?_,m2⟩
     .simp[Instr.next,getObj,setObj,Sem.run,e,j]
     .refine .tup [.bool cj,goInt p,.int .i32 (Utf8.decode s p).1] _ rfl λi v d a b=>?_
      match i,a,b with
      | 0,a,b=>cases a;cases b;exact .val _
      | 1,a,b=>cases a;cases b;exact .val _
      | 2,a,b=>cases a;cases b;exact .val _
    .rw[if_neg j]at f;cases f;refine⟨.tuple #[.bool b4],w,?_,_,_,c,⟨rfl,rfl⟩,h,?_,Step.refl _ _ _ _⟩
     .simp[Instr.next,getObj,Sem.run,e,j]
     .refine .tup [.bool b4] _ rfl λi v d a b=>?_
      match i,a,b with
      | 0,a,b=>cases a;cases b;exact .val _
  .cases f
 .cases f
theorem anN(h:gL G c H w){x d:D}{u:Value}(I:gq c w u x)(a:Oa x H=aE d):∃r,(Instr.entry u).run P w = .ok r w/\gq c w r d:=by
 unfold Oa at a;split at a
 .rename_i v;split at a
  .rename_i m since seen b;split at a
   .rename_i kk es i J S;split at a
    .rename_i k d0 t;split at a
     .rename_i g;cases a;have A:=vu J;dsimp only at A
      cases I with
      | ptr _ _ _ L M T=>
       have p:=h.ob v _ b;simp only[Ob.gen]at p;rw[M]at p;simp only[iy]at p;obtain⟨_,E,V,B,n⟩:=p
       cases B with
       | gM _ X R W=>
        have o:=h.ob m _ A;simp only[Ob.gen]at o;rw[R]at o;simp only[iy]at o;obtain⟨_,C,arr,f,O,z,y,Q⟩:=o;have hi:i<arr.size:=by rw[z];exact(ae.1 t).1
        have N:arr[i]? = aE arr[i]:=by simp[hi]
        obtain⟨q1,q2,q3⟩:=y i _ _ N t;have s:seen.toArray.back? = aE i:=by simpa[Array.back?_eq_getElem?,List.getLast?_eq_getElem?]using S
        have q:arr.find? (λe=>e.born == i)=aE arr[i]:=by
         rw[Array.find?_eq_some_iff_getElem];refine⟨by simp[q3],i,hi,rfl,λj U=>?_⟩;have F:j<es.l:=by rw[<-z];omega
         have:=(y j arr[j] es[j] gf (by simp[F])).2.2;simp[this]
         try omega
        refine⟨.tuple #[k,arr[i].val],?_,?_⟩
        .rw[E];have K:f=since:=by rw[Q,g]
         subst K;simp only[aV];simp only[Instr.entry,getObj,Sem.run_bind,Sem.run,n,Result.andThen_ok,s,O,q];simp[q1]
        .refine .tup [k,arr[i].val] _ rfl λj v d b l=>?_
         match j,b,l with
         | 0,b,l=>cases b;cases l;exact acb (C _ (cp t))
         | 1,b,l=>cases b;cases l;exact q2
     .cases a
    .cases a
   .cases a
  .cases a
 .cases a
theorem an5(h:gL G c H w){al:Al}(n:oD H al){t:TypeId}{k e:TypeId}(o:P.underlying t=aE (.map k e)){x d:D}{δ:Dl}{u:Value}(p:gq c w u x)(b:JF x H al.1=aE (d,δ)) :
  ∃r w',(Instr.range t u).run P w = .ok r w'/\jJ G c H w (KO H al d δ) r w':=by
 unfold JF at b;split at b
 .rename_i m;split at b
  .rename_i kk es q;cases b;have j:=vu q;dsimp only at j
   cases p with
   | gM _ g i v=>
    have f:=h.ob m _ j;simp only[Ob.gen]at f;rw[i]at f;simp only[iy]at f;obtain⟨_,_,arr,a,y,B,A,z⟩:=f
    obtain⟨k1,k2,k3⟩:=PN h n (.mapIter (aE g.b) a #[] a) (.jG (.gM m) es.l []) rfl rfl (λl s=>by
     simp only[iy];refine⟨trivial,trivial,g.b,l _ _ (.gM m g i v),?_⟩
     rw[<-z];exact s)
    exact⟨_,_,run_range_map w t k e g.b arr a o y,_,_,_,⟨rfl,rfl⟩,k1,k2,k3⟩
  .cases b
 .cases b
theorem Yk{kv:Value}:∀ {l:List MapEntry} {i n:Nat} {v:Value},o8 kv l i=aE (n,v)->i<=n
 | [],_,_,_,h=>by cases h
 | a::l,i,n,v,h=>by
  unfold o8 at h;split at h
  .cases h;exact di _
  .have:=Yk h;omega
theorem Yl{kv:Value}:∀ {l:List MapEntry} {i j:Nat} {v:Value} {e:MapEntry},o8 kv l i=aE (i+j,v)->l[j]? = aE e->e.val=v
 | [],_,_,_,_,h,_=>by cases h
 | a::l,i,j,v,e,h,he=>by
  unfold o8 at h;split at h
  .simp only[av,dM]at h;obtain⟨h1,rfl⟩:=h;have:j=0:=U;subst this;cases he;rfl
  .cases j with
   | zero=>exact absurd (Yk h) U
   | succ j=>exact Yl (i:=i+1) (j:=j) (by rw[h];congr 2;omega) he
theorem aa9(kv:Value):∀(l:List MapEntry) (es:List (Value×D)) (i:Nat),l.l=es.l ->
  (∀(j:Nat) (e:MapEntry) (x:Value×D),l[j]? = aE e->es[j]? = aE x->e.key=x.1/\gq c w e.val x.2) ->
  (o8 kv l i=bb/\zP kv es i=bb)\/∃j v d,o8 kv l i=aE (i+j,v)/\zP kv es i=aE (i+j,d)/\gq c w v d
 | [],[],i,_,_=>.inl ⟨rfl,rfl⟩
 | e::l,(k,d)::es,i,hl,h=>by
  obtain⟨b,m⟩:=h 0 e (k,d) rfl rfl;dsimp only at b m
  by_cases a:oY kv e.key=cj
  .exact .inr ⟨0,e.val,d,by simp[o8,a],by simp[zP,<-b,a],m⟩
  .have g:oY kv k=false:=by rw[<-b];simpa using a
   rcases aa9 kv l es (i+1) (by simpa using hl) (λj e x a n=>h (j+1) e x (by simpa using a) (by simpa using n))with⟨h1,f⟩|⟨j,v,d',h1,f,o⟩
   .exact .inl ⟨by simp[o8,a,h1],by simp[zP,g,f]⟩
   .exact .inr ⟨j+1,v,d',by simp[o8,a,h1];omega,by simp[zP,g,f];omega,o⟩
theorem anY(h:gL G c H w){al:Al}{t k e:TypeId}{kk:KK}{z:D}(hu:P.underlying t=aE (.map k e))(X:wC P k=aE kk)(F:Gx P e=aE z){m x d:D}{δ:Dl}{u v:Value}(h1:gq c w u m)(h2:gq c w v x)
  (y:zO kk z m x H=aE (d,δ)):∃r w',(Instr.mapEntry t u v).run P w = .ok r w'/\jJ G c H w (KO H al d δ) r w':=by
 have Tf:(kk = .str\/kk = .bool\/∃k,kk = .int k)\/∃l,kk = .ints l:=by
  obtain⟨d,_,hc⟩:=QL X;rcases hc with⟨k,_,rfl⟩|⟨_,rfl⟩|⟨_,rfl⟩|⟨_,l,_,rfl,_⟩
  .exact .inl (.inr (.inr ⟨k,rfl⟩))
  .exact .inl (.inl rfl)
  .exact .inl (.inr (.inl rfl))
  .exact .inr ⟨l,rfl⟩
 obtain⟨C,xB,I5⟩:∃C,(zeroValue e).run P w = .ok C w/\gq c w C z:=by
  unfold Gx at F
  cases hi:P.info? e with
  | none=>simp[hi]at F
  | some i=>
   simp only[hi,dr]at F
   cases Dj:i.zero with
   | none=>simp[Dj]at F
   | some C=>
    simp only[Dj,dr]at F;exact⟨C,by simp[zeroValue,run_typeInfo hi,Dj],UL F⟩
 unfold zO at y;split at y
 .rename_i v0 kv IF;split at y
  .rename_i K es Y;split at y
   .rename_i jR;obtain⟨rfl,J⟩:=jR;have o:=TR h2 IF;subst o
    cases h1 with
    | gM _ L gC M=>
     have N:=h.ob v0 _ (vu Y);simp only[Ob.gen]at N;rw[gC]at N;simp only[iy]at N;obtain⟨_,vc,arr,f,hm,g⟩:=N;have Iv:=Uc g vc;have CZ:=run_findKey X J arr.toList Iv w;have tM:=run_checkKey (w:=w) X b4 J;have sI:(getObj L.b).run P w = .ok (.map arr f) w:=by simp[getObj,Sem.run,hm]
     have ID:∀y',∀x∈np es v y',K.has x.1=true:=λy' x n=>by
      rcases abb x n with h|rfl
      .exact vc x h
      .exact J
     have W:∀(j:Nat) (e:MapEntry) (x:Value×D),arr.toList[j]? = aE e->es[j]? = aE x->e.key=x.1/\gq c w e.val x.2:=λj e x s n=>let ⟨a,b,_⟩:=g.2.1 j e x (by simpa using s) n;⟨a,b⟩
     have A:arr.toList.l=es.l:=by simpa using g.1
     rcases aa9 (c:=c) (w:=w) v arr.toList es 0 A W with⟨O,g2⟩|⟨j0,Q,d0,O,g2,g3⟩
     .rw[g2]at y;cases y;rcases H6 (c:=c) (w:=w) v arr.toList es 0 A W with⟨f1,f2,f3⟩|⟨j,val,d,f1,f2,_⟩
      .have Z:(Instr.mapEntry t (.map (aE L.b)) v).run P w = .ok (.tuple #[C,goInt f]) { w with heap:=w.heap.setIfInBounds L.b (.map (arr.push { key:=v,val:=C,born:=f }) (f+1)) }:=by simp only[Instr.mapEntry,Sem.run_bind,run_underlying hu,Result.andThen_ok,sI,tM,CZ,f1,xB];simp[setObj,Sem.run,hm]
       obtain⟨m1,m2⟩:=BW h (vu Y) rfl rfl rfl gC M (.map (arr.push { key:=v,val:=C,born:=f }) (f+1)) (ob':=.map K (np es v z)) (by
        intro w' V I;simp only[iy];refine⟨M,ID z,_,_,V,?_⟩;rw[f3];refine⟨by simp[g.1],λi e x s n=>?_,by simp[g.2.2]⟩;rw[eQ]at s;split at s
        .rename_i hi;cases s;rw[ak (by rw[hi,g.1];exact di _),hi,g.1]at n;simp at n;subst n;exact⟨rfl,I _ _ I5,by rw[hi,g.1,g.2.2]⟩
        .have hi:i<es.l:=by rw[<-g.1];exact(aU.1 s).1
         rw[ah hi]at n;obtain⟨p,q,r⟩:=g.2.1 i e x s n
         exact⟨p,I _ _ q,r⟩)
       refine⟨_,_,Z,_,_,c,⟨rfl,rfl⟩,m1,.tup [C,goInt f] _ rfl (λi v d o B=>?_),m2⟩
       match i,o,B with
       | 0,o,B=>cases o;cases B;exact I5.rG h.toHeapOK m2
       | 1,o,B=>cases o;cases B;rw[g.2.2];exact .val _
      .rw[O]at f1;cases f1
     .rw[g2]at y;cases y;rcases H6 (c:=c) (w:=w) v arr.toList es 0 A W with⟨f1,f2,f3⟩|⟨j,val,d,f1,f2,_,f4,f5,E,f6,f7⟩
      .rw[O]at f1;cases f1
      .have R:0+j0=0+j/\Q=val:=by rw[O]at f1;simp only[av,dM]at f1;exact f1
       obtain⟨R,rfl⟩:=R;have R:j0=j:=U;subst R;have oK:j0<arr.size:=by simpa using f4
       have T:arr[j0]? = aE E:=by simpa using f6
       have SV:K.has E.key=true:=Iv E (cp f6)
       have Tq:(Instr.keyThatStays E.key v).run P w = .ok v w:=by simp[Instr.keyThatStays,acy Tf J SV f7]
       have ZG:j0<es.l:=by rw[<-g.1];exact oK
       have S:E.val=Q/\E.born=j0:=by refine⟨?_,(g.2.1 j0 E es[j0] T (by simp[ZG])).2.2⟩;exact Yl (kv:=v) (i:=0) f1 f6
       have Z:(Instr.mapEntry t (.map (aE L.b)) v).run P w = .ok (.tuple #[Q,goInt (j0:Nat)]) { w with heap:=w.heap.setIfInBounds L.b (.map (arr.modify j0 λe=>{ e with key:=v }) f) }:=by simp only[Instr.mapEntry,Sem.run_bind,run_underlying hu,Result.andThen_ok,sI,tM,CZ,f1,aV,T,aK,a7,Tq,S.2];simp[setObj,Sem.run,hm]
       obtain⟨m1,m2⟩:=BW h (vu Y) rfl rfl rfl gC M (.map (arr.modify j0 λe=>{ e with key:=v }) f) (ob':=.map K (np es v d0)) (by
        intro w' V I;simp only[iy];refine⟨M,ID d0,_,_,V,?_⟩;rw[f5];refine⟨by simp[g.1],λi e x s n=>?_,by simp[g.2.2]⟩;rw[bk]at s;rw[bX]at n;split at s
        .rename_i hi;subst hi;rw[if_pos rfl,if_pos ZG]at n;simp only[aq]at s;obtain⟨e0,h0,rfl⟩:=s;cases n;rw[T]at h0;cases h0;exact⟨rfl,I _ _ (by rw[S.1];exact g3),S.2⟩
        .rename_i hi;rw[if_neg hi]at n;obtain⟨p,q,r⟩:=g.2.1 i e x s n
         exact⟨p,I _ _ q,r⟩)
       refine⟨_,_,Z,_,_,c,⟨rfl,rfl⟩,m1,.tup [Q,goInt (j0:Nat)] _ rfl (λi v d o B=>?_),m2⟩
       match i,o,B with
       | 0,o,B=>cases o;cases B;exact g3.rG h.toHeapOK m2
       | 1,o,B=>cases o;cases B;rw[aV];exact .val _
   .cases y
  .cases y
 .cases y
theorem anM(h:gL G c H w){al:Al}{t:TypeId}{m s x d:D}{δ:Dl}{u v k:Value}(h1:gq c w u m)(U:gq c w v s)(T:gq c w k x)
  (b:Cn m s x H=aE (d,δ)):∃w',(Instr.entryStore t u v k).run P w = .ok () w'/\jJ G c H w (KO H al d δ) undef w':=by
 unfold Cn at b;split at b
 .rename_i v0 n;split at b
  .rename_i kk es E;split at b
   .rename_i C W hg;split at b
    .rename_i S;cases b;cases U
     cases h1 with
     | gM _ L K F=>
      have o:=h.ob v0 _ (vu E);simp only[Ob.gen]at o;rw[K]at o;simp only[iy]at o;obtain⟨_,B,arr,a,J,g⟩:=o;have z:n.n<es.l:=(ae.1 hg).1;have M:n.n<arr.size:=by rw[g.1];exact z
      have A:arr.findIdx? (λe=>(e.born:Int) == n)=aE n.n:=by
       rw[Array.findIdx?_eq_some_iff_getElem];refine⟨M,?_,λj Y=>?_⟩
       .have:=(g.2.1 n.n arr[n.n] es[n.n] (by simp[M]) (by simp[z])).2.2;rw[this];have e:((n.n:Nat):Int)=n:=cA S;rw[e];simp
       .have Q:j<es.l:=by omega
        have:=(g.2.1 j arr[j] es[j] gf (by simp[Q])).2.2;rw[this];simp;omega
      have O:(getObj L.b).run P w = .ok (.map arr a) w:=by simp[getObj,Sem.run,J]
      have X:(asInt (.int .i64 n)).run P w = .ok n w:=by simp[asInt,asIntOf]
      have R:(Instr.entryStore t (.map (aE L.b)) (.int .i64 n) k).run P w = .ok () { w with heap:=w.heap.setIfInBounds L.b (.map (arr.modify n.n λe=>{ e with val:=k }) a) }:=by simp only[Instr.entryStore,Sem.run_bind,Result.andThen_ok,O,X,A];simp[setObj,Sem.run,J]
      obtain⟨m1,m2⟩:=BW h (vu E) rfl rfl rfl K F (.map (arr.modify n.n λe=>{ e with val:=k }) a) (ob':=.map kk (es.set n.n (C,x))) (by
       intro w' N I;simp only[iy];refine⟨F,λy f=>?_,_,_,N,?_⟩
       .rcases dT f with f|rfl
        .exact B y f
        .exact B (C,W) (cp hg)
       refine⟨by simp[g.1],λi e y l f=>?_,by simp[g.2.2]⟩;rw[bk]at l;rw[bX]at f;split at l
       .rename_i hi;subst hi;rw[if_pos rfl,if_pos z]at f;cases f;simp only[aq]at l;obtain⟨V,h0,rfl⟩:=l;obtain⟨p,q,r⟩:=g.2.1 _ V _ h0 hg;exact⟨p,I _ _ T,r⟩
       .rename_i hi;rw[if_neg hi]at f;obtain⟨p,q,r⟩:=g.2.1 i e y l f
        exact⟨p,I _ _ q,r⟩)
      exact⟨_,R,_,_,c,⟨rfl,rfl⟩,m1,.any _,m2⟩
    .cases b
   .cases b
  .cases b
 .cases b
theorem apL(h:gL G c H w)(l:lO c w env a){al:Al}(L:oD H al){o:Oper}{R:jh}(b:um P G o=aE R){d:D}{δ:Dl}(g:nv env H al.1 R=aE (d,δ)) :
  ∃v w',Et ((execOp a.eval o).run P w) v w'/\jJ G c H w (KO H al d δ) v w':=by
 have plain:∀ {v:Value} {d:D},gq c w v d->jJ G c H w (KO H al d .no) v w:=λq=>⟨_,_,c,⟨rfl,rfl⟩,h,q,Step.refl _ _ _ _⟩;unfold um at b;split at b
 .rename_i t x y ty f;split at b
  .rename_i n;simp only[aq]at b;obtain⟨X,hX,rfl⟩:=b
   have M:y = .const (.slice bb 0 0):=by
    have:=n.2;unfold NW at this;split at this
    .rfl
    .cases this
   subst M;obtain⟨C,rfl⟩:=nk g;obtain⟨r,h1,j⟩:=abI h n.1 (jj h l hX) C x (.const (.slice bb 0 0));exact⟨r,w,by simp only[execOp,f];exact kh h1,plain j⟩
  .cases b
 .rename_i t x y ty f;split at b
  .rename_i n;simp only[aq]at b;obtain⟨X,hX,rfl⟩:=b
   have M:y = .const (.slice bb 0 0):=by
    have:=n.2;unfold NW at this;split at this
    .rfl
    .cases this
   subst M;obtain⟨C,rfl⟩:=nk g;obtain⟨r,h1,j⟩:=abI h n.1 (jj h l hX) C x (.const (.slice bb 0 0));exact⟨r,w,by simp only[execOp,f];exact kh h1,plain j⟩
  .cases b
 .rename_i t x f;split at b
  .rename_i X p hX;cases b;simp only[nv]at g;split at g
   .rename_i s hs;cases g;have q:=jj h l hX;rw[hs]at q;generalize Q:a.eval x=u at q;cases q;obtain⟨k1,k2,k3⟩:=PN h L (.stringIter s 0) (.ua s 0) rfl rfl (λ_ U=>by simp only[iy];exact⟨trivial,trivial,U⟩);refine⟨_,_,by simp only[execOp,f,Q];exact kh (v:=.pointer (aE ⟨w.heap.size,0,bb⟩)) (w':=w.alloc (.stringIter s 0)) (by simp[Instr.range,run_underlying p]),_,_,_,⟨rfl,rfl⟩,k1,k2,k3⟩
   .cases g
  .rename_i k e X p hX;cases b;obtain⟨r,w',h1,j⟩:=an5 (P:=P) h L p (jj h l hX) g;exact⟨r,w',by simp only[execOp,f];exact kh h1,j⟩
  .cases b
 .rename_i x f;simp only[aq]at b;obtain⟨X,hX,rfl⟩:=b;obtain⟨r,w',h1,j⟩:=an2 (P:=P) (ty:=o.type) h (jj h l hX) g;exact⟨r,w',by simp only[execOp,f];exact kh h1,j⟩
 .simp only[aq]at b;obtain⟨X,hX,rfl⟩:=b;cases g
 .rename_i x f;simp only[aq]at b;obtain⟨X,hX,rfl⟩:=b;obtain⟨C,rfl⟩:=nk g;obtain⟨r,h1,j⟩:=anN (P:=P) h (jj h l hX) C;exact⟨r,w,by simp only[execOp,f];exact kh h1,plain j⟩
 .rename_i cl f;split at b
  .rename_i t x F E B;split at b
   .rename_i O;simp only[aq]at b;obtain⟨X,hX,rfl⟩:=b;have A:cl.argTypes = #[t]:=by rw[<-bQ (xs:=cl.argTypes),E]
    have K:cl.args = #[x]:=by rw[<-bQ (xs:=cl.args),B]
    have q:=jj h l hX;simp only[nv]at g;split at g
    .rename_i S;cases g;rw[S]at q;generalize Q:a.eval x=u at q;cases q
     have W:∃e,P.underlying t=aE (.slice e):=by
      unfold Gj at O;split at O
      .exact⟨_,jX⟩
      .cases O
     obtain⟨e,p⟩:=W;refine⟨.int .i64 0,w,by rw[yI f F,A,K];exact kh (by simp[Q,Builtin.cap_,run_underlying p,goInt]),plain (.val _)⟩
    .cases g
   .cases b
  .rename_i t x F E B;have A:cl.argTypes = #[t]:=by rw[<-bQ (xs:=cl.argTypes),E]
   have K:cl.args = #[x]:=by rw[<-bQ (xs:=cl.args),B]
   split at b
   .rename_i e p;split at b
    .rename_i z i X I hi hX;split at b
     .rename_i n;cases b;obtain⟨w',h1,j⟩:=anJ (P:=P) (al:=al) (ty:=o.type) h p hi I n.1 n.2 (jj h l hX) g;exact⟨_,w',by rw[yI f F,A,K];exact kh (by simpa using h1),j⟩
     .cases b
    .cases b
   .cases b
  .rename_i t u x y F E B;have A:cl.argTypes = #[t,u]:=by rw[<-bQ (xs:=cl.argTypes),E]
   have K:cl.args = #[x,y]:=by rw[<-bQ (xs:=cl.args),B]
   split at b
   .rename_i e p N;split at b
    .rename_i z i X Y I hi hX J;split at b
     .rename_i n;cases b;obtain⟨r,w',h1,j⟩:=anB (P:=P) (ty:=o.type) h L p N hi I n.1 n.2 (jj h l hX) (jj h l J) g;exact⟨r,w',by rw[yI f F,A,K];exact kh (by simpa using h1),j⟩
     .cases b
    .cases b
   .cases b
  .cases b
 .rename_i t m k f;split at b
  .rename_i kt e p;split at b
   .rename_i kk z X Y T I hX J;cases b;obtain⟨r,w',h1,j⟩:=anY (P:=P) (al:=al) h p T I (jj h l hX) (jj h l J) g;exact⟨r,w',by simp only[execOp,f];exact kh h1,j⟩
   .cases b
  .cases b
 .rename_i t m s x f;split at b
  .rename_i X Y Z hX J V;cases b;obtain⟨w',h1,j⟩:=anM (P:=P) (al:=al) (t:=t) h (jj h l hX) (jj h l J) (jj h l V) g;exact⟨_,w',by simp only[execOp,f];exact Kg h1,j⟩
  .cases b
 .cases b
end
abbrev FW(ro:Option Nat):Fence:={ Fence.wide with round:=ro }
def Hx{a:Option Nat}{n:Nat}{P:Program}{f:FuncId}{args:Array Value}{w:World}{R:Ending->World->Prop}:CallsIn (FW a) n P f args w R↔Calls P f args w R:=
 callsIn_wide (n:=n)
inductive tF(c:Ctx):List Nat->List Deferred->Prop
 | nil:tF c [] []
 | cons {v:Nat} {vs:List Nat} {ds:List Deferred} (L:Loc) (h1:c.ι v 0=aE L) (h2:L.ko=b4) (h:tF c vs ds):tF c (v::vs) ({ target:=.collected L.b,args:=#[] }::ds)
def tF.mono{c c':Ctx}(d:∀v L,c.ι v 0=aE L->c'.ι v 0=aE L){vs:List Nat}{ds:List Deferred}(h:tF c vs ds):tF c' vs ds:=by
 induction h with
 | nil=>exact .nil
 | cons L h1 b _ a=>exact .cons L (d _ _ h1) b a
structure l3(G:GT)(N:Nat)(c:Ctx)(w:World)(s:St)(a:Act):Prop where
 gu:gL G c s.H w
 env:lO c w s.env.get a
 size:N<=a.tmps.size
 marks:tF c s.marks a.defers
def uX(N:Nat):Option Tmp->Bool
 | some d=>decide (d<N)
 | none=>cj
def Rj(P:Program)(G:GT)(o:Oper):Option jh:=match oR P G o with
 | some op=>aE op
 | none=>um P G o
def x8(P:Program)(G:GT)(N:Nat)(ops:Array Oper)(o:Oper):Option iz:=
 match Rj P G o with
 | none=>bb
 | some op=>if uX N o.dst=cj then(match o.guard with
   | none=>aE ⟨o.dst,op,bb⟩
   | some (j,want)=>match (ops[j]?).bind (·.dst)with
    | some t=>aE ⟨o.dst,op,aE (t,want)⟩
    | none=>bb)else bb
def qJ(P:Program)(G:GT)(N:Nat)(ops:Array Oper):List Oper->Option (List iz)
 | []=>aE []
 | o::r=>match x8 P G N ops o,qJ P G N ops r with
  | some e,aE l=>aE (e::l)
  | _,_=>bb
section
variable{P:Program}{G:GT}{c:Ctx}{w:World}{env:il}{a:Act}{N:Nat}
theorem aoz{env:Env}{a:Act}{c:Ctx}{w:World}(b:lO c w env.get a)(hN:N<=a.tmps.size){dst:Option Tmp}(f:uX N dst=cj){v:Value}{d:D}(h:gq c w v d) :
  lO c w (put env dst d).get (a.put dst v):=by
 cases dst with
 | none=>exact b
 | some t=>
  have g:t<a.tmps.size:=aR (by simpa[uX]using f) hN;intro k;simp only[put,Env.yg,Act.put];split
  .simp_all
  .rename_i e;have:(a.tmps.setIfInBounds t v).getD k undef=a.tmps.getD k undef:=oh;rw[this];exact b k
theorem ab2{a:Act}{dst:Option Tmp}{v:Value}:(a.put dst v).tmps.size=a.tmps.size:=by cases dst<;>simp[Act.put]
theorem put_defers{a:Act}{dst:Option Tmp}{v:Value}:(a.put dst v).defers=a.defers:=by cases dst<;>rfl
theorem lO.carry{c c':Ctx}{w w':World}(h:∀v d,gq c w v d->gq c' w' v d)(b:lO c w env a):lO c' w' env a:=λk=>h _ _ (b k)
theorem l3.next{c':Ctx}{w':World}{H':gg}{s:St}(hs:l3 G N c w s a)(gu:gL G c' H' w')(e:Step s.H.l c s.H w c' H' w'){dst:Option Tmp}(g:uX N dst=cj)
  {v:Value} {d:D} (f:gq c' w' v d):l3 G N c' w' { s with env:=put s.env dst d,H:=H' } (a.put dst v) where
 gu:=gu
 env:=aoz (hs.env.carry λ_ _ h=>h.rG hs.gu.toHeapOK e) hs.size g f
 size:=by rw[ab2];exact hs.size
 marks:=by
  rw[put_defers];refine hs.marks.mono λv L h=>e.old v 0 L ?_ h;rcases bJ v s.H.l with b|b
  .exact b
  .rw[hs.gu.out v 0 b]at h;cases h
theorem wP(p:lO c w env a){ops:Array Oper}{o:Oper}{g:Option (Nat×Bool)}(hg:match o.guard with
   | none=>g=bb
   | some (j,d)=>∃t,(ops[j]?).bind (·.dst)=aE t/\g=aE (t,d)) {b:Bool} (h:guardOf env g=aE b):Region.wanted o (yielded ops a.tmps)=b:=by
 unfold Region.wanted;split at hg
 .rename_i l;subst hg;simp only[guardOf,av]at h;simp[l,h]
 .rename_i j d l;obtain⟨t,n,rfl⟩:=hg;simp only[guardOf]at h;split at h
  .rename_i x m;cases h;have f:=p t;rw[m]at f;generalize e:a.tmps.getD t undef=v at f;cases f
   have i:a.tmps[t]? = aE (.bool x):=by
    rw[da]at e
    cases k:a.tmps[t]? with
    | none=>rw[k]at e;simp[undef]at e
    | some q=>rw[k]at e;simpa using e
   simp only[l,yielded,n,dr,i];cases x<;>cases d<;>rfl
  .rename_i vs m;cases h;have f:=p t;rw[m]at f;generalize e:a.tmps.getD t undef=v at f;cases f
   have i:a.tmps[t]? = aE (.tuple vs)\/a.tmps[t]? = none:=by
    rw[da]at e
    cases k:a.tmps[t]? with
    | none=>exact .inr rfl
    | some q=>rw[k]at e;exact .inl (by simpa using e)
   rcases i with i|i<;>simp only[l,yielded,n,dr,i]<;>cases d<;>rfl
  .cases h
theorem W1{o:Oper}{op:jh}(h:Rj P G o=aE op):oR P G o=aE op\/um P G o=aE op:=by
 unfold Rj at h;split at h
 .grind
 .exact .inr h
theorem WY{o:Oper}{a:jh}(b:oR P G o=aE a\/um P G o=aE a){f:il}{H:gg}{n:Nat}{r:D×Dl}(h:ie f H n a=aE r):oR P G o=aE a:=by refine b.resolve_right λc=>?_;rw[apX (Rk c)]at h;cases h
theorem HE{o:Oper}{a:jh}(b:oR P G o=aE a\/um P G o=aE a){f:il}{r:FuncId×List D}(h:lB f a=aE r):oR P G o=aE a:=by refine b.resolve_right λc=>?_;rw[apY (Rk c)]at h;cases h
theorem AH{ops:Array Oper}{o:Oper}{e:iz}(h:x8 P G N ops o=aE e) :
  (oR P G o=aE e.op\/um P G o=aE e.op)/\e.dst=o.dst/\(uX N o.dst=cj)/\(match o.guard with
   | none=>e.guard=bb
   | some (j,a)=>∃t,(ops[j]?).bind (·.dst)=aE t/\e.guard=aE (t,a)):=by
 unfold x8 at h;split at h
 .cases h
 .rename_i op b;split at h
  .rename_i c;split at h
   .rename_i hg;cases h;exact⟨W1 b,rfl,c,by simp[hg]⟩
   .rename_i j a hg;split at h
    .rename_i t d;cases h;exact⟨W1 b,rfl,c,t,d,rfl⟩
    .cases h
  .cases h
theorem Dy{o:Oper}{a:jh}(h:oR P G o=aE a):∀c,o.op≠.defer c:=by intro c b;simp[oR,b]at h
theorem abx{o:Oper}{a:jh}(h:um P G o=aE a):∀c,o.op≠.defer c:=by intro c b;simp[um,b]at h
theorem aqo{e:Option Nat}{n:Nat}{o:Oper}{s:St}{f:jh}{d:D}{δ:Dl}{next:Act->World->Prop}{Q:Exit->Act->World->Prop}(hs:l3 G N c w s a)(i:um P G o=aE f)
  (q:uX N o.dst=cj) {al:Al} (m:oD s.H al) (h:nv s.env.get s.H al.1 f=aE (d,δ))
  (k:∀c' w' l,l3 G N c' w' { s with env:=put s.env o.dst d,H:=δ.app s.H al } l->Step s.H.l c s.H w c' (δ.app s.H al) w'->next l w'):o.wpIn (FW e) n P a w next Q:=by
 obtain⟨v,w',b,d',H',c',⟨rfl,rfl⟩,gu,p,j⟩:=apL (P:=P) hs.gu hs.env m i h;refine⟨λ_ _=>trivial,?_⟩;rw[Oper.semAt_plain (FW e) a.eval o (abx i)];have g:=k c' w' (a.put o.dst v) (hs.next gu j q p) j;rcases b with b|⟨b,rfl⟩
 .rw[b];exact g
 .rw[b];exact g
theorem aql{ro:Option Nat}{n:Nat}{o:Oper}{s:St}{x:X}{next:Act->World->Prop}{Q:Exit->Act->World->Prop}(hs:l3 G N c w s a)(q:um P G o=aE (.nextM x))
  (g:uX N o.dst=cj) {v m since:Nat} {seen:List Nat} {kk:KK} {es:List (Value×D)} (hx:ev s.env.get x = .ptr v 0 0) (f:s.H[v]? = aE (.jG (.gM m) since seen)) (hm:s.H[m]? = aE (.map kk es)) (pD:es.l=since)
  (k0:(∀i,i<es.l->i∈seen)->∀c' w' C,l3 G N c' w' { s with env:=put s.env o.dst (.tup [.b b4]) } C->Step s.H.l c s.H w c' s.H w'->next C w')
  (k1:∀i k d,es[i]? = aE (k,d)->i ∉ seen->∀c' w' C,l3 G N c' w' { s with env:=put s.env o.dst (.tup [.b cj,tW k,d]),H:=s.H.set v (.jG (.gM m) since (seen ++ [i])) } C ->
   Step s.H.l c s.H w c' (s.H.set v (.jG (.gM m) since (seen ++ [i]))) w'->next C w'):o.wpIn (FW ro) n P a w next Q:=by
 have iW:∃y,o.op = .next y b4/\cX G y=aE x:=by
  unfold um at q
  repeat' split at q
  all_goals first|(cases q;done)|(simp only[aq]at q;obtain⟨_,_,S⟩:=q;cases S;done)|skip
  simp only[aq]at q;obtain⟨X,hX,S⟩:=q;cases S;exact⟨_,jX,hX⟩
 obtain⟨y,ho,hX⟩:=iW;have R:=jj hs.gu hs.env hX;rw[hx]at R;generalize hu:a.eval y=u at R
 cases R with
 | ptr _ _ _ L gC iG=>
  have J:=hs.gu.ob v _ f;simp only[Ob.gen]at J;rw[gC]at J;simp only[iy]at J;obtain⟨_,K,bm,zC,r⟩:=J
  cases zC with
  | gM _ p Dk Pn=>
   have F:=hs.gu.ob m _ hm;simp only[Ob.gen]at F;rw[Dk]at F;simp only[iy]at F;obtain⟨_,vc,arr,b,IK,iX,M,IA⟩:=F;have rT:b=since:=by rw[IA,pD]
   subst rT;refine⟨λ_ _=>trivial,?_⟩;rw[Oper.semAt_plain (FW ro) a.eval o (abx q)]
   have Sy:∀e∈arr.toList,e.born<b:=by
    intro e t;obtain⟨i,hi⟩:=aH.1 t;have E:i<es.l:=by rw[<-iX];have:=(ae.1 hi).1;simpa using this
    have:=(M i e es[i] (by simpa using hi) (by simp[E])).2.2;omega
   have B:=next_test_false seen.toArray arr b b Sy (di _)
   have z:(leftOf arr seen.toArray).filter (λe=>decide (e.born<b))=leftOf arr seen.toArray:=by apply Array.filter_eq_self.2;intro e t;simp only[decide_eq_true_eq];exact Sy e (by simpa using (eF.1 t).1)
   have nE:(leftOf arr seen.toArray).filter (λe=>decide (e.born>=b)) = #[]:=by apply Array.filter_eq_empty_iff.2;intro e t;have:=Sy e (by simpa using (eF.1 t).1);simp;omega
   have ZB:∀w1:World,w1.heap=w.heap->(getObj L.b).run P w1 = .ok (.mapIter (aE p.b) b seen.toArray b) w1:=λw1 h1=>by simp[getObj,Sem.run,h1,r]
   have ZC:∀w1:World,w1.heap=w.heap->(getObj p.b).run P w1 = .ok (.map arr b) w1:=λw1 h1=>by simp[getObj,Sem.run,h1,IK]
   have ru:∀e,e∈(leftOf arr seen.toArray).toList->∃i k d,es[i]? = aE (k,d)/\i ∉ seen/\e.key=k/\gq c w e.val d/\e.born=i:=by
    intro e t
    have yk:e∈arr/\(!seen.toArray.contains e.born)=true:=by have:=eF.1 (show e∈leftOf arr seen.toArray by simpa using t);exact this
    obtain⟨i,hi⟩:=aH.1 (show e∈arr.toList by simpa using yk.1);have E:i<es.l:=by rw[<-iX];have:=(ae.1 hi).1;simpa using this
    obtain⟨q1,q2,q3⟩:=M i e es[i] (by simpa using hi) (by simp[E]);refine⟨i,es[i].1,es[i].2,by simp[E],?_,q1,q2,q3⟩;have:=yk.2;rw[q3]at this;simpa using this
   by_cases I:(leftOf arr seen.toArray) = #[]
   .have O:(execOp a.eval o).run P w = .ok (.value (.tuple #[.bool b4])) w:=by
     have A:(Instr.next (.pointer (aE ⟨L.b,0,bb⟩)) b4 o.type).run P w = .ok (.tuple #[.bool b4]) w:=by have Bd:(arr.filter λe => !(seen.toArray).contains e.born) = #[]:=I;simp only[Instr.next,Sem.run_bind,ZB w rfl,Result.andThen_ok,ZC w rfl,B,bG,if_false,Sem.run_pure,Bd];simp[choose,Sem.run,Question.forced]
     simp only[execOp,ho,hu];rw[K];simp[A]
    rw[O];refine k0 (λi hi=>?_) c w _ (hs.next hs.gu (Step.refl _ _ _ _) g (.tup [.bool b4] _ rfl λj v d f g=>?_)) (Step.refl _ _ _ _)
    .by_cases gQ:i∈seen
     .exact gQ
     .exfalso;have pS:i<arr.size:=U;have Z:=(M i arr[i] es[i] (by simp[pS]) (by simp[hi])).2.2
      have:arr[i]∈leftOf arr seen.toArray:=by refine eF.2 ⟨Array.getElem_mem _,?_⟩;rw[Z];simpa using gQ
      rw[I]at this;simp at this
    .match j,f,g with
     | 0,f,g=>cases f;cases g;exact .val _
   .have ig:(leftOf arr seen.toArray).isEmpty=false:=by
     cases hq:(leftOf arr seen.toArray).isEmpty with
     | false=>rfl
     | true=>exact absurd (Array.isEmpty_iff.1 hq) I
    have jV:0<(leftOf arr seen.toArray).size:=by
     rcases dY (leftOf arr seen.toArray).size with h|h
     .exact absurd (Array.eq_empty_of_size_eq_zero h) I
     .exact h
    have SB:∃(i:Nat) (w1:World),i<(leftOf arr seen.toArray).size/\kN w w1/\w1.heap=w.heap/\(choose (.mapNext (leftOf arr seen.toArray).size)).run P w = .ok i w1:=by
     by_cases hf:(Question.mapNext (leftOf arr seen.toArray).size).forced=cj
     .exact⟨0,w,jV,kN.refl w,rfl,by simp[choose,Sem.run,hf]⟩
     .exact⟨w.tape w.drawn (.mapNext (leftOf arr seen.toArray).size) % (leftOf arr seen.toArray).size,{ w with drawn:=w.drawn+1 },Nat.mod_lt _ jV,kN.drew w,rfl,by simp[choose,Sem.run,hf,Question.cut]⟩
    obtain⟨i,w1,hi,ZD,W,Y⟩:=SB;obtain⟨l,k,d,h1,A,h3,h4,h5⟩:=ru (leftOf arr seen.toArray)[i] gf;have zy:=hs.gu.rm ZD
    obtain⟨m1,m2⟩:=BW zy f rfl rfl (ob':=.jG (.gM m) b (seen ++ [l])) rfl gC iG (.mapIter (aE p.b) b (seen ++ [l]).toArray b) (λw' sL vf=>by
     simp only[iy]
     exact⟨iG,K,p.b,.gM m p Dk Pn,sL⟩)
    have V:Step s.H.l c s.H w c (s.H.set v (.jG (.gM m) b (seen ++ [l]))) { w1 with heap:=w1.heap.setIfInBounds L.b (.mapIter (aE p.b) b (seen ++ [l]).toArray b) }:=(DZ _ ZD).trans m2 (di _)
    have O:(execOp a.eval o).run P w = .ok (.value (.tuple #[.bool cj,k,(leftOf arr seen.toArray)[i].val])) { w1 with heap:=w1.heap.setIfInBounds L.b (.mapIter (aE p.b) b (seen ++ [l]).toArray b) }:=by
     have oM:(setObj L.b (.mapIter (aE p.b) b (seen ++ [l]).toArray b)).run P w1 = .ok () { w1 with heap:=w1.heap.setIfInBounds L.b (.mapIter (aE p.b) b (seen ++ [l]).toArray b) }:=by simp[setObj,Sem.run,W,r]
     have A:(Instr.next (.pointer (aE ⟨L.b,0,bb⟩)) b4 o.type).run P w = .ok (.tuple #[.bool cj,k,(leftOf arr seen.toArray)[i].val]) { w1 with heap:=w1.heap.setIfInBounds L.b (.mapIter (aE p.b) b (seen ++ [l]).toArray b) }:=by
      have Bd:(arr.filter λe => !(seen.toArray).contains e.born)=leftOf arr seen.toArray:=rfl;have jD:((if (leftOf arr seen.toArray).isEmpty then #[bb]else #[])++(leftOf arr seen.toArray ++ #[]).map aE)=(leftOf arr seen.toArray).map some:=by simp[ig]
      simp only[Instr.next,Sem.run_bind,ZB w rfl,Result.andThen_ok,ZC w rfl,B,bG,if_false,Sem.run_pure,Bd,z,nE,jD,Array.size_map,Y];have T:((leftOf arr seen.toArray).map aE)[i]? = aE (aE (leftOf arr seen.toArray)[i]):=by simp[hi]
      simp only[T,Sem.run_bind];rw[h5,(gf:seen.toArray.push l=(seen ++ [l]).toArray),oM];simp[h3]
     simp only[execOp,ho,hu];rw[K];simp[A]
    rw[O];refine k1 l k d h1 A c _ _ (hs.next m1 V g (.tup [.bool cj,k,(leftOf arr seen.toArray)[i].val] _ rfl λj v d f g=>?_)) V
    match j,f,g with
    | 0,f,g=>cases f;cases g;exact .val _
    | 1,f,g=>cases f;cases g;exact acb (vc _ (cp h1))
    | 2,f,g=>cases f;cases g;exact h4.rG hs.gu.toHeapOK V
theorem aqm{e:Option Nat}{n:Nat}{o:Oper}{s:St}{f:jh}{d:D}{δ:Dl}{next:Act->World->Prop}{Q:Exit->Act->World->Prop}(hs:l3 G N c w s a)(i:oR P G o=aE f)
  (q:uX N o.dst=cj) {al:Al} (m:oD s.H al) (h:ie s.env.get s.H al.1 f=aE (d,δ))
  (k:∀c' w' l,l3 G N c' w' { s with env:=put s.env o.dst d,H:=δ.app s.H al } l->Step s.H.l c s.H w c' (δ.app s.H al) w'->next l w'):o.wpIn (FW e) n P a w next Q:=by
 obtain⟨v,w',b,d',H',c',⟨rfl,rfl⟩,gu,p,j⟩:=abY (P:=P) (K:=λd' H'=>d'=d/\H'=δ.app s.H al) hs.gu hs.env m i (Wa h ⟨rfl,rfl⟩);refine⟨λ_ _=>trivial,?_⟩;rw[Oper.semAt_plain (FW e) a.eval o (Dy i)];have g:=k c' w' (a.put o.dst v) (hs.next gu j q p) j;rcases b with b|⟨b,rfl⟩
 .rw[b];exact g
 .rw[b];exact g
end
section
variable{P:Program}{G:GT}{c:Ctx}{w:World}{env:il}{a:Act}{N:Nat}
theorem W2{o:Oper}{b:jh}(a:oR P G o=aE b)(h:Ja b=cj):∃cl,o.op = .call cl:=by
 unfold oR at a;split at a
 all_goals first|exact⟨_,jX⟩|skip
 all_goals exfalso
 all_goals try simp only[aF,ag,aI]at a
 all_goals (repeat' first|(obtain⟨_,_,a⟩:=a)|split at a|simp only[ag]at a)
 all_goals first|(simp[Ja]at h;done)|(cases a<;>simp[Ja]at h)
theorem Ql{H:gg}(gu:gL G c H w)(u:lO c w env a){o:Oper}{l:jh}(b:oR P G o=aE l){f:FuncId}{args:List D}(d:lB env l=aE (f,args))(s:uu P f=cj) :
  ∃vs:List Value,(execOp a.eval o).run P w = .ok (.enter f vs.toArray) w/\j' c w vs args:=by
 have C:=b;unfold oR at b
 cases j:o.op with
 | call cl=>
  simp only[j,aF,ag]at b;obtain⟨xs,A,b⟩:=b;have t:=Cd gu u cl.args.toList A;split at b
  .rename_i g r;split at b
   .have q:g=f/\List.map (ev env) xs=args:=by
     cases b;have F:lB env (if G.nw g=cj then jh.callN g xs else jh.call g xs)=aE (g,xs.map (ev env)):=by split<;>rfl
     rw[F]at d;simpa using d
    obtain⟨rfl,rfl⟩:=q;refine⟨_,?_,t⟩;have e:cl.args.map a.eval=(cl.args.toList.map a.eval).toArray:=by cases cl.args;simp
    simp only[execOp,j,resolve,r,Act.eval,Deferred.ofValue,Sem.run_bind,Sem.run_pure,Result.andThen_ok,invoke];rw[<-e];have h:=Qm (P:=P) s (cl.args.map a.eval) w;simpa using h
   .cases b
  .rename_i x L r;simp only[ag,aI,av]at b;obtain⟨X,hX,rfl⟩:=b;simp only[lB]at d;split at d
   .rename_i k first cap sG
    cases d;have m:=jj gu u hX;rw[sG]at m;generalize E:a.eval x=v at m
    cases m with
    | fn _ fs cs _ _ K p J I=>
     refine⟨fs++cl.args.toList.map a.eval++cs,?_,((j'.Jv K J).append t).append (j'.Jv p I)⟩;simp only[execOp,j,resolve,r,E,Deferred.ofValue,Sem.run_bind,Sem.run_pure,Result.andThen_ok,invoke];have h:=Qm (P:=P) s (fs.toArray++cl.args.map a.eval++cs.toArray) w;have p:fs.toArray++cl.args.map a.eval++cs.toArray=(fs++cl.args.toList.map a.eval++cs).toArray:=by cases cl.args;simp
     rw[p]at h ⊢;exact h
   .cases d
  .split at b
   .simp only[ag]at b;obtain⟨B,_,b⟩:=b;split at b
    .simp only[ag]at b;obtain⟨i,_,z,_,y,_,b⟩:=b;split at b
     .split at b
      .cases b;cases d
      .cases b
     .cases b
    .cases b
   .cases b
  .split at b
   .simp only[ag]at b;obtain⟨B,_,b⟩:=b;split at b
    .simp only[ag]at b;obtain⟨y,_,b⟩:=b;split at b
     .simp only[ag]at b;obtain⟨n,_,b⟩:=b;split at b
      .cases b;cases d
      .cases b
     .cases b
    .cases b
   .cases b
  .split at b
   .split at b
    .cases b;cases d
    .cases b;cases d
    .cases b;cases d
    .cases b
   .cases b
  .cases b;cases d
  .cases b;cases d
  .cases b
 | _=>
  have h1:Ja l=true:=by unfold lB at d;unfold Ja;split at d<;>first|rfl|cases d
  obtain⟨cl,h⟩:=W2 C h1;rw[j]at h;cases h
end
abbrev Fp:=Nat×Option (Nat×Nat)
def oP:D->List Fp
 | .gh v _ _ _ _=>[(v,bb)]
 | .gM v=>[(v,bb)]
 | _=>[]
def wX(n:Nat):D->List Fp
 | .ptr v _ o=>[(v,aE (o,n))]
 | _=>[]
def ik(f:il)(H:gg):jh->List Fp
 | .ld1 x=>wX 1 (ev f x)
 | .ldN n x=>wX n (ev f x)
 | .st1 a _=>wX 1 (ev f a)
 | .stN n a _=>wX n (ev f a)
 | .lookup _ _ _ m _=>oP (ev f m)
 | .mapUpd _ m _ _=>oP (ev f m)
 | .len .map x=>oP (ev f x)
 | .b2s x=>oP (ev f x)
 | .slcArr sz n x _ _=>wX (n*sz) (ev f x)
 | .app _ _ _ x y=>oP (ev f x)++oP (ev f y)
 | .copy _ x y=>oP (ev f x)++oP (ev f y)
 | .call g args=>((args.map (ev f)).map (iO H 40)).flatten.map λv=>(v,bb)
 | .callN g args=>((args.map (ev f)).map (iO H 40)).flatten.map λv=>(v,bb)
 | .callv g args=>match lB f (.callv g args)with
  | some (_,ds)=>(ds.map (iO H 40)).flatten.map λv=>(v,bb)
  | none=>[]
 | _=>[]
def kC(n:Nat):Dl->List Fp
 | .no=>[]
 | .cells v o xs=>[(v,aE (o,xs.l))]
 | .obj v _=>[(v,bb)]
 | .new _=>[(n,bb)]
def vS:Fp->Fp->Bool
 | (v,bb),(u,_)=>v != u
 | (v,aE _),(u,bb)=>v != u
 | (v,aE (o,n)),(u,aE (p,m))=>v != u||decide (o+n<=p)||decide (p+m<=o)
def vT(a b:List Fp):Bool:=a.all λx=>b.all λy=>vS x y
def Alike(x:Fp)(H1 H2:gg):Prop:=
 match x with
 | (v,bb)=>H1[v]? = H2[v]?
 | (v,aE (o,n))=>H1[v]? = H2[v]?\/∃t g cs ds,H1[v]? = aE (.row t g cs)/\H2[v]? = aE (.row t g ds)/\cs.l=ds.l/\∀i,o<=i->i<o+n->cs[i]? = ds[i]?
def vL(l:List Fp)(H1 H2:gg):Prop:=∀x∈l,Alike x H1 H2
def jd:X->List Nat
 | .t k=>[k]
 | .c _=>[]
def yM(l:List X):List Nat:=(l.map jd).flatten
def yL:Option X->List Nat
 | some x=>jd x
 | none=>[]
def iB:jh->List Nat
 | .mv x=>jd x
 | .pick c a b=>jd c++jd a++jd b
 | .box _ x=>jd x
 | .alloc _ _=>[]
 | .build _ ps=>(ps.map λp=>jd p.2.2).flatten
 | .buildSl _ _ _ _ ps=>(ps.map λp=>jd p.2).flatten
 | .ld1 x=>jd x
 | .ldN _ x=>jd x
 | .st1 a x=>jd a++jd x
 | .stN _ a x=>jd a++jd x
 | .nilck x=>jd x
 | .arith _ x y=>jd x++jd y
 | .eqS _ _ _ x y=>jd x++jd y
 | .un _ x=>jd x
 | .conv _ x=>jd x
 | .b2s x=>jd x
 | .mkfn _ a b=>yM a++yM b
 | .mkmap _=>[]
 | .mksl _ _ _ _ l c=>jd l++jd c
 | .slc _ x lo hi=>jd x++yL lo++yL hi
 | .slcS x lo hi=>jd x++yL lo++yL hi
 | .slc3 _ x lo hi mx=>jd x++yL lo++jd hi++jd mx
 | .slcArr _ _ x lo hi=>jd x++yL lo++yL hi
 | .fieldA _ x=>jd x
 | .field _ _ _ x=>jd x
 | .idxA _ x i=>jd x++jd i
 | .idxArr _ _ x i=>jd x++jd i
 | .idx _ _ _ x i=>jd x++jd i
 | .idxStr x i=>jd x++jd i
 | .lookup _ _ _ m k=>jd m++jd k
 | .mapUpd _ m k x=>jd m++jd k++jd x
 | .ext x _=>jd x
 | .call _ args=>yM args
 | .callN _ args=>yM args
 | .callv f args=>jd f++yM args
 | .app _ _ _ x y=>jd x++jd y
 | .copy _ x y=>jd x++jd y
 | .len _ x=>jd x
 | .minmax _ xs=>yM xs
 | .nilS _ x | .capE x | .clr _ _ x | .rangeS x | .nextS x | .rangeM x | .nextM x | .entry x=>jd x
 | .mapEnt _ _ m k=>jd m++jd k
 | .entSt m s x=>jd m++jd s++jd x
 | .appZ _ _ _ _ x n=>jd x++jd n
def JB:jh->Bool
 | .mv _ | .pick .. | .build .. | .nilck _ | .arith .. | .eqS .. | .un .. | .conv .. | .mkfn .. | .slc .. | .slcS .. | .slc3 .. | .fieldA .. | .field .. | .idxA .. | .idxArr .. | .idx .. | .idxStr .. | .ext .. | .minmax ..
 | .len .slice _ | .len .string _=>cj
 | _=>b4
def UH:jh->Bool
 | .ld1 _ | .ldN .. | .b2s _ | .slcArr .. | .lookup .. | .len .. | .call .. | .callv .. => cj
 | op=>JB op
def Qy(a b:jh):Bool:=JB a||JB b||(UH a&&UH b)
section
variable{f f':il}
theorem Cs{x:X}(h:∀t∈jd x,f t=f' t):ev f x=ev f' x:=by
 cases x with
 | t k=>exact h k (by simp[jd])
 | c d=>rfl
theorem Ct{l:List X}(h:∀t∈yM l,f t=f' t):l.map (ev f)=l.map (ev f'):=
 aw λx a=>Cs λt b=>h t (bp.2 ⟨_,au.2 ⟨x,a,rfl⟩,b⟩)
theorem Uz:∀ {l:List (Nat×Nat×X)},(∀t∈(l.map λp=>jd p.2.2).flatten,f t=f' t)->partsOf f l=partsOf f' l
 | [],_=>rfl
 | (o,n,x)::r,h=>by have h1:ev f x=ev f' x:=Cs λt a=>h t (by simp[a]);have b:=Uz (l:=r) λt a=>h t (by simp only[dx,a8,aj];exact .inr a);simp only[partsOf,h1,b]
theorem y4{x:Option X}{n:Int}(h:∀t∈yL x,f t=f' t):iC f x n=iC f' x n:=by
 cases x with
 | none=>rfl
 | some x=>simp only[iC,Cs (x:=x) h]
theorem aak:∀ {l:List X},(∀t∈yM l,f t=f' t)->tq f l=tq f' l
 | [],_=>rfl
 | x::r,h=>by have h1:ev f x=ev f' x:=Cs λt a=>h t (by simp[yM,a]);have b:=aak (l:=r) λt a=>h t (by simp only[yM,dx,a8,aj];exact .inr a);simp only[tq,h1,b]
theorem V'{op:jh}(h:∀t∈iB op,f t=f' t)(H:gg)(n:Nat):ie f H n op=ie f' H n op:=by
 have e:∀ {x:X},(∀t∈jd x,t∈iB op)->ev f x=ev f' x:=λr=>Cs λt d=>h t (r t d);cases op<;>simp only[ie]<;>first|rfl|skip
 case mv x=>rw[e (x:=x) (λt d=>by simpa[iB]using d)]
 case pick c a b=>rw[e (x:=c) (λt d=>by simp[iB,d]),e (x:=a) (λt d=>by simp[iB,d]),e (x:=b) (λt d=>by simp[iB,d])]
 case box x=>rw[e (x:=x) (λt d=>by simpa[iB]using d)]
 case build z ps=>simp only[EB,Uz (f:=f) (f':=f') (l:=ps) (λt d=>h t (by simpa[iB]using d))]
 case buildSl t sz z m ps=>
  have:=Uz (f:=f) (f':=f') (l:=ps.map λp=>(p.1*sz,sz,p.2)) (λt d=>h t (by simpa[iB,b6,fg]using d));simp only[AA,this]
 case ld1 x=>rw[e (x:=x) (λt d=>by simpa[iB]using d)]
 case ldN n x=>rw[e (x:=x) (λt d=>by simpa[iB]using d)]
 case st1 a x=>rw[e (x:=a) (λt d=>by simp[iB,d]),e (x:=x) (λt d=>by simp[iB,d])]
 case stN n a x=>rw[e (x:=a) (λt d=>by simp[iB,d]),e (x:=x) (λt d=>by simp[iB,d])]
 case nilck x=>rw[e (x:=x) (λt d=>by simpa[iB]using d)]
 case arith op x y=>rw[e (x:=x) (λt d=>by simp[iB,d]),e (x:=y) (λt d=>by simp[iB,d])]
 case eqS b ls neg x y=>rw[e (x:=x) (λt d=>by simp[iB,d]),e (x:=y) (λt d=>by simp[iB,d])]
 case un op x=>rw[e (x:=x) (λt d=>by simpa[iB]using d)]
 case conv k x=>rw[e (x:=x) (λt d=>by simpa[iB]using d)]
 case b2s x=>rw[e (x:=x) (λt d=>by simpa[iB]using d)]
 case mkfn g a b=>rw[Ct (f:=f) (f':=f') (l:=a) (λt d=>h t (by simp[iB,d])),Ct (f:=f) (f':=f') (l:=b) (λt d=>h t (by simp[iB,d]))]
 case mksl t sz Q2 z l c=>rw[e (x:=l) (λt d=>by simp[iB,d]),e (x:=c) (λt d=>by simp[iB,d])]
 case slc sz x lo hi=>
  have q:∀n,iC f lo n=iC f' lo n:=λn=>y4 λt d=>h t (by simp[iB,d]);have j:∀n,iC f hi n=iC f' hi n:=λn=>y4 λt d=>h t (by simp[iB,d]);simp only[vH,q,j,e (x:=x) (λt d=>by simp[iB,d])]
 case slc3 sz x lo hi mx=>
  have q:∀n,iC f lo n=iC f' lo n:=λn=>y4 λt d=>h t (by simp[iB,d]);have j:∀n,iC f (aE hi) n=iC f' (aE hi) n:=λn=>y4 λt d=>h t (by simp only[yL]at d;simp[iB,d]);have s:∀n,iC f (aE mx) n=iC f' (aE mx) n:=λn=>y4 λt d=>h t (by simp only[yL]at d;simp[iB,d]);simp only[zZ,q,j,s,e (x:=x) (λt d=>by simp[iB,d])]
 case slcArr sz m x lo hi=>
  have q:∀n,iC f lo n=iC f' lo n:=λn=>y4 λt d=>h t (by simp[iB,d]);have j:∀n,iC f hi n=iC f' hi n:=λn=>y4 λt d=>h t (by simp[iB,d]);simp only[BQ,q,j,e (x:=x) (λt d=>by simp[iB,d])]
 case slcS x lo hi=>
  have q:∀n,iC f lo n=iC f' lo n:=λn=>y4 λt d=>h t (by simp[iB,d]);have j:∀n,iC f hi n=iC f' hi n:=λn=>y4 λt d=>h t (by simp[iB,d]);simp only[Qs,q,j,e (x:=x) (λt d=>by simp[iB,d])]
 case fieldA o x=>rw[e (x:=x) (λt d=>by simpa[iB]using d)]
 case field o n b x=>rw[e (x:=x) (λt d=>by simpa[iB]using d)]
 case idxA sz x i=>rw[e (x:=x) (λt d=>by simp[iB,d]),e (x:=i) (λt d=>by simp[iB,d])]
 case idxArr sz n x i=>rw[e (x:=x) (λt d=>by simp[iB,d]),e (x:=i) (λt d=>by simp[iB,d])]
 case idx sz n b x i=>rw[e (x:=x) (λt d=>by simp[iB,d]),e (x:=i) (λt d=>by simp[iB,d])]
 case idxStr x i=>rw[e (x:=x) (λt d=>by simp[iB,d]),e (x:=i) (λt d=>by simp[iB,d])]
 case lookup kk z ok m k=>rw[e (x:=m) (λt d=>by simp[iB,d]),e (x:=k) (λt d=>by simp[iB,d])]
 case mapUpd kk m k x=>rw[e (x:=m) (λt d=>by simp[iB,d]),e (x:=k) (λt d=>by simp[iB,d]),e (x:=x) (λt d=>by simp[iB,d])]
 case ext x i=>rw[e (x:=x) (λt d=>by simpa[iB]using d)]
 case app t sz Q2 x y=>rw[e (x:=x) (λt d=>by simp[iB,d]),e (x:=y) (λt d=>by simp[iB,d])]
 case copy sz x y=>rw[e (x:=x) (λt d=>by simp[iB,d]),e (x:=y) (λt d=>by simp[iB,d])]
 case len k x=>rw[e (x:=x) (λt d=>by simpa[iB]using d)]
 case minmax b xs=>simp only[FV,aak (f:=f) (f':=f') (l:=xs) (λt d=>h t (by simpa[iB]using d))]
end
def NK{f f':il}{op:jh}(h:∀t∈iB op,f t=f' t):lB f op=lB f' op:=by
 cases op<;>first|rfl|skip
 case call g args=>simp only[lB,Ct (f:=f) (f':=f') (l:=args) (λt a=>h t (by simpa[iB]using a))]
 case callN g args=>simp only[lB,Ct (f:=f) (f':=f') (l:=args) (λt a=>h t (by simpa[iB]using a))]
 case callv g args=>
  simp only[lB,Ct (f:=f) (f':=f') (l:=args) (λt a=>h t (by simp[iB,a])),Cs (f:=f) (f':=f') (x:=g) (λt a=>h t (by simp[iB,a]))]
def Ov{f f':il}{op:jh}(h:∀t∈iB op,f t=f' t)(H:gg):ik f H op=ik f' H op:=by
 have c:∀ {x:X},(∀t∈jd x,t∈iB op)->ev f x=ev f' x:=λd=>Cs λt b=>h t (d t b);have e:=NK h;cases op<;>simp only[ik]<;>first|rfl|skip
 case ld1 x=>rw[c (x:=x) (λt b=>by simpa[iB]using b)]
 case ldN n x=>rw[c (x:=x) (λt b=>by simpa[iB]using b)]
 case b2s x=>rw[c (x:=x) (λt b=>by simpa[iB]using b)]
 case slcArr sz n x lo hi=>rw[c (x:=x) (λt b=>by simp[iB,b])]
 case st1 a x=>rw[c (x:=a) (λt b=>by simp[iB,b])]
 case stN n a x=>rw[c (x:=a) (λt b=>by simp[iB,b])]
 case lookup kk z ok m k=>rw[c (x:=m) (λt b=>by simp[iB,b])]
 case mapUpd kk m k x=>rw[c (x:=m) (λt b=>by simp[iB,b])]
 case app t sz Q2 x y=>rw[c (x:=x) (λt b=>by simp[iB,b]),c (x:=y) (λt b=>by simp[iB,b])]
 case copy sz x y=>rw[c (x:=x) (λt b=>by simp[iB,b]),c (x:=y) (λt b=>by simp[iB,b])]
 case len k x=>cases k<;>simp only[ik]<;>rw[c (x:=x) (λt b=>by simpa[iB]using b)]
 case call g args=>rw[Ct (f:=f) (f':=f') (l:=args) (λt b=>h t (by simpa[iB]using b))]
 case callN g args=>rw[Ct (f:=f) (f':=f') (l:=args) (λt b=>h t (by simpa[iB]using b))]
 case callv g args=>rw[e]
section
variable{H1 H2:gg}
theorem Qf{v:Nat}(h:H1[v]? = H2[v]?)(g:Nat):rowAt H1 v g=rowAt H2 v g:=by simp only[rowAt,h]
theorem T8{v:Nat}(h:H1[v]? = H2[v]?):mq H1 v=mq H2 v:=by simp only[mq,h]
theorem JM{v o n:Nat}(h:Alike (v,aE (o,n)) H1 H2)(g:Nat) :
  (rowAt H1 v g=bb/\rowAt H2 v g=bb)\/∃t cs ds,rowAt H1 v g=aE (t,cs)/\rowAt H2 v g=aE (t,ds)/\cs.l=ds.l/\∀i,o<=i->i<o+n->cs[i]? = ds[i]? := by
 rcases h with h|⟨t,d,cs,ds,h1,a,c,b⟩
 .rw[Qf h g]
  cases f:rowAt H2 v g with
  | none=>exact .inl ⟨rfl,rfl⟩
  | some p=>exact .inr ⟨p.1,p.2,p.2,rfl,rfl,rfl,λ_ _ _=>rfl⟩
 .by_cases e:d=g
  .exact .inr ⟨t,cs,ds,by simp[rowAt,h1,e],by simp[rowAt,a,e],c,b⟩
  .exact .inl ⟨by simp[rowAt,h1,e],by simp[rowAt,a,e]⟩
theorem Va{sz:Nat}{d:D}(h:vL (oP d) H1 H2):lN sz H1 d=lN sz H2 d:=by
 unfold lN;split<;>first|rfl|skip
 rename_i v g a off len;have:=h (v,bb) (by simp[oP]);rw[Qf this]
theorem vL.left{a b:List Fp}(h:vL (a++b) H1 H2):vL a H1 H2:=λx c=>h x (bK _ c)
theorem vL.right{a b:List Fp}(h:vL (a++b) H1 H2):vL b H1 H2:=λx c=>h x (bP _ c)
theorem adt{f:il}{op:jh}(h:vL (ik f H1 op) H1 H2)(n:Nat):ie f H1 n op=ie f H2 n op:=by
 cases op<;>simp only[ie]<;>first|rfl|skip
 case ld1 x=>
  congr 1;simp only[ik]at h;unfold yC;split<;>first|rfl|skip
  rename_i v g o b;rw[b]at h;rcases JM (h (v,aE (o,1)) (by simp[wX])) g with⟨d,c⟩|⟨t,cs,ds,d,c,e,j⟩
  .rw[d,c]
  .grind
 case ldN m x=>
  congr 1;simp only[ik]at h;unfold xH;split<;>first|rfl|skip
  rename_i v g o b;rw[b]at h;rcases JM (h (v,aE (o,m)) (by simp[wX])) g with⟨d,c⟩|⟨t,cs,ds,d,c,e,j⟩
  .rw[d,c]
  .rw[d,c]
   have:(cs.drop o).take m=(ds.drop o).take m:=by
    apply bY;intro i;simp only[aJ,aM];split
    .grind
    .rfl
   simp only[e,this]
 case st1 a x=>
  simp only[ik]at h;unfold DW;split<;>first|rfl|skip
  rename_i v g o b;rw[b]at h;rcases JM (h (v,aE (o,1)) (by simp[wX])) g with⟨d,c⟩|⟨t,cs,ds,d,c,e,j⟩
  .rw[d,c]
  .grind
 case stN m a x=>
  simp only[ik]at h;unfold DX;split<;>first|rfl|skip
  rename_i v g o xs b _;rw[b]at h;rcases JM (h (v,aE (o,m)) (by simp[wX])) g with⟨d,c⟩|⟨t,cs,ds,d,c,e,j⟩
  .rw[d,c]
  .grind
 case slcArr sz m x lo hi=>
  congr 1;simp only[ik]at h;unfold BQ;split<;>first|rfl|skip
  rename_i v g o l r b _ _;rw[b]at h;rcases JM (h (v,aE (o,m*sz)) (by simp[wX])) g with⟨d,c⟩|⟨t,cs,ds,d,c,e,j⟩
  .rw[d,c]
  .grind
 case lookup kk z ok m k=>
  congr 1;simp only[ik]at h;unfold Dr;split<;>first|rfl|skip
  rename_i v kv b _;rw[b]at h;rw[T8 (h (v,bb) (by simp[oP]))]
 case mapUpd kk m k x=>
  simp only[ik]at h;unfold Bu;split<;>first|rfl|skip
  rename_i v kv b _;rw[b]at h;rw[T8 (h (v,bb) (by simp[oP]))]
 case b2s x=>
  congr 1;simp only[ik]at h;unfold Ez;rw[Va (sz:=1) h]
 case len k x=>
  congr 1;unfold oa;split<;>first|rfl|skip
  rename_i v b;simp only[ik]at h;rw[b]at h;rw[T8 (h (v,bb) (by simp[oP]))]
 case app t sz Q2 x y=>
  simp only[ik]at h;unfold uj;rw[Va (sz:=sz) h.right];split<;>first|rfl|skip
  split<;>first|rfl|skip
  rename_i v g p off len b;rw[b]at h;rw[Qf (h (v,bb) (by simp[oP]))]
 case copy sz x y=>
  simp only[ik]at h;unfold AI;rw[Va (sz:=sz) h.right];split<;>first|rfl|skip
  rename_i v g p off len q n b _;rw[b]at h;rw[Qf (h (v,bb) (by simp[oP]))]
theorem BM(H:gg)(v g:Nat):rowAt H v g=match rowsOf H v with|some (t,g',cs)=>if g'=g then aE (t,cs)else bb|none=>none:=by
 unfold rowAt rowsOf
 cases H[v]? with
 | none=>rfl
 | some o=>cases o<;>rfl
theorem JI:∀(k:Nat) (d:D),(∀v∈iO H1 k d,rowsOf H1 v=rowsOf H2 v)->iO H2 k d=iO H1 k d/\gA (λ_=>bb) H2 k d=gA (λ_=>bb) H1 k d
 | 0,d,_=>⟨rfl,rfl⟩
 | k+1,d,h=>by
  have f:∀(ds:List D),(∀v∈(ds.map (iO H1 k)).flatten,rowsOf H1 v=rowsOf H2 v)->ds.map (iO H2 k)=ds.map (iO H1 k)/\ds.map (gA (λ_=>bb) H2 k)=ds.map (gA (λ_=>bb) H1 k):=by intro ds q;have h1:∀d∈ds,∀v∈iO H1 k d,rowsOf H1 v=rowsOf H2 v:=λd j v c=>q v (bp.2 ⟨_,au.2 ⟨d,j,rfl⟩,c⟩);exact⟨aw λd j=>(JI k d (h1 d j)).1,aw λd j=>(JI k d (h1 d j)).2⟩
  unfold iO at h;unfold iO gA
  by_cases r:closed d=cj
  .grind
  .simp only[if_neg r]at h ⊢
   cases d with
   | agg cs=>obtain⟨a,b⟩:=f cs h;simp only[a,b,and_self]
   | tup cs=>obtain⟨a,b⟩:=f cs h;simp only[a,b,and_self]
   | gH cs=>obtain⟨a,b⟩:=f cs h;simp only[a,b,and_self]
   | sl sz es=>
    have h1:∀e∈es,e.map (iO H2 k)=e.map (iO H1 k)/\e.map (gA (λ_=>bb) H2 k)=e.map (gA (λ_=>bb) H1 k):=λe i=>f e λv c=>h v (bp.2 ⟨_,au.2 ⟨e,i,rfl⟩,c⟩);have a:es.map (λe=>(e.map (iO H2 k)).flatten)=es.map (λe=>(e.map (iO H1 k)).flatten):=aw λe i=>by rw[(h1 e i).1]
    have b:es.map (λx=>x.map (gA (λ_=>bb) H2 k))=es.map (λx=>x.map (gA (λ_=>bb) H1 k)):=aw λe i=>(h1 e i).2;simp only[a,b,and_self]
   | fn g x y=>
    obtain⟨a,b⟩:=f x λv c=>h v (bK _ c);obtain⟨w,s⟩:=f y λv c=>h v (bP _ c);simp only[a,b,w,s,and_self]
   | gh v g sz off len=>
    have c:rowsOf H1 v=rowsOf H2 v:=h v gf;simp only[BM,<-c]
    cases m:rowsOf H1 v with
    | none=>exact⟨rfl,rfl⟩
    | some p=>
     obtain⟨t,o,cs⟩:=p;obtain⟨l,l2⟩:=f cs λu n=>h u (by simp only[m];exact bh _ n);refine⟨by simp only[l],?_⟩
     by_cases hg:o=g
     .grind
     .grind
   | ptr v g off=>
    have c:rowsOf H1 v=rowsOf H2 v:=h v gf;simp only[BM,<-c]
    cases m:rowsOf H1 v with
    | none=>exact⟨rfl,rfl⟩
    | some p=>
     obtain⟨t,o,cs⟩:=p;obtain⟨l,l2⟩:=f cs λu n=>h u (by simp only[m];exact bh _ n);refine⟨by simp only[l],?_⟩
     by_cases hg:o=g
     .grind
     .grind
   | _=>exact⟨rfl,rfl⟩
