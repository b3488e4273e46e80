/- 4 -/
import Derived.Test.YtmehofoficaelaaGreatDoorV03
import Derived.Laws.IdiomRangeMap
import Derived.RangeFuncLeaves
import Derived.OwnWalkIn
set_option linter.all false
open Option renaming some→aE,none→bs,bind_some→hU
open Go.Builtin renaming zeroCells→bb,clear_→e8,append_→jk
open Go renaming leftOf→b4,run_underlying→cc,Value→cp,World→eh,execOp→en,Oper→ep,Program→eB,getObj→eL,grownCap→fp,TypeId→ga,Act→hI,MapEntry→iK,setObj→j',zeroValue→ku,Deferred→kx,eqGuard→kJ
open Go.Result renaming andThen_ok→di
open List renaming replicate→dr,mem_of_getElem?→fx,map_cons→hY,getElem?_eq_getElem→jm,take→lp,map_id'→lz,length→List.l
open Go.Sem renaming run_bind→dx,run→ek,run_pure→gb
open Bool renaming false→er,true→ez
open Go.Instr renaming next→eK,mapEntry→fa,entryStore→iN,keyThatStays→kf,entry→la,range→lb
open Go.Utf8 renaming decode→fb
open Nat renaming le_refl→hh
open Go.Oper renaming semAt_plain→iV
open Int renaming toNat→Int.n
namespace Go.AL
open Go
section
variable{G:GT}{c:Ctx}{H:gd}{w:eh}{ks:nJ}
def AZ(ks:nJ):Prop:=∀(i j:Nat) (p q:Nat×Bool),ks[i]? = aE p->ks[j]? = aE q->p.1=q.1->i=j
theorem TF{i:Nat}{o:Ob}(h:(rD ks H)[i]? = aE o)(d:o≠.dead):∃v a,ks[i]? = aE (v,ez)/\H[v]? = aE a/\o=pI (iR ks) H a:=by
 unfold rD at h;simp only[ax,ao]at h;obtain⟨p,c,b⟩:=h;split at b
 .grind
 .grind
theorem aa0{o:Ob}(h:(pI (iR ks) H o).alive=ez):o.alive=ez/\(pI (iR ks) H o).gen=o.gen:=by cases o<;>simp_all [pI,Ob.alive,Ob.gen]
theorem Ts{v i:Nat}(b:AZ ks)(h:ks[i]? = aE (v,ez)):iR ks v=aE i:=by
 cases a:iR ks v with
 | none=>exact absurd h (aaF a i)
 | some j=>
  have:=aaG a;rw[b i j _ _ h this rfl]
theorem Oi{i:Nat}{L:Loc}(h:lM (c.gw ks H) (rD ks H) i L):∃v,ks[i]? = aE (v,ez)/\lM c H v L:=by obtain⟨o,f,a,b⟩:=h;obtain⟨v,d,h1,g,rfl⟩:=TF f (by intro e;subst e;cases a);obtain⟨k,j⟩:=aa0 a;refine⟨v,h1,d,g,k,?_⟩;rw[j]at b;simpa[Ctx.gw,h1]using b
theorem aak{b:Nat}(h:l3 (c.gw ks H) (rD ks H) b):l3 c H b:=by obtain⟨i,L,hl,a,e⟩:=h;obtain⟨v,_,d⟩:=Oi hl;exact⟨v,L,d,a,e⟩
theorem E8(h:gI G c H w)(T:AZ ks):gI G (c.gw ks H) (rD ks H) w where
 inj i j L M h1 A h3 h4 O:=by obtain⟨v,k1,F⟩:=Oi h1;obtain⟨v',k2,l2⟩:=Oi A;have:=h.inj v v' L M F l2 h3 h4 O;subst this;exact T i j _ _ k1 k2 rfl
 lt b n:=h.lt b (aak n)
 nF b n K:=by
  obtain⟨i,L,hl,q,e⟩:=n;obtain⟨v,k1,F⟩:=Oi hl;rcases K with K|⟨v',M,l2,S,P,W⟩
  .exact h.nF b ⟨v,L,F,q,e⟩ K
  .have:=h.inj v v' L M F l2 q P (e.trans W.symm);subst this;exact aaF S i k1
 kO b n:=by
  rcases n with n|⟨v,L,l,_,q,e⟩
  .exact h.kO b n
  .exact h.lt b ⟨v,L,l,q,e⟩
 out i k hi:=by simp only[rD,List.length_map]at hi;simp[Ctx.gw,cy hi]
 mB i o k ho z:=by
  have I:o≠.dead:=by rintro rfl;rcases z with z|⟨z,_⟩<;>cases z
  obtain⟨v,y,h1,A,rfl⟩:=TF ho I;rcases z with z|⟨V,hg⟩
  .cases y<;>simp[pI]at z
  .obtain⟨D,C⟩:=aa0 V;have:=h.mB v y k A (.inr ⟨D,by rw[<-C];exact hg⟩);simpa[Ctx.gw,h1]using this
 ob i o ho:=by
  by_cases I:o = .dead
  .subst I;simp[ik]
  .obtain⟨v,y,h1,A,rfl⟩:=TF ho I;have h0:=h.ob v y A;have f:(c.gw ks H).ι i y.gen=c.ι v y.gen:=by simp[Ctx.gw,h1]
   have N:∀u d,gj c w u d->gj (c.gw ks H) w u (gw (iR ks) H 40 d):=λu d U=>AG h 40 U
   cases y with
   | dead=>simp[pI,ik]
   | lT=>simp[pI,ik]
   | row t g cs=>
    simp only[pI,Ob.gen]at f ⊢;rw[f];simp only[Ob.gen]at h0
    cases a:c.ι v g with
    | none=>rw[a]at h0;simp[ik]at h0
    | some L=>
     rw[a]at h0;simp only[ik]at h0 ⊢;split
     .grind
     .grind
   | map kk es=>
    simp only[pI,Ob.gen]at f ⊢;rw[f];simp only[Ob.gen]at h0
    cases a:c.ι v 0 with
    | none=>rw[a]at h0;simp[ik]at h0
    | some L=>
     rw[a]at h0;simp only[ik]at h0 ⊢;obtain⟨q,Y,arr,B,D,C,J,E⟩:=h0;refine⟨q,λx R=>?_,arr,B,D,by simpa using C,λj e x O R=>?_,by simpa using E⟩
     .grind
     .grind
   | iu rf env st=>
    simp only[pI,Ob.gen]at f ⊢;rw[f];simp only[Ob.gen]at h0
    cases a:c.ι v 0 with
    | none=>rw[a]at h0;simp[ik]at h0
    | some L=>
     rw[a]at h0;simp only[ik]at h0 ⊢;obtain⟨q,r,D,C,J,E⟩:=h0;refine⟨q,r,D,λk=>?_,J,E⟩
     have key:∀(env:Env) (k:Nat),(Env.get (env.map λx=>(x.1,gw (iR ks) H 40 x.2)) k)=gw (iR ks) H 40 (env.get k):=by
      intro env k
      induction env with
      | nil=>rfl
      | cons p r Q=>
       obtain⟨j,d⟩:=p;simp only[hY,Env.w7];split
       .rfl
       .exact Q
     rw[key];exact N _ _ (C k)
   | sh s p=>
    simp only[pI,Ob.gen]at f ⊢;rw[f];simp only[Ob.gen]at h0
    cases a:c.ι v 0 with
    | none=>rw[a]at h0;simp[ik]at h0
    | some L=>
     rw[a]at h0;simpa only[ik]using h0
   | jo m since seen=>
    simp only[pI,Ob.gen]at f ⊢;rw[f];simp only[Ob.gen]at h0
    cases a:c.ι v 0 with
    | none=>rw[a]at h0;simp[ik]at h0
    | some L=>
     rw[a]at h0;simp only[ik]at h0 ⊢;obtain⟨D,C,X,J,E⟩:=h0;exact⟨D,C,X,N _ _ J,E⟩
   | jH=>
    simp only[pI,Ob.gen]at f ⊢;rw[f];simp only[Ob.gen]at h0
    cases a:c.ι v 0 with
    | none=>rw[a]at h0;simp[ik]at h0
    | some L=>
     rw[a]at h0;simpa only[ik]using h0
 gl g cs hg:=by obtain⟨h1,A⟩:=h.gl g cs hg;exact⟨h1,A.closed (λb n=>Dh n) (by simpa[AL.closed]using h1)⟩
 rt:=h.rt
theorem TJ(h:gI G c H w){n:Nat}(g:∀v,v<n->(ks[v]?).map (·.1)=aE v):Step n c H w (c.gw ks H) (rD ks H) w where
 os:=⟨rfl,hh _⟩
 tape:=rfl
 output:=rfl
 size:=hh _
 RT:=rfl
 Fm b a:=Dh a
 Fn b a:=by
  rcases a with a|⟨v,L,l,_,d,e⟩
  .exact .inl a
  .exact .inr (.inr ⟨v,L,l,d,e⟩)
 kept _ _ _:=rfl
 old v k L d gv:=by have:=g v d;simp only[ao]at this;obtain⟨p,f,e⟩:=this;simp only[Ctx.gw,f,e];exact gv
 own b a:=.inr (aak a)
theorem afo(env:Env)(k:Nat):(Env.get (env.map λx=>(x.1,gw (iR ks) H 40 x.2)) k)=gw (iR ks) H 40 (env.get k):=by
 induction env with
 | nil=>rfl
 | cons p r a=>
  obtain⟨j,d⟩:=p;simp only[hY,Env.w7];split
  .rfl
  .exact a
theorem VV(h:gI G c H w){env:Env}{a:hI}(b:lj c w env.get a):lj (c.gw ks H) w (Env.get (env.map λx=>(x.1,gw (iR ks) H 40 x.2))) a:=λk=>by rw[afo];exact AG h 40 (b k)
theorem afi(live:List Nat)(env:Env)(k:Nat):(forget live env).get k = .any\/(forget live env).get k=env.get k:=by
 unfold forget
 induction live with
 | nil=>exact .inl rfl
 | cons x r a=>
  simp only[hY,Env.w7];split
  .grind
  .exact a
theorem DE{env:Env}{a:hI}(b:lj c w env.get a)(live:List Nat):lj c w (forget live env).get a:=λk=>by
 rcases afi live env k with h|h<;>rw[h]
 .exact .any _
 .exact b k
theorem Iv{x:Nat}:∀ {l:List Nat},x∈dedup l->x∈l
 | [],h=>h
 | y::r,h=>by
  unfold dedup at h;split at h
  .exact bf _ (Iv h)
  .rcases av.1 h with rfl|h
   .grind
   .exact bf _ (Iv h)
theorem MV{x:Nat}:∀ {l:List Nat},x∈l->x∈dedup l
 | y::r,h=>by
  unfold dedup;split
  .rename_i a;rcases av.1 h with rfl|h
   .exact MV a
   .exact MV h
  .rcases av.1 h with rfl|h
   .grind
   .exact bf _ (MV h)
theorem OC:∀(l:List Nat),(dedup l).Nodup
 | []=>List.nodup_nil
 | y::r=>by
  unfold dedup;split
  .exact OC r
  .rename_i a;exact cN.2 ⟨λh=>a (Iv h),OC r⟩
theorem Y5(h:(ks.map (·.1)).Nodup):AZ ks:=by
 intro i j p q f d e;have hi:(ks.map (·.1))[i]? = aE p.1:=by simp[f]
 have a:(ks.map (·.1))[j]? = aE q.1:=by simp[d]
 have b:=(ae.1 hi).1;have c:=(ae.1 a).1;rw[jm b]at hi;rw[jm c]at a;simp only[ar]at hi a;exact(List.getElem_inj h).1 (by rw[hi,a,e])
theorem Y8{n:Nat}{K:List Nat}(g:∀v∈K,n<=v)(c:K.Nodup):AZ (jn n K):=by apply Y5;unfold jn;simp only[List.map_append,b7,eZ,lz];rw[cP];refine⟨fh,c,λa f b d e=>?_⟩;subst e;have:=g a d;simp at f;omega
theorem Y7{n:Nat}{K:List Nat}(v:Nat)(a:v<n):((jn n K)[v]?).map (·.1)=aE v:=by unfold jn;rw[ah (by simpa using a)];simp[a]
theorem WU{S:List Nat}:AZ (mJ H S):=by apply Y5;unfold mJ;simp only[b7,eZ,lz];exact fh
theorem WT{S:List Nat}(v:Nat)(a:v<H.l):((mJ H S)[v]?).map (·.1)=aE v:=by unfold mJ;simp[a]
theorem Qz{S:List Nat}:(rD (mJ H S) H).l=H.l:=by simp[rD,mJ]
end
def MN:Operand->Bool
 | .const (.slice bs 0 0)=>ez
 | _=>er
def Fc(P:eB)(t:ga):Bool:=match P.underlying t with
 | some (.slice _)=>ez
 | _=>er
def s0(P:eB)(G:GT)(o:ep):Option iT:=
 match o.op with
 | .binOp .eql t x y _=>if Fc P t=ez/\MN y=ez then(cX G x).map (.nilS er)else bs
 | .binOp .neq t x y _=>if Fc P t=ez/\MN y=ez then(cX G x).map (.nilS ez)else bs
 | .range t x=>match P.underlying t,cX G x with
  | some .string,aE a=>aE (.rangeS a)
  | some (.map _ _),aE a=>aE (.rangeM a)
  | _,_=>bs
 | .next x ez=>(cX G x).map .nextS
 | .next x er=>(cX G x).map .nextM
 | .entry x=>(cX G x).map .entry
 | .call c=>match c.callee,c.argTypes.toList,c.args.toList with
  | .builtin .cap,[t],[x]=>if Fc P t then(cX G x).map .capE else bs
  | .builtin .clear,[t],[x]=>match P.underlying t with
   | some (.slice e)=>match rH P e,P.info? e,cX G x with
    | some z,aE i,aE a=>if z.l=i.size/\0<i.size then aE (.clr i.size z a)else bs
    | _,_,_=>bs
   | _=>bs
  | .builtin .append,[t,u],[x,y]=>match P.underlying t,P.underlying u with
   | some (.slice e),aE (.int .i64)=>match rH P e,P.info? e,cX G x,cX G y with
    | some z,aE i,aE a,aE b=>if z.l=i.size/\0<i.size then aE (.appZ e i.size i.bytes z a b)else bs
    | _,_,_,_=>bs
   | _,_=>bs
  | _,_,_=>bs
 | .mapEntry t m k=>match P.underlying t with
  | some (.map kt e)=>match uW P kt,Fu P e,cX G m,cX G k with
   | some kk,aE z,aE a,aE b=>aE (.mapEnt kk z a b)
   | _,_,_,_=>bs
  | _=>bs
 | .entryStore _ m s x=>match cX G m,cX G s,cX G x with
  | some a,aE b,aE c=>aE (.entSt a b c)
  | _,_,_=>bs
 | _=>bs
def yK(kv:cp):List (cp×D)->Nat->Option (Nat×D)
 | [],_=>bs
 | (k,d)::r,i=>if nY kv k then aE (i,d)else yK kv r (i+1)
def yJ(a:KK)(z:D)(m k:D)(H:gd):R:=
 match m,keyOf k with
 | .gH v,aE kv=>match lW H v with
  | some (kk,es)=>if kk=a/\kk.has kv=ez then(match yK kv es 0 with
    | some (j,d)=>aE (.tup [d,.i j],.obj v (.map kk (mE es kv d)))
    | none=>aE (.tup [z,.i es.l],.obj v (.map kk (mE es kv z))))else bs
  | none=>bs
 | _,_=>bs
def Bh(m s x:D)(H:gd):R:=
 match m,s with
 | .gH v,.val (.int .i64 n)=>match lW H v with
  | some (kk,es)=>match es[n.n]? with
   | some (k,_)=>if 0<=n then aE (.any,.obj v (.map kk (es.set n.n (k,x))))else bs
   | none=>bs
  | none=>bs
 | _,_=>bs
def OB(neg:Bool):D->Option D
 | .gi=>aE (.b !neg)
 | .sl _ (_::_)=>aE (.b neg)
 | .gf _ _ _ _ (_+1)=>aE (.b neg)
 | _=>bs
def Mj(t sz bytes:Nat)(z:List D)(x n:D)(a:Nat):R:=
 match x,n with
 | .gi,.val (.int .i64 m)=>if 0<m/\rr (m*bytes) 140737488355328/\rr m 9223372036854775807 then aE (.gf a 0 sz 0 m.n,.new (.row t 0 (dr m.n z).flatten))else bs
 | _,_=>bs
def Gl(sz:Nat)(z:List D)(x:D)(H:gd):R:=
 match x with
 | .gi=>aE (.any,.no)
 | .gf v g a off len=>match rowAt H v g with
  | some (t,cs)=>if a=sz/\(off+len)*sz<=cs.l then aE (.any,.obj v (.row t g (cs.take (off*sz)++(dr len z).flatten++cs.drop ((off+len)*sz))))else bs
  | none=>bs
 | _=>bs
def S3(x:D)(H:gd):R:=
 match x with
 | .ptr v 0 0=>match H[v]? with
  | some (.sh s p)=>if p<s.size then aE (.tup [.b ez,.i p,.val (.int .i32 (fb s p).1)],.obj v (.sh s (p+(fb s p).2)))else aE (.tup [.b er],.no)
  | _=>bs
 | _=>bs
def IN(x:D)(H:gd)(a:Nat):R:=
 match x with
 | .gH m=>match lW H m with
  | some (_,es)=>aE (.ptr a 0 0,.new (.jo (.gH m) es.l []))
  | none=>bs
 | _=>bs
def M1(x:D)(H:gd):Option D:=
 match x with
 | .ptr v 0 0=>match H[v]? with
  | some (.jo (.gH m) since seen)=>match lW H m,seen.getLast? with
   | some (_,es),aE i=>match es[i]? with
    | some (k,d)=>if es.l=since then aE (.tup [sM k,d])else bs
    | none=>bs
   | _,_=>bs
  | _=>bs
 | _=>bs
def mH(env:gZ)(H:gd)(n:Nat):iT->R
 | .nilS neg x=>lift (OB neg (ev env x))
 | .capE x=>match ev env x with
  | .gi=>aE (.i 0,.no)
  | _=>bs
 | .appZ t sz bytes z x m=>Mj t sz bytes z (ev env x) (ev env m) n
 | .clr sz z x=>Gl sz z (ev env x) H
 | .rangeS x=>match ev env x with
  | .val (.string s)=>aE (.ptr n 0 0,.new (.sh s 0))
  | _=>bs
 | .nextS x=>S3 (ev env x) H
 | .rangeM x=>IN (ev env x) H n
 | .entry x=>lift (M1 (ev env x) H)
 | .mapEnt kk z m k=>yJ kk z (ev env m) (ev env k) H
 | .entSt m s x=>Bh (ev env m) (ev env s) (ev env x) H
 | _=>bs
def Pg:iT->Bool
 | .nilS .. | .capE .. | .appZ .. | .clr .. | .rangeS .. | .nextS .. | .rangeM .. | .nextM .. | .entry .. | .mapEnt .. | .entSt .. => ez
 | _=>er
def aoc{op:iT}(h:Pg op=ez)(f:gZ)(H:gd)(n:Nat):gW f H n op=none:=by cases op<;>first|(cases h;done)|rfl
def aod{op:iT}(h:Pg op=ez)(f:gZ):kC f op=none:=by cases op<;>first|(cases h;done)|rfl
def P3{P:eB}{G:GT}{o:ep}{a:iT}(h:s0 P G o=aE a):Pg a=true:=by
 unfold s0 at h
 repeat' split at h
 all_goals first|(cases h;done)|(simp only[ao]at h;obtain⟨_,_,rfl⟩:=h;rfl)|(cases h;rfl)
section
variable{P:eB}{G:GT}{c:Ctx}{H:gd}{w:eh}{env:gZ}{a:hI}
abbrev KO(H:gd)(al:Al)(d:D)(δ:Dl):jO:=λd' H'=>d'=d/\H'=δ.app H al
theorem Oz(h:gI G c H w){al:Al}(e:np H al)(o:Obj)(ob:Ob)(hg:ob.gen=0)(i:ob.alive=ez)
  (f:(∀u d,gj c w u d->gj (c.set al.1 0 ⟨w.heap.size,0,0,er⟩) (w.alloc o) u d)->(w.alloc o).heap[w.heap.size]? = aE o->ik (c.set al.1 0 ⟨w.heap.size,0,0,er⟩) (w.alloc o) (aE ⟨w.heap.size,0,0,er⟩) ob) :
  gI G (c.set al.1 0 ⟨w.heap.size,0,0,er⟩) (al.2 ob) (w.alloc o)/\gj (c.set al.1 0 ⟨w.heap.size,0,0,er⟩) (w.alloc o) (.pointer (aE ⟨w.heap.size,0,bs⟩)) (.ptr al.1 0 0) /\
   Step H.l c H w (c.set al.1 0 ⟨w.heap.size,0,0,er⟩) (al.2 ob) (w.alloc o):=by
 have b:(⟨w.heap.size,0,0,er⟩:Loc).jN=er->w.heap.size<=(⟨w.heap.size,0,0,er⟩:Loc).b/\(⟨w.heap.size,0,0,er⟩:Loc).b<(w.alloc o).heap.size:=λ_=>⟨hh _,fZ⟩;have a:=(e ob).uv;have hs:=Pp h a (ko.alloc w o) ⟨w.heap.size,0,0,er⟩ b;rw[hg]at hs;have h1:=TV h a (ko.alloc w o) ⟨w.heap.size,0,0,er⟩ b i (by rw[hg];exact f (λu d g=>g.p8 h.toHeapOK hs) (heap_alloc_new w o));rw[hg]at h1;exact⟨h1,.ptr (c:=c.set al.1 0 ⟨w.heap.size,0,0,er⟩) al.1 0 0 ⟨w.heap.size,0,0,er⟩ (Ctx.sP _ _ _ _) rfl,hs⟩
theorem Z8(h:gI G c H w){t:ga}(f:Fc P t=ez){neg:Bool}{x d:D}{u:cp}(i:gj c w u x)(a:OB neg x=aE d)(xo k:Operand) :
  ∃r,(do kJ (if neg then .neq else .eql) t xo k u (.slice bs 0 0);binOp (if neg then .neq else .eql) t u (.slice bs 0 0)).run P w = .ok r w/\gj c w r d:=by
 have v:∃e,P.underlying t=aE (.slice e):=by
  unfold Fc at f;split at f
  .exact⟨_,jZ⟩
  .cases f
 obtain⟨e,s⟩:=v
 have j:∀(n:Nat) (ad:Option Addr) (len cap:Nat),(Op.equalIn (n+1) t (.slice ad len cap) (.slice bs 0 0)).run P w = .ok ad.isNone w:=by intro n ad len cap;cases ad<;>simp[Op.equalIn,cc s]
 have o:∀ad len cap,Op.equal t (.slice ad len cap) (.slice bs 0 0)=Op.equalIn (9999+1) t (.slice ad len cap) (.slice bs 0 0):=λ_ _ _=>rfl
 have key:∀(ad:Option Addr) (len cap:Nat),u = .slice ad len cap->(do kJ (if neg then .neq else .eql) t xo k u (.slice bs 0 0);binOp (if neg then .neq else .eql) t u (.slice bs 0 0)).run P w = .ok (.bool (if neg then !ad.isNone else ad.isNone)) w:=by rintro ad len cap rfl;have h1:=j 9999 ad len cap;cases neg<;>simp only[kJ,binOp,o,bC,if_false,if_true,dx,Bool.not_true,gb,di,h1]
 unfold OB at a;split at a
 .cases a;cases i;exact⟨_,key bs 0 0 rfl,by cases neg<;>exact .val _⟩
 .cases a
  cases i with
  | sl ad len cap sz es g b m p z l B E=>
   have:ad≠none:=λe=>by have:=l e;simp at b;omega
   obtain⟨q,rfl⟩:=Option.ne_none_iff_exists'.1 this;exact⟨_,key _ _ _ rfl,by cases neg<;>exact .val _⟩
 .cases a
  cases i with
  | gf _ _ _ _ _ cap L C A m p y=>exact⟨_,key _ _ _ rfl,by cases neg<;>exact .val _⟩
 .cases a
theorem al1(h:gI G c H w){v g o:Nat}{a:ga}{cs xs:List D}(l:H[v]? = aE (.row a g cs)){L:Loc}(n:c.ι v g=aE L)(j:L.jN=er){vs:List cp}(f:Cells c w vs xs)
  (C:o+xs.l<=cs.l):∃w',(storeCells ⟨L.b,L.base+o,bs⟩ vs).run P w = .ok () w'/\gI G c (H.set v (.row a g (cs.take o++xs++cs.drop (o+xs.l)))) w'/\Step H.l c H w c (H.set v (.row a g (cs.take o++xs++cs.drop (o+xs.l)))) w':=by
 obtain⟨arr,h1,x,E,u⟩:=yU h l n j;have q:vs.l=xs.l:=f.len;have p:=run_storeCells_at P L.b (L.base+o) a vs 0 arr w h1 gL f.one;simp only[cA]at p
 have k:=Ft h l n j h1 (arr.toList.take (L.base+o)++vs++arr.toList.drop (L.base+o+vs.l)).toArray
  gL x (cs.take o++xs++cs.drop (o+xs.l)) gL (λi d m=>by
   have A:=u.sQ f o;obtain⟨y,r,t,s⟩:=A.get m;refine⟨y,?_,t,s⟩;rw[<-r];simp only[dy];have b:(lp (L.base+o) arr.toList).l=L.base+o:=gL;have e:(lp o (lp cs.l (List.drop L.base arr.toList))).l=o:=gL
   by_cases z:i<o
   .rw[ah gL,ah (by rw[b];omega),ah gL,ah (by rw[e];omega)];simp only[aG,aK];rw[if_pos U,if_pos z,if_pos U]
   .by_cases c2:i<o+xs.l
    .rw[ah gL,ak (by rw[b];omega),ah gL,ak (by rw[e];omega),b,e];congr 1;omega
    .have B:i<cs.l:=by have:=(ae.1 m).1;simp at this;omega
     rw[ak gL,ak gL];simp only[aK,aG,aq,b,e,q];rw[if_pos U];congr 1
     omega)
 exact⟨_,p,k.1,k.2⟩
theorem al2(h:gI G c H w){al:Al}{t e ty:ga}{i:TypeInfo}{z:List D}(l:P.underlying t=aE (.slice e))(hi:P.info? e=aE i)(M:rH P e=aE z)(A:z.l=i.size)(S:0<i.size)
  {x d:D} {δ:Dl} {u:cp} (r:gj c w u x) (a:Gl i.size z x H=aE (d,δ)):∃w',(e8 #[t] ty #[u]).run P w = .ok (.tuple #[]) w'/\ju G c H w (KO H al d δ) (.tuple #[]) w':=by
 unfold Gl at a;split at a
 .cases a;cases r;exact⟨w,by simp[e8,cc l],_,_,c,⟨rfl,rfl⟩,h,.any _,Step.refl _ _ _ _⟩
 .rename_i v g V off len;split at a
  .rename_i f cs J;split at a
   .rename_i I;obtain⟨rfl,E⟩:=I;cases a;have k:=uo J;dsimp only at k;obtain⟨b,B,X,p⟩:=AO M w;have Q:b.cells.size=i.size:=by have:=(p c w).len;simp at this;omega
    have n:(Dl.obj v (.row f g (cs.take (off*i.size)++(dr len z).flatten++cs.drop ((off+len)*i.size)))).app H al=H.set v (.row f g (cs.take (off*i.size)++(dr len z).flatten++cs.drop ((off+len)*i.size))):=rfl;have q:(dr len z).flatten.l=len*i.size:=by simp[A]
    have m:(.row f g (cs.take (off*i.size)++(dr 0 z).flatten++cs.drop ((off+0)*i.size)))=Ob.row f g cs:=fZ
    have j:H.set v (.row f g cs)=H:=by have N:=(ae.1 k).1;have F:=(ae.1 k).2;rw[<-F];exact eA N
    cases r with
    | gf _ _ _ _ _ cap L y K T W R=>
     by_cases s:len=0
     .subst s;refine⟨w,by simp[e8,cc l],_,_,c,⟨rfl,rfl⟩,?_,.any _,?_⟩
      .rw[n,m,j];exact h
      .rw[n,m,j];exact Step.refl _ _ _ _
     .have C:Cells c w (bb b.cells len).toList (dr len z).flatten:=by
       have h1:(bb b.cells len).toList=(dr len b.cells.toList).flatten:=by unfold bb;exact OR b.cells len U
       rw[h1];exact Ng _ _ p len
      obtain⟨w',k1,k2,k3⟩:=al1 (P:=P) (o:=off*i.size) h k y K C (by rw[q,<-bq];exact E);rw[q,<-bq]at k2 k3;refine⟨w',?_,_,_,c,⟨rfl,rfl⟩,k2,.any _,k3⟩;obtain⟨O,rfl⟩:=Nat.exists_eq_succ_of_ne_zero s;simp[e8,cc l,B,k1]
    | lB _ _ _ _ L y ad=>
     refine⟨w,by cases ad<;>simp[e8,cc l],_,_,c,⟨rfl,rfl⟩,?_,.any _,?_⟩
     .rw[n,m,j];exact h
     .rw[n,m,j];exact Step.refl _ _ _ _
   .cases a
  .cases a
 .cases a
theorem alU(h:gI G c H w){al:Al}(R:np H al){t u ty e:ga}{i:TypeInfo}{z:List D}(W:P.underlying t=aE (.slice e))(V:P.underlying u=aE (.int .i64))(hi:P.info? e=aE i)(T:rH P e=aE z)(yB:z.l=i.size)(O:0<i.size)
  {x y d:D} {δ:Dl} {A v:cp} (h1:gj c w A x) (Y:gj c w v y) (b:Mj e i.size i.bytes z x y al.1=aE (d,δ)) :
  ∃r w',(jk #[t,u] ty #[A,v]).run P w = .ok r w'/\ju G c H w (KO H al d δ) r w':=by
 unfold Mj at b;split at b
 .rename_i m;split at b
  .rename_i Q;cases b;cases h1;cases Y;obtain⟨a,v8,N5,B⟩:=AO T w;have EG:i.zero=aE a:=by simpa[hi]using N5
   have I:a.cells.size=i.size:=by have:=(B c w).len;simp at this;omega
   obtain⟨n,rfl⟩:∃n:Nat,m=n:=⟨m.n,U⟩;obtain⟨vQ,f,F⟩:=Q;simp only[rr]at f F;have E:0<n:=U
   have o:n*i.bytes<=140737488355328:=by
    have h1:((n*i.bytes:Nat):Int)<=140737488355328:=by rw[Int.natCast_mul];exact f
    omega
   have Xc:n<=9223372036854775807:=U;have J:=grownCap_ge w n 0 e;have N:=grownCap_le_maxLen w n 0 e (by unfold maxLen;omega);have wn:IntKind.i64.wrap (n:Int)=n:=wrap_i64 (by unfold nX;omega)
   have S:(jk #[t,u] ty #[.slice bs 0 0,.int .i64 n]).run P w = .ok (.slice (aE ⟨w.heap.size,0,bs⟩) n (fp w n 0 e))
     (w.drew.alloc (.cells (bb a.cells n++bb a.cells (fp w n 0 e-n)) e)):=by
    have j:¬(n=0):=U;have p:∀w:eh,(asInt (.int .i64 (n:Int))).run P w = .ok (n:Int) w:=λw=>by simp[asInt,asIntOf]
    have k:¬((n:Int)<=0):=U;have M:max (n:Int) 0=n:=U;have X:(n:Int).n=n:=U;have g:¬(i.size=0):=U;have s:¬((n:Int)<0):=U;have l:¬(281474976710656<(n:Int)*(i.bytes:Int)):=by have:(n:Int)*(i.bytes:Int)<=140737488355328:=f;omega
    have QR:¬(281474976710656<Builtin.nextslicecap n 0*i.bytes):=by have:=growslice_fits (old:=0) E o;omega
    have q:¬(9223372036854775807<(n:Int)):=U;simp[jk,cc W,cc V,sizeOf,typeInfo,ku,hi,EG,p,wn,s,l,j,g,QR,q,k,M,Question.forced,newRow,fp,run_firstCells_none];intro h0;exact absurd h0 (Nat.ne_of_gt (Nat.mul_pos E O))
   refine⟨_,_,S,?_⟩
   have K:Cells c w (bb a.cells n).toList (dr n z).flatten:=by
    have h1:(bb a.cells n).toList=(dr n a.cells.toList).flatten:=by unfold bb;exact OR a.cells n U
    rw[h1];exact Ng _ _ B n
   have g:(bb a.cells n++bb a.cells (fp w n 0 e-n)).size=fp w n 0 e*i.size:=by simp only[cF,size_zeroCells,I,<-bq];congr 1;omega
   obtain⟨L,e1,e2,e3,e4,e5,Z⟩:=ES h w.drew (ko.drew w) e _ (dr n z).flatten (bb a.cells n).size (bb a.cells n++bb a.cells (fp w n 0 e-n)) (R _).uv K (by
    simp only[dm]
    exact List.take_left' fZ) (by simp only[cF];omega)
   have C:=IF (c:=c) (w:=w.drew.alloc (.cells (bb a.cells n++bb a.cells (fp w n 0 e-n)) e)) e1 e3 al.1 0 i.size n (fp w n 0 e) (by rw[e4,g]) J N;rw[e2]at C;exact⟨_,_,_,⟨rfl,rfl⟩,e5,C,Z⟩
  .cases b
 .cases b
theorem aml(h:gI G c H w){al:Al}{x d:D}{δ:Dl}{u:cp}{ty:ga}(o:gj c w u x)(f:S3 x H=aE (d,δ)):∃r w',(eK u ez ty).run P w = .ok r w'/\ju G c H w (KO H al d δ) r w':=by
 unfold S3 at f;split at f
 .rename_i v;split at f
  .rename_i s p a
   cases o with
   | ptr _ _ _ L m l=>
    have g:=h.ob v _ a;simp only[Ob.gen]at g;rw[m]at g;simp only[ik]at g;obtain⟨_,k,e⟩:=g;have q:=(aQ.1 e).1;rw[k]
    by_cases j:p<s.size
    .rw[if_pos j]at f;cases f
     obtain⟨m1,m2⟩:=AU h a rfl rfl (ob':=.sh s (p+(fb s p).2)) rfl m l (.stringIter s (p+(fb s p).2)) (λw' n _=>by simp only[ik];exact⟨l,k,n⟩)
     refine⟨.tuple #[.bool ez,goInt p,.int .i32 (fb s p).1],_,?_,_,_,c,⟨rfl,rfl⟩,m1,?_,m2⟩
     .simp[eK,eL,j',ek,e,j]
     .refine .tup [.bool ez,goInt p,.int .i32 (fb s p).1] _ rfl λi v d a b=>?_
      match i,a,b with
      | 0,a,b=>cases a;cases b;exact .val _
      | 1,a,b=>cases a;cases b;exact .val _
      | 2,a,b=>cases a;cases b;exact .val _
    .rw[if_neg j]at f;cases f;refine⟨.tuple #[.bool er],w,?_,_,_,c,⟨rfl,rfl⟩,h,?_,Step.refl _ _ _ _⟩
     .simp[eK,eL,ek,e,j]
     .refine .tup [.bool er] _ rfl λi v d a b=>?_
      match i,a,b with
      | 0,a,b=>cases a;cases b;exact .val _
  .cases f
 .cases f
theorem al6(h:gI G c H w){x d:D}{u:cp}(F:gj c w u x)(a:M1 x H=aE d):∃r,(la u).run P w = .ok r w/\gj c w r d:=by
 unfold M1 at a;split at a
 .rename_i v;split at a
  .rename_i m since seen b;split at a
   .rename_i kk es i I S;split at a
    .rename_i k d0 t;split at a
     .rename_i g;cases a;have A:=uc I;dsimp only at A
      cases F with
      | ptr _ _ _ L K T=>
       have p:=h.ob v _ b;simp only[Ob.gen]at p;rw[K]at p;simp only[ik]at p;obtain⟨_,C,V,Q,n⟩:=p
       cases Q with
       | gH _ X R W=>
        have o:=h.ob m _ A;simp only[Ob.gen]at o;rw[R]at o;simp only[ik]at o;obtain⟨_,B,arr,f,O,z,y,N⟩:=o;have hi:i<arr.size:=by rw[z];exact(ae.1 t).1
        have M:arr[i]? = aE arr[i]:=by simp[hi]
        obtain⟨q1,q2,q3⟩:=y i _ _ M t;have s:seen.toArray.back? = aE i:=by simpa[Array.back?_eq_getElem?,List.getLast?_eq_getElem?]using S
        have q:arr.find? (λe=>e.born == i)=aE arr[i]:=by
         rw[Array.find?_eq_some_iff_getElem];refine⟨by simp[q3],i,hi,rfl,λj U=>?_⟩;have E:j<es.l:=by rw[<-z];omega
         have:=(y j arr[j] es[j] fZ (by simp[E])).2.2;simp[this]
         try omega
        refine⟨.tuple #[k,arr[i].val],?_,?_⟩
        .rw[C];have J:f=since:=by rw[N,g]
         subst J;simp only[aR];simp only[la,eL,dx,ek,n,di,s,O,q];simp[q1]
        .refine .tup [k,arr[i].val] _ rfl λj v d b l=>?_
         match j,b,l with
         | 0,b,l=>cases b;cases l;exact aaC (B _ (fx t))
         | 1,b,l=>cases b;cases l;exact q2
     .cases a
    .cases a
   .cases a
  .cases a
 .cases a
theorem amo(h:gI G c H w){al:Al}(n:np H al){t:ga}{k e:ga}(o:P.underlying t=aE (.map k e)){x d:D}{δ:Dl}{u:cp}(p:gj c w u x)(b:IN x H al.1=aE (d,δ)) :
  ∃r w',(lb t u).run P w = .ok r w'/\ju G c H w (KO H al d δ) r w':=by
 unfold IN at b;split at b
 .rename_i m;split at b
  .rename_i kk es q;cases b;have j:=uc q;dsimp only at j
   cases p with
   | gH _ g i v=>
    have f:=h.ob m _ j;simp only[Ob.gen]at f;rw[i]at f;simp only[ik]at f;obtain⟨_,_,arr,a,z,B,A,y⟩:=f
    obtain⟨k1,k2,k3⟩:=Oz h n (.mapIter (aE g.b) a #[] a) (.jo (.gH m) es.l []) rfl rfl (λl s=>by
     simp only[ik];refine⟨trivial,trivial,g.b,l _ _ (.gH m g i v),?_⟩
     rw[<-y];exact s)
    exact⟨_,_,run_range_map w t k e g.b arr a o z,_,_,_,⟨rfl,rfl⟩,k1,k2,k3⟩
  .cases b
 .cases b
theorem WD{kv:cp}:∀ {l:List iK} {i n:Nat} {v:cp},oh kv l i=aE (n,v)->i<=n
 | [],_,_,_,h=>by cases h
 | a::l,i,n,v,h=>by
  unfold oh at h;split at h
  .cases h;exact hh _
  .have:=WD h;omega
theorem WE{kv:cp}:∀ {l:List iK} {i j:Nat} {v:cp} {e:iK},oh kv l i=aE (i+j,v)->l[j]? = aE e->e.val=v
 | [],_,_,_,_,h,_=>by cases h
 | a::l,i,j,v,e,h,he=>by
  unfold oh at h;split at h
  .simp only[ar,dD]at h;obtain⟨h1,rfl⟩:=h;have:j=0:=U;subst this;cases he;rfl
  .cases j with
   | zero=>exact absurd (WD h) U
   | succ j=>exact WE (i:=i+1) (j:=j) (by rw[h];congr 2;omega) he
theorem ZF(kv:cp):∀(l:List iK) (es:List (cp×D)) (i:Nat),l.l=es.l ->
  (∀(j:Nat) (e:iK) (x:cp×D),l[j]? = aE e->es[j]? = aE x->e.key=x.1/\gj c w e.val x.2) ->
  (oh kv l i=bs/\yK kv es i=bs)\/∃j v d,oh kv l i=aE (i+j,v)/\yK kv es i=aE (i+j,d)/\gj c w v d
 | [],[],i,_,_=>.inl ⟨rfl,rfl⟩
 | e::l,(k,d)::es,i,hl,h=>by
  obtain⟨b,m⟩:=h 0 e (k,d) rfl rfl;dsimp only at b m
  by_cases a:nY kv e.key=ez
  .exact .inr ⟨0,e.val,d,by simp[oh,a],by simp[yK,<-b,a],m⟩
  .have g:nY kv k=false:=by rw[<-b];simpa using a
   rcases ZF kv l es (i+1) (by simpa using hl) (λj e x a n=>h (j+1) e x (by simpa using a) (by simpa using n))with⟨h1,f⟩|⟨j,v,d',h1,f,o⟩
   .exact .inl ⟨by simp[oh,a,h1],by simp[yK,g,f]⟩
   .exact .inr ⟨j+1,v,d',by simp[oh,a,h1];omega,by simp[yK,g,f];omega,o⟩
theorem amh(h:gI G c H w){al:Al}{t k e:ga}{kk:KK}{z:D}(hu:P.underlying t=aE (.map k e))(W:uW P k=aE kk)(F:Fu P e=aE z){m x d:D}{δ:Dl}{u v:cp}(h1:gj c w u m)(h2:gj c w v x)
  (y:yJ kk z m x H=aE (d,δ)):∃r w',(fa t u v).run P w = .ok r w'/\ju G c H w (KO H al d δ) r w':=by
 have RQ:(kk = .str\/kk = .bool\/∃k,kk = .int k)\/∃l,kk = .ints l:=by
  obtain⟨d,_,hc⟩:=Px W;rcases hc with⟨k,_,rfl⟩|⟨_,rfl⟩|⟨_,rfl⟩|⟨_,l,_,rfl,_⟩
  .exact .inl (.inr (.inr ⟨k,rfl⟩))
  .exact .inl (.inl rfl)
  .exact .inl (.inr (.inl rfl))
  .exact .inr ⟨l,rfl⟩
 obtain⟨C,v8,H6⟩:∃C,(ku e).run P w = .ok C w/\gj c w C z:=by
  unfold Fu at F
  cases hi:P.info? e with
  | none=>simp[hi]at F
  | some i=>
   simp only[hi,hU]at F
   cases Ca:i.zero with
   | none=>simp[Ca]at F
   | some C=>
    simp only[Ca,hU]at F;exact⟨C,by simp[ku,run_typeInfo hi,Ca],Tp F⟩
 unfold yJ at y;split at y
 .rename_i v0 kv Hv;split at y
  .rename_i K es Y;split at y
   .rename_i jC;obtain⟨rfl,J⟩:=jC;have o:=Ss h2 Hv;subst o
    cases h1 with
    | gH _ L gv N=>
     have M:=h.ob v0 _ (uc Y);simp only[Ob.gen]at M;rw[gv]at M;simp only[ik]at M;obtain⟨_,tN,arr,f,hm,g⟩:=M;have Ha:=SM g tN;have BQ:=run_findKey W J arr.toList Ha w;have sB:=run_checkKey (w:=w) W er J;have ri:(eL L.b).run P w = .ok (.map arr f) w:=by simp[eL,ek,hm]
     have Ht:∀y',∀x∈mE es v y',K.has x.1=true:=λy' x n=>by
      rcases ZG x n with h|rfl
      .exact tN x h
      .exact J
     have X:∀(j:Nat) (e:iK) (x:cp×D),arr.toList[j]? = aE e->es[j]? = aE x->e.key=x.1/\gj c w e.val x.2:=λj e x s n=>let ⟨a,b,_⟩:=g.2.1 j e x (by simpa using s) n;⟨a,b⟩
     have A:arr.toList.l=es.l:=by simpa using g.1
     rcases ZF (c:=c) (w:=w) v arr.toList es 0 A X with⟨O,g2⟩|⟨j0,Q,d0,O,g2,g3⟩
     .rw[g2]at y;cases y;rcases GJ (c:=c) (w:=w) v arr.toList es 0 A X with⟨f1,f2,f3⟩|⟨j,val,d,f1,f2,_⟩
      .have Z:(fa t (.map (aE L.b)) v).run P w = .ok (.tuple #[C,goInt f]) { w with heap:=w.heap.setIfInBounds L.b (.map (arr.push { key:=v,val:=C,born:=f }) (f+1)) }:=by simp only[fa,dx,cc hu,di,ri,sB,BQ,f1,v8];simp[j',ek,hm]
       obtain⟨m1,m2⟩:=AU h (uc Y) rfl rfl rfl gv N (.map (arr.push { key:=v,val:=C,born:=f }) (f+1)) (ob':=.map K (mE es v z)) (by
        intro w' V I;simp only[ik];refine⟨N,Ht z,_,_,V,?_⟩;rw[f3];refine⟨by simp[g.1],λi e x s n=>?_,by simp[g.2.2]⟩;rw[eH]at s;split at s
        .rename_i hi;cases s;rw[ak (by rw[hi,g.1];exact hh _),hi,g.1]at n;simp at n;subst n;exact⟨rfl,I _ _ H6,by rw[hi,g.1,g.2.2]⟩
        .have hi:i<es.l:=by rw[<-g.1];exact(aQ.1 s).1
         rw[ah hi]at n;obtain⟨p,q,r⟩:=g.2.1 i e x s n
         exact⟨p,I _ _ q,r⟩)
       refine⟨_,_,Z,_,_,c,⟨rfl,rfl⟩,m1,.tup [C,goInt f] _ rfl (λi v d o B=>?_),m2⟩
       match i,o,B with
       | 0,o,B=>cases o;cases B;exact H6.p8 h.toHeapOK m2
       | 1,o,B=>cases o;cases B;rw[g.2.2];exact .val _
      .rw[O]at f1;cases f1
     .rw[g2]at y;cases y;rcases GJ (c:=c) (w:=w) v arr.toList es 0 A X with⟨f1,f2,f3⟩|⟨j,val,d,f1,f2,_,f4,f5,E,f6,f7⟩
      .rw[O]at f1;cases f1
      .have R:0+j0=0+j/\Q=val:=by rw[O]at f1;simp only[ar,dD]at f1;exact f1
       obtain⟨R,rfl⟩:=R;have R:j0=j:=U;subst R;have nD:j0<arr.size:=by simpa using f4
       have T:arr[j0]? = aE E:=by simpa using f6
       have RA:K.has E.key=true:=Ha E (fx f6)
       have R3:(kf E.key v).run P w = .ok v w:=by simp[kf,aaX RQ J RA f7]
       have X3:j0<es.l:=by rw[<-g.1];exact nD
       have S:E.val=Q/\E.born=j0:=by refine⟨?_,(g.2.1 j0 E es[j0] T (by simp[X3])).2.2⟩;exact WE (kv:=v) (i:=0) f1 f6
       have Z:(fa t (.map (aE L.b)) v).run P w = .ok (.tuple #[Q,goInt (j0:Nat)]) { w with heap:=w.heap.setIfInBounds L.b (.map (arr.modify j0 λe=>{ e with key:=v }) f) }:=by simp only[fa,dx,cc hu,di,ri,sB,BQ,f1,aR,T,aH,aZ,R3,S.2];simp[j',ek,hm]
       obtain⟨m1,m2⟩:=AU h (uc Y) rfl rfl rfl gv N (.map (arr.modify j0 λe=>{ e with key:=v }) f) (ob':=.map K (mE es v d0)) (by
        intro w' V I;simp only[ik];refine⟨N,Ht d0,_,_,V,?_⟩;rw[f5];refine⟨by simp[g.1],λi e x s n=>?_,by simp[g.2.2]⟩;rw[bh]at s;rw[bT]at n;split at s
        .rename_i hi;subst hi;rw[if_pos rfl,if_pos X3]at n;simp only[ao]at s;obtain⟨e0,h0,rfl⟩:=s;cases n;rw[T]at h0;cases h0;exact⟨rfl,I _ _ (by rw[S.1];exact g3),S.2⟩
        .rename_i hi;rw[if_neg hi]at n;obtain⟨p,q,r⟩:=g.2.1 i e x s n
         exact⟨p,I _ _ q,r⟩)
       refine⟨_,_,Z,_,_,c,⟨rfl,rfl⟩,m1,.tup [Q,goInt (j0:Nat)] _ rfl (λi v d o B=>?_),m2⟩
       match i,o,B with
       | 0,o,B=>cases o;cases B;exact g3.p8 h.toHeapOK m2
       | 1,o,B=>cases o;cases B;rw[aR];exact .val _
   .cases y
  .cases y
 .cases y
theorem al5(h:gI G c H w){al:Al}{t:ga}{m s x d:D}{δ:Dl}{u v k:cp}(h1:gj c w u m)(U:gj c w v s)(T:gj c w k x)
  (b:Bh m s x H=aE (d,δ)):∃w',(iN t u v k).run P w = .ok () w'/\ju G c H w (KO H al d δ) undef w':=by
 unfold Bh at b;split at b
 .rename_i v0 n;split at b
  .rename_i kk es E;split at b
   .rename_i C W hg;split at b
    .rename_i S;cases b;cases U
     cases h1 with
     | gH _ L K F=>
      have o:=h.ob v0 _ (uc E);simp only[Ob.gen]at o;rw[K]at o;simp only[ik]at o;obtain⟨_,B,arr,a,J,g⟩:=o;have z:n.n<es.l:=(ae.1 hg).1;have M:n.n<arr.size:=by rw[g.1];exact z
      have A:arr.findIdx? (λe=>(e.born:Int) == n)=aE n.n:=by
       rw[Array.findIdx?_eq_some_iff_getElem];refine⟨M,?_,λj Y=>?_⟩
       .have:=(g.2.1 n.n arr[n.n] es[n.n] (by simp[M]) (by simp[z])).2.2;rw[this];have e:((n.n:Nat):Int)=n:=cd S;rw[e];simp
       .have Q:j<es.l:=by omega
        have:=(g.2.1 j arr[j] es[j] fZ (by simp[Q])).2.2;rw[this];simp;omega
      have O:(eL L.b).run P w = .ok (.map arr a) w:=by simp[eL,ek,J]
      have X:(asInt (.int .i64 n)).run P w = .ok n w:=by simp[asInt,asIntOf]
      have R:(iN t (.map (aE L.b)) (.int .i64 n) k).run P w = .ok () { w with heap:=w.heap.setIfInBounds L.b (.map (arr.modify n.n λe=>{ e with val:=k }) a) }:=by simp only[iN,dx,di,O,X,A];simp[j',ek,J]
      obtain⟨m1,m2⟩:=AU h (uc E) rfl rfl rfl K F (.map (arr.modify n.n λe=>{ e with val:=k }) a) (ob':=.map kk (es.set n.n (C,x))) (by
       intro w' N I;simp only[ik];refine⟨F,λy f=>?_,_,_,N,?_⟩
       .rcases dK f with f|rfl
        .exact B y f
        .exact B (C,W) (fx hg)
       refine⟨by simp[g.1],λi e y l f=>?_,by simp[g.2.2]⟩;rw[bh]at l;rw[bT]at f;split at l
       .rename_i hi;subst hi;rw[if_pos rfl,if_pos z]at f;cases f;simp only[ao]at l;obtain⟨V,h0,rfl⟩:=l;obtain⟨p,q,r⟩:=g.2.1 _ V _ h0 hg;exact⟨p,I _ _ T,r⟩
       .rename_i hi;rw[if_neg hi]at f;obtain⟨p,q,r⟩:=g.2.1 i e y l f
        exact⟨p,I _ _ q,r⟩)
      exact⟨_,R,_,_,c,⟨rfl,rfl⟩,m1,.any _,m2⟩
    .cases b
   .cases b
  .cases b
 .cases b
theorem anZ(h:gI G c H w)(l:lj c w env a){al:Al}(L:np H al){o:ep}{R:iT}(b:s0 P G o=aE R){d:D}{δ:Dl}(g:mH env H al.1 R=aE (d,δ)) :
  ∃v w',Dn ((en a.eval o).run P w) v w'/\ju G c H w (KO H al d δ) v w':=by
 have plain:∀ {v:cp} {d:D},gj c w v d->ju G c H w (KO H al d .no) v w:=λq=>⟨_,_,c,⟨rfl,rfl⟩,h,q,Step.refl _ _ _ _⟩;unfold s0 at b;split at b
 .rename_i t x y ty f;split at b
  .rename_i n;simp only[ao]at b;obtain⟨X,hX,rfl⟩:=b
   have M:y = .const (.slice bs 0 0):=by
    have:=n.2;unfold MN at this;split at this
    .rfl
    .cases this
   subst M;obtain⟨C,rfl⟩:=mD g;obtain⟨r,h1,j⟩:=Z8 h n.1 (iU h l hX) C x (.const (.slice bs 0 0));exact⟨r,w,by simp only[en,f];exact jR h1,plain j⟩
  .cases b
 .rename_i t x y ty f;split at b
  .rename_i n;simp only[ao]at b;obtain⟨X,hX,rfl⟩:=b
   have M:y = .const (.slice bs 0 0):=by
    have:=n.2;unfold MN at this;split at this
    .rfl
    .cases this
   subst M;obtain⟨C,rfl⟩:=mD g;obtain⟨r,h1,j⟩:=Z8 h n.1 (iU h l hX) C x (.const (.slice bs 0 0));exact⟨r,w,by simp only[en,f];exact jR h1,plain j⟩
  .cases b
 .rename_i t x f;split at b
  .rename_i X p hX;cases b;simp only[mH]at g;split at g
   .rename_i s hs;cases g;have q:=iU h l hX;rw[hs]at q;generalize Q:a.eval x=u at q;cases q;obtain⟨k1,k2,k3⟩:=Oz h L (.stringIter s 0) (.sh s 0) rfl rfl (λ_ U=>by simp only[ik];exact⟨trivial,trivial,U⟩);refine⟨_,_,by simp only[en,f,Q];exact jR (v:=.pointer (aE ⟨w.heap.size,0,bs⟩)) (w':=w.alloc (.stringIter s 0)) (by simp[lb,cc p]),_,_,_,⟨rfl,rfl⟩,k1,k2,k3⟩
   .cases g
  .rename_i k e X p hX;cases b;obtain⟨r,w',h1,j⟩:=amo (P:=P) h L p (iU h l hX) g;exact⟨r,w',by simp only[en,f];exact jR h1,j⟩
  .cases b
 .rename_i x f;simp only[ao]at b;obtain⟨X,hX,rfl⟩:=b;obtain⟨r,w',h1,j⟩:=aml (P:=P) (ty:=o.type) h (iU h l hX) g;exact⟨r,w',by simp only[en,f];exact jR h1,j⟩
 .simp only[ao]at b;obtain⟨X,hX,rfl⟩:=b;cases g
 .rename_i x f;simp only[ao]at b;obtain⟨X,hX,rfl⟩:=b;obtain⟨C,rfl⟩:=mD g;obtain⟨r,h1,j⟩:=al6 (P:=P) h (iU h l hX) C;exact⟨r,w,by simp only[en,f];exact jR h1,plain j⟩
 .rename_i cl f;split at b
  .rename_i t x F E B;split at b
   .rename_i O;simp only[ao]at b;obtain⟨X,hX,rfl⟩:=b;have A:cl.argTypes = #[t]:=by rw[<-bM (xs:=cl.argTypes),E]
    have K:cl.args = #[x]:=by rw[<-bM (xs:=cl.args),B]
    have q:=iU h l hX;simp only[mH]at g;split at g
    .rename_i S;cases g;rw[S]at q;generalize Q:a.eval x=u at q;cases q
     have W:∃e,P.underlying t=aE (.slice e):=by
      unfold Fc at O;split at O
      .exact⟨_,jZ⟩
      .cases O
     obtain⟨e,p⟩:=W;refine⟨.int .i64 0,w,by rw[xD f F,A,K];exact jR (by simp[Q,Builtin.cap_,cc p,goInt]),plain (.val _)⟩
    .cases g
   .cases b
  .rename_i t x F E B;have A:cl.argTypes = #[t]:=by rw[<-bM (xs:=cl.argTypes),E]
   have K:cl.args = #[x]:=by rw[<-bM (xs:=cl.args),B]
   split at b
   .rename_i e p;split at b
    .rename_i z i X I hi hX;split at b
     .rename_i n;cases b;obtain⟨w',h1,j⟩:=al2 (P:=P) (al:=al) (ty:=o.type) h p hi I n.1 n.2 (iU h l hX) g;exact⟨_,w',by rw[xD f F,A,K];exact jR (by simpa using h1),j⟩
     .cases b
    .cases b
   .cases b
  .rename_i t u x y F E B;have A:cl.argTypes = #[t,u]:=by rw[<-bM (xs:=cl.argTypes),E]
   have K:cl.args = #[x,y]:=by rw[<-bM (xs:=cl.args),B]
   split at b
   .rename_i e p N;split at b
    .rename_i z i X Y I hi hX J;split at b
     .rename_i n;cases b;obtain⟨r,w',h1,j⟩:=alU (P:=P) (ty:=o.type) h L p N hi I n.1 n.2 (iU h l hX) (iU h l J) g;exact⟨r,w',by rw[xD f F,A,K];exact jR (by simpa using h1),j⟩
     .cases b
    .cases b
   .cases b
  .cases b
 .rename_i t m k f;split at b
  .rename_i kt e p;split at b
   .rename_i kk z X Y T I hX J;cases b;obtain⟨r,w',h1,j⟩:=amh (P:=P) (al:=al) h p T I (iU h l hX) (iU h l J) g;exact⟨r,w',by simp only[en,f];exact jR h1,j⟩
   .cases b
  .cases b
 .rename_i t m s x f;split at b
  .rename_i X Y Z hX J V;cases b;obtain⟨w',h1,j⟩:=al5 (P:=P) (al:=al) (t:=t) h (iU h l hX) (iU h l J) (iU h l V) g;exact⟨_,w',by simp only[en,f];exact Jq h1,j⟩
  .cases b
 .cases b
end
abbrev FW(ro:Option Nat):Fence:={ Fence.wide with round:=ro }
def Du{a:Option Nat}{n:Nat}{P:eB}{f:FuncId}{args:Array cp}{w:eh}{R:Ending->eh->Prop}:CallsIn (FW a) n P f args w R↔Calls P f args w R:=
 callsIn_wide (n:=n)
inductive sq(c:Ctx):List Nat->List kx->Prop
 | nil:sq c [] []
 | cons {v:Nat} {vs:List Nat} {ds:List kx} (L:Loc) (h1:c.ι v 0=aE L) (h2:L.jN=er) (h:sq c vs ds):sq c (v::vs) ({ target:=.collected L.b,args:=#[] }::ds)
def sq.mono{c c':Ctx}(d:∀v L,c.ι v 0=aE L->c'.ι v 0=aE L){vs:List Nat}{ds:List kx}(h:sq c vs ds):sq c' vs ds:=by
 induction h with
 | nil=>exact .nil
 | cons L h1 b _ a=>exact .cons L (d _ _ h1) b a
structure lD(G:GT)(N:Nat)(c:Ctx)(w:eh)(s:St)(a:hI):Prop where
 gp:gI G c s.H w
 env:lj c w s.env.get a
 size:N<=a.tmps.size
 marks:sq c s.marks a.defers
def tD(N:Nat):Option Tmp->Bool
 | some d=>decide (d<N)
 | none=>ez
def P2(P:eB)(G:GT)(o:ep):Option iT:=match nO P G o with
 | some op=>aE op
 | none=>s0 P G o
def wW(P:eB)(G:GT)(N:Nat)(ops:Array ep)(o:ep):Option il:=
 match P2 P G o with
 | none=>bs
 | some op=>if tD N o.dst=ez then(match o.guard with
   | none=>aE ⟨o.dst,op,bs⟩
   | some (j,want)=>match (ops[j]?).bind (·.dst)with
    | some t=>aE ⟨o.dst,op,aE (t,want)⟩
    | none=>bs)else bs
def pM(P:eB)(G:GT)(N:Nat)(ops:Array ep):List ep->Option (List il)
 | []=>aE []
 | o::r=>match wW P G N ops o,pM P G N ops r with
  | some e,aE l=>aE (e::l)
  | _,_=>bs
section
variable{P:eB}{G:GT}{c:Ctx}{w:eh}{env:gZ}{a:hI}{N:Nat}
theorem amR{env:Env}{a:hI}{c:Ctx}{w:eh}(b:lj c w env.get a)(hN:N<=a.tmps.size){dst:Option Tmp}(f:tD N dst=ez){v:cp}{d:D}(h:gj c w v d) :
  lj c w (put env dst d).get (a.put dst v):=by
 cases dst with
 | none=>exact b
 | some t=>
  have g:t<a.tmps.size:=aO (by simpa[tD]using f) hN;intro k;simp only[put,Env.w7,Act.put];split
  .simp_all
  .rename_i e;have:(a.tmps.setIfInBounds t v).getD k undef=a.tmps.getD k undef:=n9;rw[this];exact b k
theorem aar{a:hI}{dst:Option Tmp}{v:cp}:(a.put dst v).tmps.size=a.tmps.size:=by cases dst<;>simp[Act.put]
theorem put_defers{a:hI}{dst:Option Tmp}{v:cp}:(a.put dst v).defers=a.defers:=by cases dst<;>rfl
theorem lj.carry{c c':Ctx}{w w':eh}(h:∀v d,gj c w v d->gj c' w' v d)(b:lj c w env a):lj c' w' env a:=λk=>h _ _ (b k)
theorem lD.next{c':Ctx}{w':eh}{H':gd}{s:St}(hs:lD G N c w s a)(gp:gI G c' H' w')(e:Step s.H.l c s.H w c' H' w'){dst:Option Tmp}(g:tD N dst=ez)
  {v:cp} {d:D} (f:gj c' w' v d):lD G N c' w' { s with env:=put s.env dst d,H:=H' } (a.put dst v) where
 gp:=gp
 env:=amR (hs.env.carry λ_ _ h=>h.p8 hs.gp.toHeapOK e) hs.size g f
 size:=by rw[aar];exact hs.size
 marks:=by
  rw[put_defers];refine hs.marks.mono λv L h=>e.old v 0 L ?_ h;rcases bB v s.H.l with b|b
  .exact b
  .rw[hs.gp.out v 0 b]at h;cases h
theorem uw(p:lj c w env a){ops:Array ep}{o:ep}{g:Option (Nat×Bool)}(hg:match o.guard with
   | none=>g=bs
   | some (j,d)=>∃t,(ops[j]?).bind (·.dst)=aE t/\g=aE (t,d)) {b:Bool} (h:guardOf env g=aE b):Region.wanted o (yielded ops a.tmps)=b:=by
 unfold Region.wanted;split at hg
 .rename_i l;subst hg;simp only[guardOf,ar]at h;simp[l,h]
 .rename_i j d l;obtain⟨t,n,rfl⟩:=hg;simp only[guardOf]at h;split at h
  .rename_i x m;cases h;have f:=p t;rw[m]at f;generalize e:a.tmps.getD t undef=v at f;cases f
   have i:a.tmps[t]? = aE (.bool x):=by
    rw[cT]at e
    cases k:a.tmps[t]? with
    | none=>rw[k]at e;simp[undef]at e
    | some q=>rw[k]at e;simpa using e
   simp only[l,yielded,n,hU,i];cases x<;>cases d<;>rfl
  .rename_i vs m;cases h;have f:=p t;rw[m]at f;generalize e:a.tmps.getD t undef=v at f;cases f
   have i:a.tmps[t]? = aE (.tuple vs)\/a.tmps[t]? = none:=by
    rw[cT]at e
    cases k:a.tmps[t]? with
    | none=>exact .inr rfl
    | some q=>rw[k]at e;exact .inl (by simpa using e)
   rcases i with i|i<;>simp only[l,yielded,n,hU,i]<;>cases d<;>rfl
  .cases h
theorem Vu{o:ep}{op:iT}(h:P2 P G o=aE op):nO P G o=aE op\/s0 P G o=aE op:=by
 unfold P2 at h;split at h
 .grind
 .exact .inr h
theorem Vr{o:ep}{a:iT}(b:nO P G o=aE a\/s0 P G o=aE a){f:gZ}{H:gd}{n:Nat}{r:D×Dl}(h:gW f H n a=aE r):nO P G o=aE a:=by refine b.resolve_right λc=>?_;rw[aoc (P3 c)]at h;cases h
theorem DA{o:ep}{a:iT}(b:nO P G o=aE a\/s0 P G o=aE a){f:gZ}{r:FuncId×List D}(h:kC f a=aE r):nO P G o=aE a:=by refine b.resolve_right λc=>?_;rw[aod (P3 c)]at h;cases h
theorem zB{ops:Array ep}{o:ep}{e:il}(h:wW P G N ops o=aE e) :
  (nO P G o=aE e.op\/s0 P G o=aE e.op)/\e.dst=o.dst/\(tD N o.dst=ez)/\(match o.guard with
   | none=>e.guard=bs
   | some (j,a)=>∃t,(ops[j]?).bind (·.dst)=aE t/\e.guard=aE (t,a)):=by
 unfold wW at h;split at h
 .cases h
 .rename_i op b;split at h
  .rename_i c;split at h
   .rename_i hg;cases h;exact⟨Vu b,rfl,c,by simp[hg]⟩
   .rename_i j a hg;split at h
    .rename_i t d;cases h;exact⟨Vu b,rfl,c,t,d,rfl⟩
    .cases h
  .cases h
theorem Aw{o:ep}{a:iT}(h:nO P G o=aE a):∀c,o.op≠.defer c:=by intro c b;simp[nO,b]at h
theorem ZS{o:ep}{a:iT}(h:s0 P G o=aE a):∀c,o.op≠.defer c:=by intro c b;simp[s0,b]at h
theorem aoH{e:Option Nat}{n:Nat}{o:ep}{s:St}{f:iT}{d:D}{δ:Dl}{next:hI->eh->Prop}{Q:Exit->hI->eh->Prop}(hs:lD G N c w s a)(i:s0 P G o=aE f)
  (q:tD N o.dst=ez) {al:Al} (m:np s.H al) (h:mH s.env.get s.H al.1 f=aE (d,δ))
  (k:∀c' w' l,lD G N c' w' { s with env:=put s.env o.dst d,H:=δ.app s.H al } l->Step s.H.l c s.H w c' (δ.app s.H al) w'->next l w'):o.wpIn (FW e) n P a w next Q:=by
 obtain⟨v,w',b,d',H',c',⟨rfl,rfl⟩,gp,p,j⟩:=anZ (P:=P) hs.gp hs.env m i h;refine⟨λ_ _=>trivial,?_⟩;rw[iV (FW e) a.eval o (ZS i)];have g:=k c' w' (a.put o.dst v) (hs.next gp j q p) j;rcases b with b|⟨b,rfl⟩
 .rw[b];exact g
 .rw[b];exact g
theorem aoE{ro:Option Nat}{n:Nat}{o:ep}{s:St}{x:X}{next:hI->eh->Prop}{Q:Exit->hI->eh->Prop}(hs:lD G N c w s a)(q:s0 P G o=aE (.nextM x))
  (g:tD N o.dst=ez) {v m since:Nat} {seen:List Nat} {kk:KK} {es:List (cp×D)} (hx:ev s.env.get x = .ptr v 0 0) (f:s.H[v]? = aE (.jo (.gH m) since seen)) (hm:s.H[m]? = aE (.map kk es)) (oL:es.l=since)
  (k0:(∀i,i<es.l->i∈seen)->∀c' w' B,lD G N c' w' { s with env:=put s.env o.dst (.tup [.b er]) } B->Step s.H.l c s.H w c' s.H w'->next B w')
  (k1:∀i k d,es[i]? = aE (k,d)->i ∉ seen->∀c' w' B,lD G N c' w' { s with env:=put s.env o.dst (.tup [.b ez,sM k,d]),H:=s.H.set v (.jo (.gH m) since (seen ++ [i])) } B ->
   Step s.H.l c s.H w c' (s.H.set v (.jo (.gH m) since (seen ++ [i]))) w'->next B w'):o.wpIn (FW ro) n P a w next Q:=by
 have iz:∃y,o.op = .next y er/\cX G y=aE x:=by
  unfold s0 at q
  repeat' split at q
  all_goals first|(cases q;done)|(simp only[ao]at q;obtain⟨_,_,R⟩:=q;cases R;done)|skip
  simp only[ao]at q;obtain⟨X,hX,R⟩:=q;cases R;exact⟨_,jZ,hX⟩
 obtain⟨y,ho,hX⟩:=iz;have O:=iU hs.gp hs.env hX;rw[hx]at O;generalize hu:a.eval y=u at O
 cases O with
 | ptr _ _ _ L gv iA=>
  have I:=hs.gp.ob v _ f;simp only[Ob.gen]at I;rw[gv]at I;simp only[ik]at I;obtain⟨_,J,bm,Ew,r⟩:=I
  cases Ew with
  | gH _ p Cb N2=>
   have E:=hs.gp.ob m _ hm;simp only[Ob.gen]at E;rw[Cb]at E;simp only[ik]at E;obtain⟨_,tN,arr,b,HB,iL,K,Hm⟩:=E;have oZ:b=since:=by rw[Hm,oL]
   subst oZ;refine⟨λ_ _=>trivial,?_⟩;rw[iV (FW ro) a.eval o (ZS q)]
   have Z:∀e∈arr.toList,e.born<b:=by
    intro e t;obtain⟨i,hi⟩:=aD.1 t;have C:i<es.l:=by rw[<-iL];have:=(ae.1 hi).1;simpa using this
    have:=(K i e es[i] (by simpa using hi) (by simp[C])).2.2;omega
   have YE:=next_test_false seen.toArray arr b b Z (hh _)
   have z:(b4 arr seen.toArray).filter (λe=>decide (e.born<b))=b4 arr seen.toArray:=by apply Array.filter_eq_self.2;intro e t;simp only[decide_eq_true_eq];exact Z e (by simpa using (et.1 t).1)
   have mK:(b4 arr seen.toArray).filter (λe=>decide (e.born>=b)) = #[]:=by apply Array.filter_eq_empty_iff.2;intro e t;have:=Z e (by simpa using (et.1 t).1);simp;omega
   have XW:∀w1:eh,w1.heap=w.heap->(eL L.b).run P w1 = .ok (.mapIter (aE p.b) b seen.toArray b) w1:=λw1 h1=>by simp[eL,ek,h1,r]
   have XX:∀w1:eh,w1.heap=w.heap->(eL p.b).run P w1 = .ok (.map arr b) w1:=λw1 h1=>by simp[eL,ek,h1,HB]
   have pT:∀e,e∈(b4 arr seen.toArray).toList->∃i k d,es[i]? = aE (k,d)/\i ∉ seen/\e.key=k/\gj c w e.val d/\e.born=i:=by
    intro e t
    have xd:e∈arr/\(!seen.toArray.contains e.born)=true:=by have:=et.1 (show e∈b4 arr seen.toArray by simpa using t);exact this
    obtain⟨i,hi⟩:=aD.1 (show e∈arr.toList by simpa using xd.1);have C:i<es.l:=by rw[<-iL];have:=(ae.1 hi).1;simpa using this
    obtain⟨q1,q2,q3⟩:=K i e es[i] (by simpa using hi) (by simp[C]);refine⟨i,es[i].1,es[i].2,by simp[C],?_,q1,q2,q3⟩;have:=xd.2;rw[q3]at this;simpa using this
   by_cases F:(b4 arr seen.toArray) = #[]
   .have M:(en a.eval o).run P w = .ok (.value (.tuple #[.bool er])) w:=by
     have A:(eK (.pointer (aE ⟨L.b,0,bs⟩)) er o.type).run P w = .ok (.tuple #[.bool er]) w:=by have Hy:(arr.filter λe => !(seen.toArray).contains e.born) = #[]:=F;simp only[eK,dx,XW w rfl,di,XX w rfl,YE,bC,if_false,gb,Hy];simp[choose,ek,Question.forced]
     simp only[en,ho,hu];rw[J];simp[A]
    rw[M];refine k0 (λi hi=>?_) c w _ (hs.next hs.gp (Step.refl _ _ _ _) g (.tup [.bool er] _ rfl λj v d f g=>?_)) (Step.refl _ _ _ _)
    .by_cases ib:i∈seen
     .exact ib
     .exfalso;have BT:i<arr.size:=U;have Y:=(K i arr[i] es[i] (by simp[BT]) (by simp[hi])).2.2
      have:arr[i]∈b4 arr seen.toArray:=by refine et.2 ⟨Array.getElem_mem _,?_⟩;rw[Y];simpa using ib
      rw[F]at this;simp at this
    .match j,f,g with
     | 0,f,g=>cases f;cases g;exact .val _
   .have ij:(b4 arr seen.toArray).isEmpty=false:=by
     cases hq:(b4 arr seen.toArray).isEmpty with
     | false=>rfl
     | true=>exact absurd (Array.isEmpty_iff.1 hq) F
    have ky:0<(b4 arr seen.toArray).size:=by
     rcases dQ (b4 arr seen.toArray).size with h|h
     .exact absurd (Array.eq_empty_of_size_eq_zero h) F
     .exact h
    have Rj:∃(i:Nat) (w1:eh),i<(b4 arr seen.toArray).size/\ko w w1/\w1.heap=w.heap/\(choose (.mapNext (b4 arr seen.toArray).size)).run P w = .ok i w1:=by
     by_cases hf:(Question.mapNext (b4 arr seen.toArray).size).forced=ez
     .exact⟨0,w,ky,ko.refl w,rfl,by simp[choose,ek,hf]⟩
     .exact⟨w.tape w.drawn (.mapNext (b4 arr seen.toArray).size) % (b4 arr seen.toArray).size,{ w with drawn:=w.drawn+1 },Nat.mod_lt _ ky,ko.drew w,rfl,by simp[choose,ek,hf,Question.cut]⟩
    obtain⟨i,w1,hi,XY,V,W⟩:=Rj;obtain⟨l,k,d,h1,A,h3,h4,h5⟩:=pT (b4 arr seen.toArray)[i] fZ;have yv:=hs.gp.pP XY
    obtain⟨m1,m2⟩:=AU yv f rfl rfl (ob':=.jo (.gH m) b (seen ++ [l])) rfl gv iA (.mapIter (aE p.b) b (seen ++ [l]).toArray b) (λw' rm tR=>by
     simp only[ik]
     exact⟨iA,J,p.b,.gH m p Cb N2,rm⟩)
    have T:Step s.H.l c s.H w c (s.H.set v (.jo (.gH m) b (seen ++ [l]))) { w1 with heap:=w1.heap.setIfInBounds L.b (.mapIter (aE p.b) b (seen ++ [l]).toArray b) }:=(CS _ XY).trans m2 (hh _)
    have M:(en a.eval o).run P w = .ok (.value (.tuple #[.bool ez,k,(b4 arr seen.toArray)[i].val])) { w1 with heap:=w1.heap.setIfInBounds L.b (.mapIter (aE p.b) b (seen ++ [l]).toArray b) }:=by
     have nE:(j' L.b (.mapIter (aE p.b) b (seen ++ [l]).toArray b)).run P w1 = .ok () { w1 with heap:=w1.heap.setIfInBounds L.b (.mapIter (aE p.b) b (seen ++ [l]).toArray b) }:=by simp[j',ek,V,r]
     have A:(eK (.pointer (aE ⟨L.b,0,bs⟩)) er o.type).run P w = .ok (.tuple #[.bool ez,k,(b4 arr seen.toArray)[i].val]) { w1 with heap:=w1.heap.setIfInBounds L.b (.mapIter (aE p.b) b (seen ++ [l]).toArray b) }:=by
      have Hy:(arr.filter λe => !(seen.toArray).contains e.born)=b4 arr seen.toArray:=rfl;have js:((if (b4 arr seen.toArray).isEmpty then #[bs]else #[])++(b4 arr seen.toArray ++ #[]).map aE)=(b4 arr seen.toArray).map some:=by simp[ij]
      simp only[eK,dx,XW w rfl,di,XX w rfl,YE,bC,if_false,gb,Hy,z,mK,js,Array.size_map,W];have S:((b4 arr seen.toArray).map aE)[i]? = aE (aE (b4 arr seen.toArray)[i]):=by simp[hi]
      simp only[S,dx];rw[h5,(fZ:seen.toArray.push l=(seen ++ [l]).toArray),nE];simp[h3]
     simp only[en,ho,hu];rw[J];simp[A]
    rw[M];refine k1 l k d h1 A c _ _ (hs.next m1 T g (.tup [.bool ez,k,(b4 arr seen.toArray)[i].val] _ rfl λj v d f g=>?_)) T
    match j,f,g with
    | 0,f,g=>cases f;cases g;exact .val _
    | 1,f,g=>cases f;cases g;exact aaC (tN _ (fx h1))
    | 2,f,g=>cases f;cases g;exact h4.p8 hs.gp.toHeapOK T
theorem aoF{e:Option Nat}{n:Nat}{o:ep}{s:St}{f:iT}{d:D}{δ:Dl}{next:hI->eh->Prop}{Q:Exit->hI->eh->Prop}(hs:lD G N c w s a)(i:nO P G o=aE f)
  (q:tD N o.dst=ez) {al:Al} (m:np s.H al) (h:gW s.env.get s.H al.1 f=aE (d,δ))
  (k:∀c' w' l,lD G N c' w' { s with env:=put s.env o.dst d,H:=δ.app s.H al } l->Step s.H.l c s.H w c' (δ.app s.H al) w'->next l w'):o.wpIn (FW e) n P a w next Q:=by
 obtain⟨v,w',b,d',H',c',⟨rfl,rfl⟩,gp,p,j⟩:=aao (P:=P) (K:=λd' H'=>d'=d/\H'=δ.app s.H al) hs.gp hs.env m i (UP h ⟨rfl,rfl⟩);refine⟨λ_ _=>trivial,?_⟩;rw[iV (FW e) a.eval o (Aw i)];have g:=k c' w' (a.put o.dst v) (hs.next gp j q p) j;rcases b with b|⟨b,rfl⟩
 .rw[b];exact g
 .rw[b];exact g
end
section
variable{P:eB}{G:GT}{c:Ctx}{w:eh}{env:gZ}{a:hI}{N:Nat}
theorem Vv{o:ep}{b:iT}(a:nO P G o=aE b)(h:Ic b=ez):∃cl,o.op = .call cl:=by
 unfold nO at a;split at a
 all_goals first|exact⟨_,jZ⟩|skip
 all_goals exfalso
 all_goals try simp only[aC,ag,aF]at a
 all_goals (repeat' first|(obtain⟨_,_,a⟩:=a)|split at a|simp only[ag]at a)
 all_goals first|(simp[Ic]at h;done)|(cases a<;>simp[Ic]at h)
theorem IY{H:gd}(gp:gI G c H w)(u:lj c w env a){o:ep}{l:iT}(b:nO P G o=aE l){f:FuncId}{args:List D}(d:kC env l=aE (f,args))(s:vq P f=ez) :
  ∃vs:List cp,(en a.eval o).run P w = .ok (.enter f vs.toArray) w/\jK c w vs args:=by
 have K:=b;unfold nO at b
 cases j:o.op with
 | call cl=>
  simp only[j,aC,ag]at b;obtain⟨xs,B,b⟩:=b;have t:=A8 gp u cl.args.toList B;split at b
  .rename_i g r;split at b
   .have q:g=f/\List.map (ev env) xs=args:=by
     cases b;have E:kC env (if G.nw g=ez then iT.callN g xs else iT.call g xs)=aE (g,xs.map (ev env)):=by split<;>rfl
     rw[E]at d;simpa using d
    obtain⟨rfl,rfl⟩:=q;refine⟨_,?_,t⟩;have e:cl.args.map a.eval=(cl.args.toList.map a.eval).toArray:=by cases cl.args;simp
    simp only[en,j,resolve,r,Act.eval,Deferred.ofValue,dx,gb,di,invoke];rw[<-e];have h:=O5 (P:=P) s (cl.args.map a.eval) w;simpa using h
   .cases b
  .rename_i x L r;simp only[ag,aF,ar]at b;obtain⟨X,hX,rfl⟩:=b;simp only[kC]at d;split at d
   .rename_i k first cap pS
    cases d;have m:=iU gp u hX;rw[pS]at m;generalize C:a.eval x=v at m
    cases m with
    | fn _ fs cs _ _ J p I F=>
     refine⟨fs++cl.args.toList.map a.eval++cs,?_,((jK.ID J I).append t).append (jK.ID p F)⟩;simp only[en,j,resolve,r,C,Deferred.ofValue,dx,gb,di,invoke];have h:=O5 (P:=P) s (fs.toArray++cl.args.map a.eval++cs.toArray) w;have p:fs.toArray++cl.args.map a.eval++cs.toArray=(fs++cl.args.toList.map a.eval++cs).toArray:=by cases cl.args;simp
     rw[p]at h ⊢;exact h
   .cases d
  .split at b
   .simp only[ag]at b;obtain⟨A,_,b⟩:=b;split at b
    .simp only[ag]at b;obtain⟨i,_,z,_,y,_,b⟩:=b;split at b
     .split at b
      .cases b;cases d
      .cases b
     .cases b
    .cases b
   .cases b
  .split at b
   .simp only[ag]at b;obtain⟨A,_,b⟩:=b;split at b
    .simp only[ag]at b;obtain⟨y,_,b⟩:=b;split at b
     .simp only[ag]at b;obtain⟨n,_,b⟩:=b;split at b
      .cases b;cases d
      .cases b
     .cases b
    .cases b
   .cases b
  .split at b
   .split at b
    .cases b;cases d
    .cases b;cases d
    .cases b;cases d
    .cases b
   .cases b
  .cases b;cases d
  .cases b;cases d
  .cases b
 | _=>
  have h1:Ic l=true:=by unfold kC at d;unfold Ic;split at d<;>first|rfl|cases d
  obtain⟨cl,h⟩:=Vv K h1;rw[j]at h;cases h
end
abbrev Fp:=Nat×Option (Nat×Nat)
def nI:D->List Fp
 | .gf v _ _ _ _=>[(v,bs)]
 | .gH v=>[(v,bs)]
 | _=>[]
def vh(n:Nat):D->List Fp
 | .ptr v _ o=>[(v,aE (o,n))]
 | _=>[]
def gT(f:gZ)(H:gd):iT->List Fp
 | .ld1 x=>vh 1 (ev f x)
 | .ldN n x=>vh n (ev f x)
 | .st1 a _=>vh 1 (ev f a)
 | .stN n a _=>vh n (ev f a)
 | .lookup _ _ _ m _=>nI (ev f m)
 | .mapUpd _ m _ _=>nI (ev f m)
 | .len .map x=>nI (ev f x)
 | .b2s x=>nI (ev f x)
 | .slcArr sz n x _ _=>vh (n*sz) (ev f x)
 | .app _ _ _ x y=>nI (ev f x)++nI (ev f y)
 | .copy _ x y=>nI (ev f x)++nI (ev f y)
 | .call g args=>((args.map (ev f)).map (iB H 40)).flatten.map λv=>(v,bs)
 | .callN g args=>((args.map (ev f)).map (iB H 40)).flatten.map λv=>(v,bs)
 | .callv g args=>match kC f (.callv g args)with
  | some (_,ds)=>(ds.map (iB H 40)).flatten.map λv=>(v,bs)
  | none=>[]
 | _=>[]
def kd(n:Nat):Dl->List Fp
 | .no=>[]
 | .cells v o xs=>[(v,aE (o,xs.l))]
 | .obj v _=>[(v,bs)]
 | .new _=>[(n,bs)]
def uD:Fp->Fp->Bool
 | (v,bs),(u,_)=>v != u
 | (v,aE _),(u,bs)=>v != u
 | (v,aE (o,n)),(u,aE (p,m))=>v != u||decide (o+n<=p)||decide (p+m<=o)
def uE(a b:List Fp):Bool:=a.all λx=>b.all λy=>uD x y
def Alike(x:Fp)(H1 H2:gd):Prop:=
 match x with
 | (v,bs)=>H1[v]? = H2[v]?
 | (v,aE (o,n))=>H1[v]? = H2[v]?\/∃t g cs ds,H1[v]? = aE (.row t g cs)/\H2[v]? = aE (.row t g ds)/\cs.l=ds.l/\∀i,o<=i->i<o+n->cs[i]? = ds[i]?
def uz(l:List Fp)(H1 H2:gd):Prop:=∀x∈l,Alike x H1 H2
def iS:X->List Nat
 | .t k=>[k]
 | .c _=>[]
def xG(l:List X):List Nat:=(l.map iS).flatten
def xF:Option X->List Nat
 | some x=>iS x
 | none=>[]
def im:iT->List Nat
 | .mv x=>iS x
 | .pick c a b=>iS c++iS a++iS b
 | .box _ x=>iS x
 | .alloc _ _=>[]
 | .build _ ps=>(ps.map λp=>iS p.2.2).flatten
 | .buildSl _ _ _ _ ps=>(ps.map λp=>iS p.2).flatten
 | .ld1 x=>iS x
 | .ldN _ x=>iS x
 | .st1 a x=>iS a++iS x
 | .stN _ a x=>iS a++iS x
 | .nilck x=>iS x
 | .arith _ x y=>iS x++iS y
 | .eqS _ _ _ x y=>iS x++iS y
 | .un _ x=>iS x
 | .conv _ x=>iS x
 | .b2s x=>iS x
 | .mkfn _ a b=>xG a++xG b
 | .mkmap _=>[]
 | .mksl _ _ _ _ l c=>iS l++iS c
 | .slc _ x lo hi=>iS x++xF lo++xF hi
 | .slcS x lo hi=>iS x++xF lo++xF hi
 | .slc3 _ x lo hi mx=>iS x++xF lo++iS hi++iS mx
 | .slcArr _ _ x lo hi=>iS x++xF lo++xF hi
 | .fieldA _ x=>iS x
 | .field _ _ _ x=>iS x
 | .idxA _ x i=>iS x++iS i
 | .idxArr _ _ x i=>iS x++iS i
 | .idx _ _ _ x i=>iS x++iS i
 | .idxStr x i=>iS x++iS i
 | .lookup _ _ _ m k=>iS m++iS k
 | .mapUpd _ m k x=>iS m++iS k++iS x
 | .ext x _=>iS x
 | .call _ args=>xG args
 | .callN _ args=>xG args
 | .callv f args=>iS f++xG args
 | .app _ _ _ x y=>iS x++iS y
 | .copy _ x y=>iS x++iS y
 | .len _ x=>iS x
 | .minmax _ xs=>xG xs
 | .nilS _ x | .capE x | .clr _ _ x | .rangeS x | .nextS x | .rangeM x | .nextM x | .entry x=>iS x
 | .mapEnt _ _ m k=>iS m++iS k
 | .entSt m s x=>iS m++iS s++iS x
 | .appZ _ _ _ _ x n=>iS x++iS n
def IK:iT->Bool
 | .mv _ | .pick .. | .build .. | .nilck _ | .arith .. | .eqS .. | .un .. | .conv .. | .mkfn .. | .slc .. | .slcS .. | .slc3 .. | .fieldA .. | .field .. | .idxA .. | .idxArr .. | .idx .. | .idxStr .. | .ext .. | .minmax ..
 | .len .slice _ | .len .string _=>ez
 | _=>er
def Tl:iT->Bool
 | .ld1 _ | .ldN .. | .b2s _ | .slcArr .. | .lookup .. | .len .. | .call .. | .callv .. => ez
 | op=>IK op
def Ph(a b:iT):Bool:=IK a||IK b||(Tl a&&Tl b)
section
variable{f f':gZ}
theorem Bm{x:X}(h:∀t∈iS x,f t=f' t):ev f x=ev f' x:=by
 cases x with
 | t k=>exact h k (by simp[iS])
 | c d=>rfl
theorem Bn{l:List X}(h:∀t∈xG l,f t=f' t):l.map (ev f)=l.map (ev f'):=
 au λx a=>Bm λt b=>h t (bk.2 ⟨_,az.2 ⟨x,a,rfl⟩,b⟩)
theorem Td:∀ {l:List (Nat×Nat×X)},(∀t∈(l.map λp=>iS p.2.2).flatten,f t=f' t)->partsOf f l=partsOf f' l
 | [],_=>rfl
 | (o,n,x)::r,h=>by have h1:ev f x=ev f' x:=Bm λt a=>h t (by simp[a]);have b:=Td (l:=r) λt a=>h t (by simp only[hY,a7,aj];exact .inr a);simp only[partsOf,h1,b]
theorem xU{x:Option X}{n:Int}(h:∀t∈xF x,f t=f' t):iq f x n=iq f' x n:=by
 cases x with
 | none=>rfl
 | some x=>simp only[iq,Bm (x:=x) h]
theorem YT:∀ {l:List X},(∀t∈xG l,f t=f' t)->r8 f l=r8 f' l
 | [],_=>rfl
 | x::r,h=>by have h1:ev f x=ev f' x:=Bm λt a=>h t (by simp[xG,a]);have b:=YT (l:=r) λt a=>h t (by simp only[xG,hY,a7,aj];exact .inr a);simp only[r8,h1,b]
theorem UO{op:iT}(h:∀t∈im op,f t=f' t)(H:gd)(n:Nat):gW f H n op=gW f' H n op:=by
 have e:∀ {x:X},(∀t∈iS x,t∈im op)->ev f x=ev f' x:=λr=>Bm λt d=>h t (r t d);cases op<;>simp only[gW]<;>first|rfl|skip
 case mv x=>rw[e (x:=x) (λt d=>by simpa[im]using d)]
 case pick c a b=>rw[e (x:=c) (λt d=>by simp[im,d]),e (x:=a) (λt d=>by simp[im,d]),e (x:=b) (λt d=>by simp[im,d])]
 case box x=>rw[e (x:=x) (λt d=>by simpa[im]using d)]
 case build z ps=>simp only[Dt,Td (f:=f) (f':=f') (l:=ps) (λt d=>h t (by simpa[im]using d))]
 case buildSl t sz z m ps=>
  have:=Td (f:=f) (f':=f') (l:=ps.map λp=>(p.1*sz,sz,p.2)) (λt d=>h t (by simpa[im,b7,eZ]using d));simp only[zr,this]
 case ld1 x=>rw[e (x:=x) (λt d=>by simpa[im]using d)]
 case ldN n x=>rw[e (x:=x) (λt d=>by simpa[im]using d)]
 case st1 a x=>rw[e (x:=a) (λt d=>by simp[im,d]),e (x:=x) (λt d=>by simp[im,d])]
 case stN n a x=>rw[e (x:=a) (λt d=>by simp[im,d]),e (x:=x) (λt d=>by simp[im,d])]
 case nilck x=>rw[e (x:=x) (λt d=>by simpa[im]using d)]
 case arith op x y=>rw[e (x:=x) (λt d=>by simp[im,d]),e (x:=y) (λt d=>by simp[im,d])]
 case eqS b ls neg x y=>rw[e (x:=x) (λt d=>by simp[im,d]),e (x:=y) (λt d=>by simp[im,d])]
 case un op x=>rw[e (x:=x) (λt d=>by simpa[im]using d)]
 case conv k x=>rw[e (x:=x) (λt d=>by simpa[im]using d)]
 case b2s x=>rw[e (x:=x) (λt d=>by simpa[im]using d)]
 case mkfn g a b=>rw[Bn (f:=f) (f':=f') (l:=a) (λt d=>h t (by simp[im,d])),Bn (f:=f) (f':=f') (l:=b) (λt d=>h t (by simp[im,d]))]
 case mksl t sz PQ z l c=>rw[e (x:=l) (λt d=>by simp[im,d]),e (x:=c) (λt d=>by simp[im,d])]
 case slc sz x lo hi=>
  have q:∀n,iq f lo n=iq f' lo n:=λn=>xU λt d=>h t (by simp[im,d]);have j:∀n,iq f hi n=iq f' hi n:=λn=>xU λt d=>h t (by simp[im,d]);simp only[uu,q,j,e (x:=x) (λt d=>by simp[im,d])]
 case slc3 sz x lo hi mx=>
  have q:∀n,iq f lo n=iq f' lo n:=λn=>xU λt d=>h t (by simp[im,d]);have j:∀n,iq f (aE hi) n=iq f' (aE hi) n:=λn=>xU λt d=>h t (by simp only[xF]at d;simp[im,d]);have s:∀n,iq f (aE mx) n=iq f' (aE mx) n:=λn=>xU λt d=>h t (by simp only[xF]at d;simp[im,d]);simp only[yX,q,j,s,e (x:=x) (λt d=>by simp[im,d])]
 case slcArr sz m x lo hi=>
  have q:∀n,iq f lo n=iq f' lo n:=λn=>xU λt d=>h t (by simp[im,d]);have j:∀n,iq f hi n=iq f' hi n:=λn=>xU λt d=>h t (by simp[im,d]);simp only[AP,q,j,e (x:=x) (λt d=>by simp[im,d])]
 case slcS x lo hi=>
  have q:∀n,iq f lo n=iq f' lo n:=λn=>xU λt d=>h t (by simp[im,d]);have j:∀n,iq f hi n=iq f' hi n:=λn=>xU λt d=>h t (by simp[im,d]);simp only[Pb,q,j,e (x:=x) (λt d=>by simp[im,d])]
 case fieldA o x=>rw[e (x:=x) (λt d=>by simpa[im]using d)]
 case field o n b x=>rw[e (x:=x) (λt d=>by simpa[im]using d)]
 case idxA sz x i=>rw[e (x:=x) (λt d=>by simp[im,d]),e (x:=i) (λt d=>by simp[im,d])]
 case idxArr sz n x i=>rw[e (x:=x) (λt d=>by simp[im,d]),e (x:=i) (λt d=>by simp[im,d])]
 case idx sz n b x i=>rw[e (x:=x) (λt d=>by simp[im,d]),e (x:=i) (λt d=>by simp[im,d])]
 case idxStr x i=>rw[e (x:=x) (λt d=>by simp[im,d]),e (x:=i) (λt d=>by simp[im,d])]
 case lookup kk z ok m k=>rw[e (x:=m) (λt d=>by simp[im,d]),e (x:=k) (λt d=>by simp[im,d])]
 case mapUpd kk m k x=>rw[e (x:=m) (λt d=>by simp[im,d]),e (x:=k) (λt d=>by simp[im,d]),e (x:=x) (λt d=>by simp[im,d])]
 case ext x i=>rw[e (x:=x) (λt d=>by simpa[im]using d)]
 case app t sz PQ x y=>rw[e (x:=x) (λt d=>by simp[im,d]),e (x:=y) (λt d=>by simp[im,d])]
 case copy sz x y=>rw[e (x:=x) (λt d=>by simp[im,d]),e (x:=y) (λt d=>by simp[im,d])]
 case len k x=>rw[e (x:=x) (λt d=>by simpa[im]using d)]
 case minmax b xs=>simp only[EP,YT (f:=f) (f':=f') (l:=xs) (λt d=>h t (by simpa[im]using d))]
end
def Gh{f f':gZ}{op:iT}(h:∀t∈im op,f t=f' t):kC f op=kC f' op:=by
 cases op<;>first|rfl|skip
 case call g args=>simp only[kC,Bn (f:=f) (f':=f') (l:=args) (λt a=>h t (by simpa[im]using a))]
 case callN g args=>simp only[kC,Bn (f:=f) (f':=f') (l:=args) (λt a=>h t (by simpa[im]using a))]
 case callv g args=>
  simp only[kC,Bn (f:=f) (f':=f') (l:=args) (λt a=>h t (by simp[im,a])),Bm (f:=f) (f':=f') (x:=g) (λt a=>h t (by simp[im,a]))]
def GL{f f':gZ}{op:iT}(h:∀t∈im op,f t=f' t)(H:gd):gT f H op=gT f' H op:=by
 have c:∀ {x:X},(∀t∈iS x,t∈im op)->ev f x=ev f' x:=λd=>Bm λt b=>h t (d t b);have e:=Gh h;cases op<;>simp only[gT]<;>first|rfl|skip
 case ld1 x=>rw[c (x:=x) (λt b=>by simpa[im]using b)]
 case ldN n x=>rw[c (x:=x) (λt b=>by simpa[im]using b)]
 case b2s x=>rw[c (x:=x) (λt b=>by simpa[im]using b)]
 case slcArr sz n x lo hi=>rw[c (x:=x) (λt b=>by simp[im,b])]
 case st1 a x=>rw[c (x:=a) (λt b=>by simp[im,b])]
 case stN n a x=>rw[c (x:=a) (λt b=>by simp[im,b])]
 case lookup kk z ok m k=>rw[c (x:=m) (λt b=>by simp[im,b])]
 case mapUpd kk m k x=>rw[c (x:=m) (λt b=>by simp[im,b])]
 case app t sz PQ x y=>rw[c (x:=x) (λt b=>by simp[im,b]),c (x:=y) (λt b=>by simp[im,b])]
 case copy sz x y=>rw[c (x:=x) (λt b=>by simp[im,b]),c (x:=y) (λt b=>by simp[im,b])]
 case len k x=>cases k<;>simp only[gT]<;>rw[c (x:=x) (λt b=>by simpa[im]using b)]
 case call g args=>rw[Bn (f:=f) (f':=f') (l:=args) (λt b=>h t (by simpa[im]using b))]
 case callN g args=>rw[Bn (f:=f) (f':=f') (l:=args) (λt b=>h t (by simpa[im]using b))]
 case callv g args=>rw[e]
section
variable{H1 H2:gd}
theorem OZ{v:Nat}(h:H1[v]? = H2[v]?)(g:Nat):rowAt H1 v g=rowAt H2 v g:=by simp only[rowAt,h]
theorem SH{v:Nat}(h:H1[v]? = H2[v]?):lW H1 v=lW H2 v:=by simp only[lW,h]
theorem IV{v o n:Nat}(h:Alike (v,aE (o,n)) H1 H2)(g:Nat) :
  (rowAt H1 v g=bs/\rowAt H2 v g=bs)\/∃t cs ds,rowAt H1 v g=aE (t,cs)/\rowAt H2 v g=aE (t,ds)/\cs.l=ds.l/\∀i,o<=i->i<o+n->cs[i]? = ds[i]? := by
 rcases h with h|⟨t,d,cs,ds,h1,a,c,b⟩
 .rw[OZ h g]
  cases f:rowAt H2 v g with
  | none=>exact .inl ⟨rfl,rfl⟩
  | some p=>exact .inr ⟨p.1,p.2,p.2,rfl,rfl,rfl,λ_ _ _=>rfl⟩
 .by_cases e:d=g
  .exact .inr ⟨t,cs,ds,by simp[rowAt,h1,e],by simp[rowAt,a,e],c,b⟩
  .exact .inl ⟨by simp[rowAt,h1,e],by simp[rowAt,a,e]⟩
theorem TP{sz:Nat}{d:D}(h:uz (nI d) H1 H2):lu sz H1 d=lu sz H2 d:=by
 unfold lu;split<;>first|rfl|skip
 rename_i v g a off len;have:=h (v,bs) (by simp[nI]);rw[OZ this]
theorem uz.left{a b:List Fp}(h:uz (a++b) H1 H2):uz a H1 H2:=λx c=>h x (bz _ c)
theorem uz.right{a b:List Fp}(h:uz (a++b) H1 H2):uz b H1 H2:=λx c=>h x (bL _ c)
theorem abS{f:gZ}{op:iT}(h:uz (gT f H1 op) H1 H2)(n:Nat):gW f H1 n op=gW f H2 n op:=by
 cases op<;>simp only[gW]<;>first|rfl|skip
 case ld1 x=>
  congr 1;simp only[gT]at h;unfold xu;split<;>first|rfl|skip
  rename_i v g o b;rw[b]at h;rcases IV (h (v,aE (o,1)) (by simp[vh])) g with⟨d,c⟩|⟨t,cs,ds,d,c,e,j⟩
  .rw[d,c]
  .grind
 case ldN m x=>
  congr 1;simp only[gT]at h;unfold wi;split<;>first|rfl|skip
  rename_i v g o b;rw[b]at h;rcases IV (h (v,aE (o,m)) (by simp[vh])) g with⟨d,c⟩|⟨t,cs,ds,d,c,e,j⟩
  .rw[d,c]
  .rw[d,c]
   have:(cs.drop o).take m=(ds.drop o).take m:=by
    apply bU;intro i;simp only[aG,aK];split
    .grind
    .rfl
   simp only[e,this]
 case st1 a x=>
  simp only[gT]at h;unfold CN;split<;>first|rfl|skip
  rename_i v g o b;rw[b]at h;rcases IV (h (v,aE (o,1)) (by simp[vh])) g with⟨d,c⟩|⟨t,cs,ds,d,c,e,j⟩
  .rw[d,c]
  .grind
 case stN m a x=>
  simp only[gT]at h;unfold CQ;split<;>first|rfl|skip
  rename_i v g o xs b _;rw[b]at h;rcases IV (h (v,aE (o,m)) (by simp[vh])) g with⟨d,c⟩|⟨t,cs,ds,d,c,e,j⟩
  .rw[d,c]
  .grind
 case slcArr sz m x lo hi=>
  congr 1;simp only[gT]at h;unfold AP;split<;>first|rfl|skip
  rename_i v g o l r b _ _;rw[b]at h;rcases IV (h (v,aE (o,m*sz)) (by simp[vh])) g with⟨d,c⟩|⟨t,cs,ds,d,c,e,j⟩
  .rw[d,c]
  .grind
 case lookup kk z ok m k=>
  congr 1;simp only[gT]at h;unfold Cf;split<;>first|rfl|skip
  rename_i v kv b _;rw[b]at h;rw[SH (h (v,bs) (by simp[nI]))]
 case mapUpd kk m k x=>
  simp only[gT]at h;unfold As;split<;>first|rfl|skip
  rename_i v kv b _;rw[b]at h;rw[SH (h (v,bs) (by simp[nI]))]
 case b2s x=>
  congr 1;simp only[gT]at h;unfold Dr;rw[TP (sz:=1) h]
 case len k x=>
  congr 1;unfold mY;split<;>first|rfl|skip
  rename_i v b;simp only[gT]at h;rw[b]at h;rw[SH (h (v,bs) (by simp[nI]))]
 case app t sz PQ x y=>
  simp only[gT]at h;unfold sX;rw[TP (sz:=sz) h.right];split<;>first|rfl|skip
  split<;>first|rfl|skip
  rename_i v g p off len b;rw[b]at h;rw[OZ (h (v,bs) (by simp[nI]))]
 case copy sz x y=>
  simp only[gT]at h;unfold zC;rw[TP (sz:=sz) h.right];split<;>first|rfl|skip
  rename_i v g p off len q n b _;rw[b]at h;rw[OZ (h (v,bs) (by simp[nI]))]
theorem AJ(H:gd)(v g:Nat):rowAt H v g=match rowsOf H v with|some (t,g',cs)=>if g'=g then aE (t,cs)else bs|none=>none:=by
 unfold rowAt rowsOf
 cases H[v]? with
 | none=>rfl
 | some o=>cases o<;>rfl
theorem IS:∀(k:Nat) (d:D),(∀v∈iB H1 k d,rowsOf H1 v=rowsOf H2 v)->iB H2 k d=iB H1 k d/\gw (λ_=>bs) H2 k d=gw (λ_=>bs) H1 k d
 | 0,d,_=>⟨rfl,rfl⟩
 | k+1,d,h=>by
  have f:∀(ds:List D),(∀v∈(ds.map (iB H1 k)).flatten,rowsOf H1 v=rowsOf H2 v)->ds.map (iB H2 k)=ds.map (iB H1 k)/\ds.map (gw (λ_=>bs) H2 k)=ds.map (gw (λ_=>bs) H1 k):=by intro ds q;have h1:∀d∈ds,∀v∈iB H1 k d,rowsOf H1 v=rowsOf H2 v:=λd j v c=>q v (bk.2 ⟨_,az.2 ⟨d,j,rfl⟩,c⟩);exact⟨au λd j=>(IS k d (h1 d j)).1,au λd j=>(IS k d (h1 d j)).2⟩
  unfold iB at h;unfold iB gw
  by_cases r:closed d=ez
  .grind
  .simp only[if_neg r]at h ⊢
   cases d with
   | agg cs=>obtain⟨a,b⟩:=f cs h;simp only[a,b,and_self]
   | tup cs=>obtain⟨a,b⟩:=f cs h;simp only[a,b,and_self]
   | gC cs=>obtain⟨a,b⟩:=f cs h;simp only[a,b,and_self]
   | sl sz es=>
    have h1:∀e∈es,e.map (iB H2 k)=e.map (iB H1 k)/\e.map (gw (λ_=>bs) H2 k)=e.map (gw (λ_=>bs) H1 k):=λe i=>f e λv c=>h v (bk.2 ⟨_,az.2 ⟨e,i,rfl⟩,c⟩);have a:es.map (λe=>(e.map (iB H2 k)).flatten)=es.map (λe=>(e.map (iB H1 k)).flatten):=au λe i=>by rw[(h1 e i).1]
    have b:es.map (λx=>x.map (gw (λ_=>bs) H2 k))=es.map (λx=>x.map (gw (λ_=>bs) H1 k)):=au λe i=>(h1 e i).2;simp only[a,b,and_self]
   | fn g x y=>
    obtain⟨a,b⟩:=f x λv c=>h v (bz _ c);obtain⟨w,s⟩:=f y λv c=>h v (bL _ c);simp only[a,b,w,s,and_self]
   | gf v g sz off len=>
    have c:rowsOf H1 v=rowsOf H2 v:=h v fZ;simp only[AJ,<-c]
    cases m:rowsOf H1 v with
    | none=>exact⟨rfl,rfl⟩
    | some p=>
     obtain⟨t,o,cs⟩:=p;obtain⟨l,l2⟩:=f cs λu n=>h u (by simp only[m];exact bf _ n);refine⟨by simp only[l],?_⟩
     by_cases hg:o=g
     .grind
     .grind
   | ptr v g off=>
    have c:rowsOf H1 v=rowsOf H2 v:=h v fZ;simp only[AJ,<-c]
    cases m:rowsOf H1 v with
    | none=>exact⟨rfl,rfl⟩
    | some p=>
     obtain⟨t,o,cs⟩:=p;obtain⟨l,l2⟩:=f cs λu n=>h u (by simp only[m];exact bf _ n);refine⟨by simp only[l],?_⟩
     by_cases hg:o=g
     .grind
     .grind
   | _=>exact⟨rfl,rfl⟩
