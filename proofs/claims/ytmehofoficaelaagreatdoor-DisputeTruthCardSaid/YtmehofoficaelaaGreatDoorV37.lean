/- Part 37 of DisputeTruth. -/
import Derived.Test.YtmehofoficaelaaGreatDoorV36
set_option linter.all false
namespace Go.Proofs.YtmehofoficaelaaGreatDoor
open Go Go.AL Classical
set_option maxRecDepth 10000
set_option maxHeartbeats 4000000
theorem Pg:∀(n:Nat) (a b:List Int),a.length=n->b.length=n->mr (List.replicate n mq.int) (cl fU a) (cl fU b)=some (decide (a=b))
 | 0,[],[],_,_=>by simp[nX,mr]
 | n+1,x::a,y::b,ha,hb=>by
  have c:=Pg n a b (by simpa using ha) (by simpa using hb);rw[mO,mO,y8,y8,bn]
  show(match uc .int (.val (.int .u8 x)) (.val (.int .u8 y)),mr (List.replicate n mq.int) (cl fU a) (cl fU b)with
   | some a,some b=>some (a&&b)
   | _,_=>none)=_
  rw[c];show some (decide (x=y)&&decide (a=b))=_;rw[<-dF];congr 1;exact decide_eq_decide.2 (by simp)
def OV:List mq:=List.replicate 32 mq.int
theorem Ul:OV = [.int,.int,.int,.int,.int,.int,.int,.int,.int,.int,.int,.int,.int,.int,.int,.int,.int,.int,.int,.int,.int,.int,.int,.int,.int,.int,.int,.int,.int,.int,.int,.int]:=rfl
def dE(em:Bool)(es:List fO):D:=if em then .fX else ie es
structure Cw where
 c:gA
 em:Bool
 deriving Inhabited
def Cw.cells(x:Cw):List D:=[.i x.c.who,.i x.c.lo,.i x.c.hi,dE x.em x.c.es]++cl fU x.c.root
structure Cw.ok(x:Cw):Prop where
 em:x.em=true->x.c.es = []
 es:x.c.es.length<=64
 root:x.c.root.length=32
 lo : -1000000<=x.c.lo/\x.c.lo<=1000000
 hi : -1000000<=x.c.hi/\x.c.hi<=1000000
theorem Vj{em:Bool}{es:List fO}(h:em=true->es = []):dV es (dE em es):=by
 unfold dE;cases em
 .exact .inl rfl
 .exact .inr ⟨h rfl,rfl⟩
theorem Py{em:Bool}{es:List fO}(h:em=true->es = [])(H:U):mK .slice (dE em es) H=some (.i es.length):=by
 unfold dE;cases em
 .simp
 .rw[h rfl];simp
@[simp] theorem asj(em:Bool)(es:List fO):closed (dE em es)=true:=by unfold dE;cases em<;>simp
def snd(c:gA):Bool:=decide (0<=c.lo/\c.lo<=c.hi/\(c.es.length:Int)=c.hi-c.lo/\c.root=kj c.es)
theorem adr(x:Cw)(b:x.ok):Wf T 48 [.agg x.cells] [] (Is (.b (snd x.c))):=by
 have e:=adu (Vj b.em) b.es;have f:=Aa x.c.es;have i:=b.root;have n:=b.lo;have o:=b.hi;have m:=b.es;have a:=Py b.em;obtain⟨⟨who,lo,hi,es,root⟩,em⟩:=x;unfold Cw.cells snd;dsimp only at *;obtain⟨r,l⟩:∃r,kj es=r:=⟨_,rfl⟩;rw[l]at e f ⊢;obtain⟨E,g⟩:∃E,dE em es=E:=⟨_,rfl⟩;have j:closed E=true:=by rw[<-g];simp
 rw[g]at e a ⊢;have k:root.take 32=root:=af (by omega);have c:=Pg 32 root r i f;rw[show List.replicate 32 mq.int=OV from rfl,Ul]at c
 by_cases h1:0<=lo
 .by_cases d:lo<=hi
  .by_cases h:(es.length:Int)=hi-lo
   .refine Yg vW ?_;simp[vW,h1,d,a];refine jH a ?_;refine iW.c rfl rfl e (by simp[j]) (by simp) ?_;simp[k,c,h]
   .refine Yg vW ?_;simp[vW,h1,d,a];refine jH a ?_;simp[h]
  .refine Yg vW ?_;simp[vW,h1,d]
 .refine Yg vW ?_;simp[vW,h1]
theorem adM(x:Cw)(b:x.ok):Wf T 127 [.agg x.cells] [] (Is (.b (snd x.c))):=by
 have e:=PQ (Vj b.em) b.es;have f:=Aa x.c.es;have i:=b.root;have n:=b.lo;have o:=b.hi;have m:=b.es;have a:=Py b.em;obtain⟨⟨who,lo,hi,es,root⟩,em⟩:=x;unfold Cw.cells snd;dsimp only at *;obtain⟨r,l⟩:∃r,kj es=r:=⟨_,rfl⟩;rw[l]at e f ⊢;obtain⟨E,g⟩:∃E,dE em es=E:=⟨_,rfl⟩;have j:closed E=true:=by rw[<-g];simp
 rw[g]at e a ⊢;have k:root.take 32=root:=af (by omega);have c:=Pg 32 root r i f;rw[show List.replicate 32 mq.int=OV from rfl,Ul]at c
 by_cases h1:0<=lo
 .by_cases d:lo<=hi
  .by_cases h:(es.length:Int)=hi-lo
   .refine Yg vY ?_;simp[vY,h1,d,a];refine jH a ?_;refine iW.c rfl rfl e (by simp[j]) (by simp) ?_;simp[k,c,h]
   .refine Yg vY ?_;simp[vY,h1,d,a];refine jH a ?_;simp[h]
  .refine Yg vY ?_;simp[vY,h1,d]
 .refine Yg vY ?_;simp[vY,h1]
@[irreducible] def Ee(l:List Int):List Int:=(l++zs 32).take 32
theorem amo(l:List Int):(Ee l).length=32:=by unfold Ee;simp
theorem SR{l:List Int}(h:l.length=32):Ee l=l:=by unfold Ee;rw[aU (by omega),af (by omega)]
@[irreducible] def gT(x:Cw):List D:=[.i x.c.who,.i x.c.lo,.i x.c.hi,dE x.em x.c.es]++cl fU (Ee x.c.root)
theorem FX(x:Cw):gT x = [.i x.c.who,.i x.c.lo,.i x.c.hi,dE x.em x.c.es]++cl fU (Ee x.c.root):=by unfold gT;rfl
theorem Mx{x:Cw}(h:x.ok):gT x=x.cells:=by rw[FX,SR h.root];rfl
instance:Fl gT 36:=⟨λx=>by rw[FX];simp[amo],λx=>by rw[FX];simp[gw]⟩
def iY(n:Int)(c:gA):Bool:=snd c&&decide (c.hi<=n)
noncomputable def tv(V:List fO)(c:gA):Bool:=iY V.length c&&decide (∀i:Int,c.lo<=i->i<c.hi->ky c i=gt V i)
theorem Im{c:gA}(h:snd c=true):0<=c.lo/\c.lo<=c.hi/\(c.es.length:Int)=c.hi-c.lo:=by unfold snd at h;have:=of_decide_eq_true h;exact⟨this.1,this.2.1,this.2.2.1⟩
theorem ady(x:Cw)(a:x.ok)(i:Int):Wf T 68 [.agg x.cells,.i i] [] (Is (.b (jC x.c i))):=by
 obtain⟨⟨who,lo,hi,es,root⟩,em⟩:=x;have b:=a.root;unfold Cw.cells jC;dsimp only at *
 by_cases h1:lo<=i
 .refine Yg Cq ?_;simp[Cq,h1]
 .refine Yg Cq ?_;simp[Cq,h1]
theorem adz(x:Cw)(d:x.ok)(n:Int):Wf T 69 [.agg x.cells,.i n] [] (Is (.b (iY n x.c))):=by
 have c:=adM x d;have a:=d.root;have g:(x.cells).length=36:=by unfold Cw.cells;simp[a]
 have f:x.cells.take 36=x.cells:=af (by omega);unfold iY;obtain⟨b,e⟩:∃b,snd x.c=b:=⟨_,rfl⟩;rw[e]at c ⊢;obtain⟨⟨who,lo,hi,es,root⟩,em⟩:=x;unfold Cw.cells at *;dsimp only at *;simp only[bQ,bp]at c;refine Yg I4 ?_;simp[I4,a];refine Yc (c) ?_;simp;cases b
 .exact mE
 .exact mE
theorem adj(x:Cw)(a:x.ok)(V:List fO)(v:V.length<=64):Wf T 22 [.agg x.cells,ie V] [] (Is (.b (tv V x.c))):=by
 have c:=adz x a V.length;have g:=a.root;have p:=a.em;have r:=a.lo;have z:=a.hi;unfold tv
 have k:iY V.length x.c=true->0<=x.c.lo/\x.c.lo<=x.c.hi/\(x.c.es.length:Int)=x.c.hi-x.c.lo/\x.c.hi<=V.length:=λh=>by unfold iY at h;rw[Bool.and_eq_true,decide_eq_true_iff]at h;have:=Im h.1;exact⟨this.1,this.2.1,this.2.2,h.2⟩
 have q:∀i,ky x.c i=gt x.c.es (i-x.c.lo):=λ_=>rfl;obtain⟨b,n⟩:∃b,iY V.length x.c=b:=⟨_,rfl⟩;rw[n]at c k ⊢;simp only[q];obtain⟨⟨who,lo,hi,es,root⟩,em⟩:=x;unfold Cw.cells at *;dsimp only at *;simp only[bQ,bp]at c;cases b
 .refine Yg Co ?_;simp[Co,g];refine Yc (c) ?_;simp
 .obtain⟨u,t,l2,s⟩:=k rfl;rw[dZ];refine Yg Co ?_;simp[Co,g];refine Yc (c) ?_;simp;refine fZ.e lo (λy=>[(1,ie V),(2,.ptr 0 0 0),(5,.i y)]) (λy=>[.row 72 0 (D.i who::D.i lo::D.i hi::dE em es::cl fU root)]) (λy=>(lo<=y/\y<=hi)/\∀j:Int,lo<=j->j<y->gt es (j-lo)=gt V j) (λy=>(hi-y).toNat) ?_ ?_
  .exact⟨by simp;omega,λj j0 j1=>by omega⟩
  rintro i ⟨⟨i0,m⟩,f⟩;dsimp only at i0 m f ⊢
  by_cases d:i<hi
  .have o:em=false:=by
    cases em
    .rfl
    .have:=p rfl;rw[this]at l2;simp at l2;omega
   subst o
   have hP:(∀j:Int,lo<=j->j<hi->gt es (j-lo)=gt V j)->(gt es (i-lo)).1=(gt V i).1/\(gt es (i-lo)).2=(gt V i).2:=λh=>by rw[h i i0 d];exact⟨rfl,rfl⟩
   simp[d,dE];(with_reducible repeat' first|refine Xk ?_<;>try simp|refine Xs ?_ ?_<;>intro h<;>(try intro w)<;>(try simp[h])<;>try omega|refine Xg ?_|omega)
   .refine LJ.e (i+1) ?_;refine⟨by omega,im,λj j0 j1=>?_⟩
    by_cases e:j=i
    .rw[e];exact cO (by assumption) (by assumption)
    .exact f j j0 (by omega)
   .exact⟨i,i0,d,λe=>h ⟨by rw[e],by rw[e]⟩⟩
  .have l:i=hi:=by omega
   subst l;simp;exact f
def Ps(L:List Cw)(V:List fO):Prop:=∀i:Int,0<=i->i<V.length->∃x∈L,jC x.c i=true/\tv V x.c=true
theorem adi(L:List Cw)(A:∀x∈L,x.ok)(C:L.length<=4000000000)(V:List fO)(B:V.length<=64):Wf T 21 [.sl 36 (L.map gT),ie V] [] (Is (.b (decide (Ps L V)))):=by
 refine Yg IT ?_;simp[IT];refine fZ.e (0:Int) (λy=>[(0,.sl 36 (L.map gT)),(1,ie V),(5,.i y)]) (λy=>[]) (λy=>(0<=y/\y<=V.length)/\∀i:Int,0<=i->i<y->∃x∈L,jC x.c i=true/\tv V x.c=true) (λy=>(V.length-y).toNat) ?_ ?_
 .exact⟨by simp,λj j0 j1=>by omega⟩
 rintro i ⟨⟨i0,v⟩,n⟩;dsimp only at i0 v n ⊢
 by_cases hi:i<V.length
 .simp[hi];refine fZ.e ((0,false):Int×Bool) (λy=>[(0,.sl 36 (L.map gT)),(1,ie V),(5,.i i),(6,.b y.2),(7,.i y.1)]) (λy=>[]) (λy=>(0<=y.1/\y.1<=L.length)/\(y.2=true↔∃x∈L.take y.1.toNat,jC x.c i=true/\tv V x.c=true)) (λy=>(L.length-y.1).toNat) ?_ ?_
  .simp
  rintro⟨k,b⟩ ⟨⟨k0,k1⟩,d⟩;dsimp only at k0 k1 d ⊢
  by_cases m:k<L.length
  .have e:=Ck (l:=L) k0 m;have a:=A _ (gq k0 m);have o:=ady (gt L k) a i;have c2:=adj (gt L k) a V B
   have c:(∃x∈L.take (k+1).toNat,jC x.c i=true/\tv V x.c=true)↔(b||(jC (gt L k).c i&&tv V (gt L k).c))=true:=by
    rw[e,bM,d,Bool.and_eq_true];constructor
    .rintro⟨x,a,h⟩;rcases List.mem_append.1 a with a|a
     .exact .inl ⟨x,a,h⟩
     .rw[List.mem_singleton]at a;subst a;exact .inr h
    .rintro(⟨x,a,h⟩|h)
     .exact⟨x,bt _ a,h⟩
     .exact⟨_,bB _ (List.mem_singleton.2 rfl),h⟩
   rw[<-Mx a]at o c2;have g:(gT (gt L k)).length=36:=Fl.len _;obtain⟨p,z⟩:∃p,jC (gt L k).c i=p:=⟨_,rfl⟩;obtain⟨q,w⟩:∃q,tv V (gt L k).c=q:=⟨_,rfl⟩;rw[z]at o c;rw[w]at c2 c;have r:gw (gT (gt L k))=true:=Fl.cl _;have f:(gT (gt L k)).take 36=gT (gt L k):=af (by omega);cases b
   .simp[m];refine kM g f ?_;simp[g,f];refine gj.c rfl rfl o (by simp[r]) (by simp) ?_;cases p
    .simp;refine fQ ?_;refine LJ.e (k+1,false) ?_;exact⟨by omega,im,by rw[c];simp⟩
    .simp;refine kM g f ?_;simp[g,f];refine gj.c rfl rfl c2 (by simp[r]) (by simp) ?_;simp;refine fQ ?_;refine LJ.e (k+1,q) ?_;exact⟨by omega,im,by rw[c];simp⟩
   .simp[m];refine fQ ?_;refine LJ.e (k+1,true) ?_;exact⟨by omega,im,by rw[c];simp⟩
  .have s:k=L.length:=by omega
   subst s;rw[af (by omega)]at d;cases b
   .simp;refine fQ ?_
    have t:¬Ps L V:=λh=>by obtain⟨x,a⟩:=h i i0 hi;have:=d.2 ⟨x,a⟩;cases this
    exact t
   .simp;refine fQ ?_;refine LJ.e (i+1) ?_;refine⟨by omega,im,λj j0 j1=>?_⟩
    by_cases e:j=i
    .rw[e];exact d.1 rfl
    .exact n j j0 (by omega)
 .have u:i=V.length:=by omega
  subst u;simp;exact n
structure ISl(l:List Int)(d:D):Prop where
 cl:closed d=true
 len:∀H,mK .slice d H=some (.i l.length)
 idx:∀(n:Int) (k:IntKind) (P:D->Prop),oA (mB 1 d (.val (.int k n))) P .mk=((0<=n/\n<l.length)/\P (.gi [.i (gt l n)]))
structure RSl(l:List fO)(d:D):Prop where
 cl:closed d=true
 len:∀H,mK .slice d H=some (.i l.length)
 idx:∀(n:Int) (k:IntKind) (P:D->Prop),oA (mB 2 d (.val (.int k n))) P .mk=((0<=n/\n<l.length)/\P (.gi [.i (gt l n).1,.i (gt l n).2]))
set_option maxHeartbeats 8000000
def vK(m:Int)(r:fO):Int:=if r.1≠2/\(m<0\/r.2<m)then r.2 else m
def wX(l:List fO):Int:=l.foldl vK (-1)
theorem agS(l:List fO)(r:fO):wX (l ++ [r])=vK (wX l) r:=by unfold wX;rw[List.foldl_append];rfl
theorem dd(a b:Int)(q:fO):(!decide (a=q.1) || !decide (b=q.2)) = !decide ((a,b)=q):=by obtain⟨x,y⟩:=q;rw[<-Bool.not_and,<-dF];congr 1;exact decide_eq_decide.2 (by simp)
def Cw.full(x:Cw):Prop:=x.ok/\(x.c.lo<x.c.hi->(x.c.es.length:Int)=x.c.hi-x.c.lo)
theorem Cw.Wv{x:Cw}(h:x.full){i:Int}(a:jC x.c i=true):x.em=false/\x.c.lo<=i/\i-x.c.lo<x.c.es.length:=by
 unfold jC at a;rw[decide_eq_true_iff]at a;have b:=h.2 (by omega);refine⟨?_,a.1,by omega⟩
 cases e:x.em with
 | false=>rfl
 | true=>
  have:=h.1.em e;rw[this]at b;simp at b;omega
def cs(L:List Cw):List gA:=L.map Cw.c
def jX(p:gA->Bool):List gA->Nat->List Int
 | _,0=>[]
 | cl,n+1=>if p (gt cl (n:Int))=true then jX p cl n ++ [(n:Int)]else jX p cl n
end Go.Proofs.YtmehofoficaelaaGreatDoor
namespace Go.Proofs.YtmehofoficaelaaGreatDoor
open Go Go.AL Classical
def idx(p:gA->Bool)(cl:List gA):List Int:=(upto cl.length).filter λk=>p (gt cl k)
theorem BM{p:gA->Bool}{cl:List gA}{k:Int}:k∈idx p cl↔(0<=k/\k<cl.length)/\p (gt cl k)=true:=by unfold idx;rw[aM,iS]
theorem x8{p:gA->Bool}{cl:List gA}:idx p cl≠[]↔∃c∈cl,p c=true:=by
 constructor
 .intro h;obtain⟨k,a⟩:=cI _ h;rw[BM]at a;exact⟨_,gq a.1.1 a.1.2,a.2⟩
 .rintro⟨c,d,b⟩ h;obtain⟨k,k0,k1,rfl⟩:=vL.1 d;have:k∈idx p cl:=BM.2 ⟨⟨k0,k1⟩,b⟩;rw[h]at this;cases this
inductive Jd where
 | v (a:Int) (l:List Int)
 | none
 | AF
 deriving DecidableEq
def Fk(cl:List gA)(a i:Int):Int:=if mu (sd cl i)=true/\(a<0\/lZ (sd cl i)<lZ (sd cl a))then i else a
def kT(cl:List gA)(n:Nat):Int:=(upto n).foldl (Fk cl) (-1)
noncomputable def mS(A:l6)(n:Nat)(ad:gA->Bool)(cl:List gA):Jd:=
 if idx (λc => !ad c) cl≠[]then .v (-1) (idx (λc => !ad c) cl)
 else if∃i∈upto n,sd cl i = []then .AF
 else match (upto n).find? λi=>decide (idx (λc=>jC c i && !ln (ky c i)) cl≠[])with
  | some i=>.v i (idx (λc=>jC c i && !ln (ky c i)) cl)
  | Option.none=>if kT cl n<0 then .none else .v (kT cl n) (idx (qw A cl (kT cl n)) cl)
theorem ID(n:Nat):upto (n+1)=upto n ++ [(n:Int)]:=by simp[upto,List.range_succ]
theorem Fj(cl:List gA):∀n:Nat,(kT cl n = -1/\∀j:Int,0<=j->j<n->mu (sd cl j)=false) \/
  ((0<=kT cl n/\kT cl n<n)/\mu (sd cl (kT cl n))=true/\∀j:Int,0<=j->j<n->mu (sd cl j)=true->lZ (sd cl (kT cl n))<=lZ (sd cl j))
 | 0=>.inl ⟨rfl,λj h0 h1=>by omega⟩
 | n+1=>by
  have e:kT cl (n+1)=Fk cl (kT cl n) n:=by unfold kT;rw[ID,List.foldl_append];rfl
  rw[e];generalize c:kT cl n=a;have b:=Fj cl n;rw[c]at b;unfold Fk
  by_cases d:mu (sd cl n)=true
  .grind
  .grind
def xi(V:List fO)(ad:gA->Bool)(c:gA):Prop:=ad c=true/\∀i,jC c i=true->ky c i=gt V i
section
variable{A:l6}{V:List fO}{cl:List gA}{n:Nat}{ad:gA->Bool}
theorem agk(gy:∀i:Int,0<=i->i<n->∀k∈gt A.nx i,0<=k/\k<n)(hV:∀i:Int,0<=i->i<n->kn A V i)(rC:∀i:Int,0<=i->i<n->ln (gt V i)=true)
  (w:∀i:Int,0<=i->i<n->∃c∈cl,xi V ad c/\jC c i=true) (y:∀c,ad c=true->∀i,jC c i=true->0<=i/\i<n) {a:Int} {l:List Int} (h:mS A n ad cl = .v a l) :
  l≠[]/\(-1<=a/\a<n)/\∀k∈l,¬xi V ad (gt cl k):=by
 unfold mS at h;split at h
 .rename_i v;cases h;exact⟨v,by omega,λk f g=>by have:=(BM.1 f).2;rw[g.1]at this;cases this⟩
 rename_i q;split at h
 .cases h
 have q:∀c∈cl,ad c=true:=λc u=>by
  cases e:ad c with
  | true=>rfl
  | false=>exact absurd (x8.2 ⟨c,u,by simp[e]⟩) q
 split at h
 .rename_i i hi;cases h;have h1:=List.find?_some hi;have b:=eY hi;rw[iS]at b;refine⟨by simpa using h1,by omega,λk f g=>?_⟩;have d:=(BM.1 f).2;simp only[Bool.and_eq_true,dp]at d;rw[g.2 _ d.1,rC _ b.1 b.2]at d;cases d.2
 .rename_i m;split at h
  .cases h
  rename_i z;cases h
  have s:∀i:Int,0<=i->i<n->∀r∈sd cl i,ln r=true:=λi i0 j r t=>by
   rw[dj]at m;have:=m i (iS.2 ⟨i0,j⟩);obtain⟨c,h1,b,rfl⟩:=sf.1 t
   cases e:ln (ky c i)with
   | true=>rfl
   | false=>exact absurd (x8 (p:=λc=>jC c i && !ln (ky c i)) |>.2 ⟨c,h1,by simp[b,e]⟩) (by simpa using this)
  rcases Fj cl n with⟨e,_⟩|⟨h1,b,d⟩
  .omega
  refine⟨x8.2 (abb (s _ h1.1 h1.2) b),by omega,λk f g=>?_⟩;have o:=BM.1 f;have x:jC (gt cl k) (kT cl n)=true:=by have:=o.2;unfold qw at this;rw[Bool.and_eq_true]at this;exact this.1
  have:=aoc (cl:=cl) (N:=(n:Int)) gy hV (λi i0 j=>by
   obtain⟨c,q1,q2,q3⟩:=w i i0 j
   exact sf.2 ⟨c,q1,q3,q2.2 i q3⟩) h1.1 h1.2 d (c:=gt cl k) (g.2 _ x)
  rw[o.2]at this;cases this
theorem Yj(h:mS A n ad cl = .none):(∀c∈cl,ad c=true)/\∀i:Int,0<=i->i<n->sd cl i≠[]/\mu (sd cl i)=false:=by
 unfold mS at h;split at h
 .cases h
 rename_i d;split at h
 .cases h
 rename_i a
 refine⟨λc a=>by
  cases e:ad c with
  | true=>rfl
  | false=>exact absurd (x8.2 ⟨c,a,(by show(!ad c)=true;rw[e];rfl)⟩) d,?_⟩
 split at h
 .cases h
 split at h
 .rename_i f;rcases Fj cl n with⟨_,e⟩|⟨h1,_,_⟩
  .exact λi i0 b=>⟨λh0=>a ⟨i,iS.2 ⟨i0,b⟩,h0⟩,e i i0 b⟩
  .omega
 .cases h
theorem age(h:mS A n ad cl = .AF):∃i:Int,(0<=i/\i<n)/\sd cl i = []:=by
 unfold mS at h;split at h
 .cases h
 split at h
 .rename_i a;obtain⟨i,hi,e⟩:=a;exact⟨i,iS.1 hi,e⟩
 split at h
 .cases h
 split at h<;>cases h
end
end Go.Proofs.YtmehofoficaelaaGreatDoor
namespace Go.Proofs.YtmehofoficaelaaGreatDoor
open Go Go.AL Classical
@[simp] theorem avA(o:Int):jq [] o = []:=rfl
@[simp] theorem avv:sT [] = -1:=rfl
@[simp] theorem avu:yi [] = -1:=rfl
theorem ag6(l:List Int)(x:Int):sT (l ++ [x])=if l = []then x else min (sT l) x:=by
 cases l with
 | nil=>rfl
 | cons a r=>simp[sT,List.foldl_append]
theorem agR{l:List fO}(h:∀r∈l,r.1≠2->0<=r.2):wX l=lZ l:=by
 suffices ∀(l m:List fO),(∀r∈m++l,r.1≠2->0<=r.2)->l.foldl vK (lZ m)=lZ (m++l)from by have:=this l [] (by simpa using h);rw[bp]at this;exact this
 intro l
 induction l with
 | nil=>intro m _;simp
 | cons a r i=>
  intro m c;rw[b7]
  have e:vK (lZ m) a=lZ (m ++ [a]):=by
   unfold vK;have g:=c a (by simp);unfold lZ;rw[dh,List.map_append]
   by_cases d:a.1=2
   .grind
   .have g:=g d;have hs:((([a]:List fO).filter λr=>decide (r.1≠2)).map λr=>r.2) = [a.2]:=by simp[d]
    rw[hs,ag6]
    by_cases b:((m.filter λr=>decide (r.1≠2)).map λr=>r.2) = []
    .rw[if_pos b,b];rw[if_pos ⟨d,.inl (by decide)⟩]
    .rw[if_neg b];have j:=zT b;obtain⟨q,f,n⟩:=ao.1 j;rw[aM]at f;have k:=c q (by simp[f.1]) (by simpa using f.2)
     by_cases hl:a.2<sT ((m.filter λr=>decide (r.1≠2)).map λr=>r.2)
     .grind
     .grind
  rw[e,i (m ++ [a]) (by simpa using c)];simp
def xD(cl:List gA)(n j:Int):fO:=if mu (sd cl j)=false/\(nc (sd cl j)).2<n then nc (sd cl j)else(2,0)
theorem Zf(A:l6)(cl:List gA)(i n:Int):HC A cl i n=(gt A.nx i).map (xD cl n):=rfl
theorem Yh{p q:gA->Bool}{cl:List gA}:∀ {n:Nat},n<=cl.length->(∀c∈cl,p c=q c)->jX p cl n=jX q cl n
 | 0,_,_=>rfl
 | n+1,h,hp=>by rw[jX,jX,Yh (by omega) hp,hp _ (gq (by omega) (by omega))]
theorem vG(p:gA->Bool)(cl:List gA):jX p cl cl.length=idx p cl:=by
 unfold idx
 suffices ∀n:Nat,jX p cl n=(upto n).filter λk=>p (gt cl k)from this _
 intro n
 induction n with
 | zero=>rfl
 | succ n a=>
  rw[jX,a,ID,dh]
  by_cases h:p (gt cl (n:Int))=true
  .grind
  .grind
end Go.Proofs.YtmehofoficaelaaGreatDoor
namespace Go.Proofs.YtmehofoficaelaaGreatDoor
open Go Go.AL Classical
def mC(left ls:List Int):List Int:=((upto left.length).filter λp => !ls.contains p).map λp=>gt left p
noncomputable def Cg(A:l6)(n:Nat)(ad:gA->Bool)(cl:List gA):Nat->List Int->List Int×Jd
 | 0,left=>(left,.none)
 | f+1,left=>match mS A n ad (left.map λk=>gt cl k)with
  | .v _ ls=>Cg A n ad cl f (mC left ls)
  | j=>(left,j)
theorem Zc{left ls:List Int}{k:Int}:k∈mC left ls↔∃p:Int,(0<=p/\p<left.length)/\p ∉ ls/\gt left p=k:=by
 unfold mC;rw[ao];constructor
 .rintro⟨p,a,e⟩;rw[aM,iS]at a;exact⟨p,a.1,by simpa using a.2,e⟩
 .rintro⟨p,h1,b,e⟩;exact⟨p,aM.2 ⟨iS.2 h1,by simpa using b⟩,e⟩
theorem aak{left ls:List Int}{k:Int}(h:k∈mC left ls):k∈left:=by obtain⟨p,h1,_,rfl⟩:=Zc.1 h;exact gq h1.1 h1.2
theorem pd(n:Nat):(upto n).length=n:=by simp[upto]
theorem aai{left ls:List Int}{p:Int}(c:p∈ls)(h0:0<=p)(h1:p<left.length):(mC left ls).length<left.length:=by
 unfold mC;rw[List.length_map];have a:=List.length_filter_le (λp => !ls.contains p) (upto left.length);rw[pd]at a;refine Nat.lt_of_le_of_ne a λe=>?_;have:(upto left.length).length=left.length:=pd _;rw[<-this]at e;rw[this]at e;have b:((upto left.length).filter λp => !ls.contains p).length=(upto left.length).length:=by rw[e,this]
 rw[eo]at b;have:=b p (iS.2 ⟨h0,h1⟩);simp[c]at this
section
variable{A:l6}{V:List fO}{cl:List gA}{n:Nat}{ad:gA->Bool}
theorem aeV{left:List Int}{p:Int}(h0:0<=p)(h1:p<left.length):gt (left.map λk=>gt cl k) p=gt cl (gt left p):=by rw[jb h0 (by rw[List.length_map];exact h1),List.getElem_map,jb h0 h1]
theorem aaJ(gy:∀i:Int,0<=i->i<n->∀k∈gt A.nx i,0<=k/\k<n)(hV:∀i:Int,0<=i->i<n->kn A V i)(rC:∀i:Int,0<=i->i<n->ln (gt V i)=true)
  (t:∀c,ad c=true->∀i,jC c i=true->0<=i/\i<n) :
  ∀(f:Nat) (left:List Int),left.length<f->(∀k∈left,0<=k/\k<cl.length)->(∀i:Int,0<=i->i<n->∃k∈left,xi V ad (gt cl k)/\jC (gt cl k) i=true) ->
   (∀k:Int,0<=k->k<cl.length->xi V ad (gt cl k)->k∈left) ->
   ∃L,Cg A n ad cl f left=(L,.none)/\(∀k,k∈L↔(0<=k/\k<cl.length)/\xi V ad (gt cl k))/\(∀k∈L,k∈left)/\∀i:Int,0<=i->i<n->nc (sd (L.map λk=>gt cl k) i)=gt V i
 | 0,left,h,_,_,_=>by omega
 | f+1,left,h,o,hc,g=>by
  have u:∀i:Int,0<=i->i<n->∃c∈left.map (λk=>gt cl k),xi V ad c/\jC c i=true:=λi i0 d=>by obtain⟨k,h1,l⟩:=hc i i0 d;exact⟨_,ao.2 ⟨k,h1,rfl⟩,l⟩
  rw[Cg]
  cases b:mS A n ad (left.map λk=>gt cl k)with
  | v a ls=>
   obtain⟨h1,l,C⟩:=agk gy hV rC u t b;obtain⟨p,s⟩:=cI _ h1
   have H:∀p∈ls,0<=p/\p<left.length:=by
    have:∀(q:gA->Bool),∀p∈idx q (left.map λk=>gt cl k),0<=p/\p<left.length:=λq p s=>by have:=(BM.1 s).1;rw[List.length_map]at this;exact this
    unfold mS at b;split at b
    .cases b;exact this _
    split at b
    .cases b
    split at b
    .cases b;exact this _
    split at b
    .cases b
    .cases b;exact this _
   have x:=H p s
   have keep:∀k∈left,xi V ad (gt cl k)->k∈mC left ls:=λk g j=>by obtain⟨q,q0,q1,rfl⟩:=vL.1 g;refine Zc.2 ⟨q,⟨q0,q1⟩,λB=>?_,rfl⟩;have:=C q B;rw[aeV q0 q1]at this;exact this j
   obtain⟨L,G,F,E,D⟩:=aaJ gy hV rC t f (mC left ls) (by have:=aai s x.1 x.2;omega) (λk g=>o k (aak g)) (λi i0 d=>by
    obtain⟨k,k1,k2,k3⟩:=hc i i0 d
    exact⟨k,keep k k1 k2,k2,k3⟩) (λk k0 k1 j=>keep k (g k k0 k1 j) j)
   exact⟨L,G,F,λk g=>aak (E k g),D⟩
  | none=>
   obtain⟨h1,l⟩:=Yj b
   have z:∀i:Int,0<=i->i<n->∀r∈sd (left.map λk=>gt cl k) i,r=gt V i:=λi i0 d r o=>by obtain⟨c,q1,q2,q3⟩:=u i i0 d;have y:=Mj.1 (l i i0 d).2;rw[y r o,<-q2.2 i q3];exact(y _ (sf.2 ⟨c,q1,q3,rfl⟩)).symm
   refine⟨left,rfl,λk=>⟨λm=>⟨o k m,?_,λi hi=>?_⟩,λj=>g k j.1.1 j.1.2 j.2⟩,λk g=>g,λi i0 d=>z i i0 d _ (C' (l i i0 d).1)⟩
   .exact h1 _ (ao.2 ⟨k,m,rfl⟩)
   .have w:=h1 _ (ao.2 ⟨k,m,rfl⟩);obtain⟨i0,d⟩:=t _ w i hi;exact z i i0 d _ (sf.2 ⟨_,ao.2 ⟨k,m,rfl⟩,hi,rfl⟩)
  | AF=>
   obtain⟨i,hi,e⟩:=age b;obtain⟨c,q1,q2,q3⟩:=u i hi.1 hi.2;have:ky c i∈sd (left.map λk=>gt cl k) i:=sf.2 ⟨c,q1,q3,rfl⟩;rw[e]at this;cases this
end
end Go.Proofs.YtmehofoficaelaaGreatDoor
namespace Go.Proofs.YtmehofoficaelaaGreatDoor
open Go Go.AL Classical
theorem We{p:Int->Bool}:∀ {n:Nat} {i:Int},0<=i->i<n->p i=true->(∀j:Int,0<=j->j<i->p j=false)->(upto n).find? p=some i
 | 0,i,h0,h1,_,_=>by omega
 | n+1,i,h0,h1,hp,hn=>by
  rw[ID,List.find?_append]
  by_cases e:i=n
  .have:(upto n).find? p=none:=dj.2 λj a=>by rw[iS]at a;rw[hn j a.1 (by omega)];simp
   rw[this,e];rw[e]at hp;simp[hp]
  .rw[We h0 (by omega) hp hn];rfl
theorem aeF{p:Int->Bool}{n:Nat}(h:∀j:Int,0<=j->j<n->p j=false):(upto n).find? p=none:=
 dj.2 λj a=>by rw[iS]at a;rw[h j a.1 a.2];simp
section
variable{A:l6}{n:Nat}{ad:gA->Bool}{cl:List gA}
def imp(cl:List gA)(i:Int):List Int:=jX (λc=>jC c i && !ln (ky c i)) cl cl.length
theorem agc(h:jX (λc => !ad c) cl cl.length≠[]):mS A n ad cl = .v (-1) (jX (λc => !ad c) cl cl.length):=by unfold mS;rw[vG]at h ⊢;rw[if_pos h]
theorem agf(h:jX (λc => !ad c) cl cl.length = []){i:Int}(i0:0<=i)(a:i<n)(hi:sd cl i = []):mS A n ad cl = .AF:=by unfold mS;rw[vG]at h;rw[if_neg (λq=>q h),if_pos ⟨i,iS.2 ⟨i0,a⟩,hi⟩]
theorem agh(h:jX (λc => !ad c) cl cl.length = [])(hs:∀j:Int,0<=j->j<n->sd cl j≠[]){i:Int}(i0:0<=i)(b:i<n)(hi:imp cl i≠[])(a:∀j:Int,0<=j->j<i->imp cl j = []):mS A n ad cl = .v i (imp cl i):=by
 unfold mS;rw[vG]at h;rw[if_neg (λq=>q h),if_neg]
 .rw[We i0 b]
  .show Jd.v i _=_;unfold imp;rw[vG]
  .rw[decide_eq_true_iff,<-vG];exact hi
  .intro j j0 j1;rw[decide_eq_false_iff_not,<-vG];exactλq=>q (a j j0 j1)
 .rintro⟨j,a,e⟩;rw[iS]at a;exact hs j a.1 a.2 e
theorem agd(h:jX (λc => !ad c) cl cl.length = [])(hs:∀j:Int,0<=j->j<n->sd cl j≠[])(a:∀j:Int,0<=j->j<n->imp cl j = []):mS A n ad cl=if kT cl n<0 then .none else .v (kT cl n) (jX (qw A cl (kT cl n)) cl cl.length):=by
 unfold mS;rw[vG]at h;rw[if_neg (λq=>q h),if_neg]
 .rw[aeF λj j0 j1=>by
   rw[decide_eq_false_iff_not,<-vG]
   exactλq=>q (a j j0 j1)]
  rw[vG]
 .rintro⟨j,a,e⟩;rw[iS]at a;exact hs j a.1 a.2 e
theorem imp_nil{i:Int}(h:imp cl i = []):∀r∈sd cl i,ln r=true:=λr a=>by
 obtain⟨c,b,h1,rfl⟩:=sf.1 a;unfold imp at h;rw[vG]at h
 cases e:ln (ky c i)with
 | true=>rfl
 | false=>exact absurd h (x8.2 ⟨c,b,by simp[h1,e]⟩)
end
end Go.Proofs.YtmehofoficaelaaGreatDoor
namespace Go.Proofs.YtmehofoficaelaaGreatDoor
open Go Go.AL Classical
abbrev jY:=List (fO×List Int)
def nP(r:fO)(k:Int):jY->jY
 | []=>[(r,[k])]
 | (q,x)::t=>if q=r then(q,x ++ [k])::t else(q,x)::nP r k t
def oW(p:gA->Bool)(s:gA->fO)(cl:List gA):Nat->jY
 | 0=>[]
 | n+1=>if p (gt cl (n:Int))=true then nP (s (gt cl (n:Int))) n (oW p s cl n)else oW p s cl n
theorem zO{p:gA->Bool}{cl:List gA}{k:Int}:∀ {n:Nat},k∈jX p cl n↔(0<=k/\k<n)/\p (gt cl k)=true
 | 0=>by simp[jX];omega
 | n+1=>by
  rw[jX]
  by_cases h:p (gt cl (n:Int))=true
  .rw[if_pos h,List.mem_append,zO,List.mem_singleton];constructor
   .grind
   .grind
  .rw[if_neg h,zO];constructor
   .grind
   .grind
theorem D3(p:gA->Bool)(cl:List gA):∀n:Nat,(jX p cl n).Pairwise (· < ·)
 | 0=>.nil
 | n+1=>by
  rw[jX]
  by_cases h:p (gt cl (n:Int))=true
  .rw[if_pos h,bN]
   exact⟨D3 p cl n,List.pairwise_singleton _ _,λa d b c=>by
    rw[List.mem_singleton]at c;have:=(zO.1 d).1
    omega⟩
  .rw[if_neg h];exact D3 p cl n
def tH(r:fO):jY->List Int
 | []=>[]
 | (q,x)::t=>if q=r then x else tH r t
theorem Ss{r q:fO}{k:Int}:∀ {G:jY},q∈(nP r k G).map (·.1)↔q=r\/q∈G.map (·.1)
 | []=>by simp[nP]
 | (a,x)::t=>by
  rw[nP]
  by_cases h:a=r
  .grind
  .rw[if_neg h,List.map_cons,aw,Ss,List.map_cons,aw];constructor
   .grind
   .grind
theorem Wy{r:fO}{k:Int}:∀ {G:jY},(G.map (·.1)).Nodup->((nP r k G).map (·.1)).Nodup
 | [],_=>by simp[nP]
 | (a,x)::t,h=>by
  rw[List.map_cons,cL]at h;rw[nP]
  by_cases e:a=r
  .grind
  .rw[if_neg e,List.map_cons,cL];refine⟨λb=>?_,Wy h.2⟩;rcases Ss.1 b with h1|h1
   .exact e h1
   .exact h.1 h1
theorem YS{r q:fO}{k:Int}:∀ {G:jY},tH q (nP r k G)=if q=r then tH q G ++ [k]else tH q G
 | []=>by
  by_cases h:q=r
  .subst h;simp[nP,tH]
  .rw[if_neg h];simp[nP,tH,cu h]
 | (a,x)::t=>by
  rw[nP]
  by_cases e:a=r
  .subst e;rw[if_pos rfl]
   by_cases h:q=a
   .subst h;simp[tH]
   .rw[if_neg h];simp[tH,cu h]
  .rw[if_neg e,tH,tH,YS]
   by_cases h:a=q
   .grind
   .grind
theorem YT{q:fO}{x:List Int}:∀ {G:jY},(G.map (·.1)).Nodup->((q,x)∈G↔q∈G.map (·.1)/\x=tH q G)
 | [],_=>by simp
 | (a,y)::t,h=>by
  rw[List.map_cons,cL]at h;rw[aw,YT h.2,List.map_cons,aw,tH]
  by_cases e:a=q
  .grind
  .grind
section
variable{p:gA->Bool}{s:gA->fO}{cl:List gA}
theorem F6:∀n:Nat,((oW p s cl n).map (·.1)).Nodup
 | 0=>.nil
 | n+1=>by
  rw[oW];split
  .exact Wy (F6 n)
  .exact F6 n
theorem WD{q:fO}:∀n:Nat,tH q (oW p s cl n)=jX (λc=>p c&&decide (s c=q)) cl n
 | 0=>rfl
 | n+1=>by
  rw[oW,jX,<-WD n]
  by_cases h:p (gt cl (n:Int))=true
  .rw[if_pos h,YS]
   by_cases e:q=s (gt cl (n:Int))
   .grind
   .grind
  .grind
theorem MJ{q:fO}:∀ {n:Nat},q∈(oW p s cl n).map (·.1)↔∃k:Int,(0<=k/\k<n)/\p (gt cl k)=true/\s (gt cl k)=q
 | 0=>by
  constructor
  .intro h;simp[oW]at h
  .grind
 | n+1=>by
  rw[oW]
  by_cases h:p (gt cl (n:Int))=true
  .rw[if_pos h,Ss,MJ];constructor
   .grind
   .grind
  .rw[if_neg h,MJ];constructor
   .grind
   .grind
theorem Qa{q:fO}{x:List Int}{n:Nat}(h:(q,x)∈oW p s cl n):x=jX (λc=>p c&&decide (s c=q)) cl n/\x≠[]:=by
 have h1:=(YT (F6 n)).1 h;rw[WD]at h1;refine⟨h1.2,λe=>?_⟩;obtain⟨k,d,b,a⟩:=MJ.1 h1.1;have:k∈x:=by rw[h1.2];exact zO.2 ⟨d,by simp[b,a]⟩
 rw[e]at this;cases this
end
def gF(cl:List gA)(i:Int):jY:=oW (λc=>jC c i) (λc=>ky c i) cl cl.length
theorem xH{cl:List gA}{i:Int}{q:fO}:q∈(gF cl i).map (·.1)↔q∈sd cl i:=by
 unfold gF;rw[MJ,sf];constructor
 .rintro⟨k,h1,b,a⟩;exact⟨_,gq h1.1 h1.2,b,a⟩
 .rintro⟨c,h1,b,a⟩;obtain⟨k,k0,k1,rfl⟩:=vL.1 h1;exact⟨k,⟨k0,k1⟩,b,a⟩
theorem ML{cl:List gA}{i:Int}:(gF cl i).length=0↔sd cl i = []:=by
 rw[ay];constructor
 .intro h;refine aT.2 λq b=>?_;have:=xH.2 b;rw[h]at this;cases this
 .intro h
  cases e:gF cl i with
  | nil=>rfl
  | cons a t=>
   have:a.1∈sd cl i:=xH.1 (by rw[e];simp);rw[h]at this;cases this
theorem F7{cl:List gA}{i:Int}:1<(gF cl i).length↔mu (sd cl i)=true:=by
 have f:((gF cl i).map (·.1)).Nodup:=F6 _;constructor
 .intro h
  cases c:mu (sd cl i)with
  | true=>rfl
  | false=>
   have c:=Mj.1 c
   match e:gF cl i,h with
   | a::b::t,_=>
    rw[e]at f;have k:a.1∈sd cl i:=xH.1 (by rw[e];simp);have j:b.1∈sd cl i:=xH.1 (by rw[e];simp);simp only[List.map_cons,cL,aw,not_or]at f;exact absurd ((c _ k).trans (c _ j).symm) f.1.1
 .intro h;unfold mu at h;rw[List.any_eq_true]at h;obtain⟨r,d,h1⟩:=h;have h1:r≠nc (sd cl i):=by simpa using h1
  have g:nc (sd cl i)∈sd cl i:=C' λe=>by rw[e]at d;cases d
  have a:=xH.2 d;have b:=xH.2 g
  match e:gF cl i with
  | []=>rw[e]at a;cases a
  | [x]=>
   rw[e]at a b;simp only[List.map_cons,List.map_nil,List.mem_singleton]at a b;exact absurd (a.trans b.symm) h1
  | x::y::t=>simp
theorem WE{cl:List gA}{i:Int}{x:fO×List Int}(h:gF cl i = [x]):x.1=nc (sd cl i):=by
 have h1:x.1∈sd cl i:=xH.1 (by rw[h];simp)
 have a:mu (sd cl i)=false:=by
  cases e:mu (sd cl i)with
  | false=>rfl
  | true=>
   have:=F7.2 e;rw[h]at this;simp at this
 exact Mj.1 a _ h1
theorem agU{a b:List fO}(h:∀r,r∈a↔r∈b):lZ a=lZ b:=by
 unfold lZ;have c:∀n,n∈(a.filter λr=>decide (r.1≠2)).map (λr=>r.2)↔n∈(b.filter λr=>decide (r.1≠2)).map (λr=>r.2):=λn=>by simp_all
 obtain⟨A,g⟩:∃A,(a.filter λr=>decide (r.1≠2)).map (λr=>r.2)=A:=⟨_,rfl⟩;obtain⟨B,f⟩:∃B,(b.filter λr=>decide (r.1≠2)).map (λr=>r.2)=B:=⟨_,rfl⟩;rw[g,f]at c ⊢
 by_cases e:A = []
 .have:B = []:=aT.2 λn d=>by grind
  rw[e,this]
 .have i:B≠[]:=λq=>e (aT.2 λn d=>by grind);exact Int.le_antisymm (BN ((c _).2 (zT i))) (BN ((c _).1 (zT e)))
theorem Ez:∀ {a b:List Int},a.Pairwise (· < ·)->b.Pairwise (· < ·)->(∀k,k∈a↔k∈b)->a=b
 | [],[],_,_,_=>rfl
 | [],y::t,_,_,h=>by have:=(h y).2 (by simp);cases this
 | x::t,[],_,_,h=>by have:=(h x).1 (by simp);cases this
 | x::s,y::t,ha,hb,h=>by
  rw[bg]at ha hb
  have e:x=y:=by
   rcases aw.1 ((h x).1 (by simp))with e|e
   .exact e
   .rcases aw.1 ((h y).2 (by simp))with c|c
    .exact c.symm
    .grind
  subst e;congr 1;refine Ez ha.2 hb.2 λk=>?_;have:=h k;rw[aw,aw]at this;constructor
  .grind
  .grind
end Go.Proofs.YtmehofoficaelaaGreatDoor
namespace Go.Proofs.YtmehofoficaelaaGreatDoor
open Go Go.AL Classical
def KS:KK:=.ints [.i64,.i64]
def lj(r:fO):Value:=.agg #[.int .i64 r.1,.int .i64 r.2]
def oI(v:Nat)(x:List Int):D:=.fM v (x.length-1) 1 0 x.length
def qp(x:List Int):Ob:=.row 3 (x.length-1) (cl f1 x)
def iM(Q:Nat->Nat):Nat->jY->List (Value×D)
 | _,[]=>[]
 | i,(q,x)::t=>(lj q,oI (Q i) x)::iM Q (i+1) t
def nQ(r:fO):jY->Option (Nat×List Int)
 | []=>none
 | (q,x)::t=>if q=r then some (0,x)else(nQ r t).map λp=>(p.1+1,p.2)
theorem YA(a b:fO):nI (lj a) (lj b)=decide (a=b):=by
 obtain⟨f,e⟩:=a;obtain⟨d,b2⟩:=b;unfold lj nI
 by_cases h1:f=d
 .by_cases c:e=b2
  .simp_all
  .simp[c]
 .simp[h1]
theorem Sm(Q:Nat->Nat)(r:fO):∀(G:jY) (i j:Nat),yh (lj r) (iM Q i G) j=(nQ r G).map λp=>(j+p.1,oI (Q (i+p.1)) p.2)
 | [],_,_=>rfl
 | (q,x)::t,i,j=>by
  rw[iM,yh,YA,nQ]
  by_cases h:q=r
  .subst h;simp
  .rw[if_neg (by simpa using cu h),if_neg h,Sm Q r t (i+1) (j+1)]
   cases nQ r t with
   | none=>rfl
   | some p=>simp[a7,dq 1]
theorem Sq(Q:Nat->Nat)(r:fO)(d:D):∀(G:jY) (i:Nat),mg (iM Q i G) (lj r) d=match nQ r G with
  | some p=>(iM Q i G).set p.1 (lj r,d)
  | none=>iM Q i G ++ [(lj r,d)]
 | [],_=>rfl
 | (q,x)::t,i=>by
  rw[iM,mg,YA,nQ]
  by_cases h:q=r
  .subst h;simp
  .rw[if_neg (by simpa using cu h),if_neg h,Sq Q r d t (i+1)]
   cases nQ r t with
   | none=>rfl
   | some p=>simp
theorem zb{r:fO}{k:Int}:∀ {G:jY} {t:Nat} {x:List Int},nQ r G=some (t,x)->G[t]? = some (r,x)/\nP r k G=G.set t (r,x ++ [k])
 | [],_,_,h=>by cases h
 | (q,y)::g,t,x,h=>by
  rw[nQ]at h;rw[nP]
  by_cases e:q=r
  .grind
  .rw[if_neg e]at h ⊢
   cases a:nQ r g with
   | none=>rw[a]at h;cases h
   | some p=>
    rw[a]at h;cases h;obtain⟨h1,b⟩:=zb (k:=k) (t:=p.1) (x:=p.2) a;exact⟨by simpa using h1,by rw[b];simp⟩
theorem Wz{r:fO}{k:Int}:∀ {G:jY},nQ r G=none->nP r k G=G ++ [(r,[k])]
 | [],_=>rfl
 | (q,y)::g,h=>by
  rw[nQ]at h;rw[nP]
  by_cases e:q=r
  .grind
  .rw[if_neg e]at h ⊢
   cases a:nQ r g with
   | none=>rw[Wz a];rfl
   | some p=>rw[a]at h;cases h
@[simp] theorem AO(Q:Nat->Nat):∀(G:jY) (i:Nat),(iM Q i G).length=G.length
 | [],_=>rfl
 | (q,x)::t,i=>by rw[iM,aH,AO Q t,aH]
theorem u4(Q:Nat->Nat):∀(G:jY) (i t:Nat),(iM Q i G)[t]? = (G[t]?).map λx=>(lj x.1,oI (Q (i+t)) x.2)
 | [],_,_=>rfl
 | (q,x)::g,i,0=>rfl
 | (q,x)::g,i,t+1=>by rw[iM,db,db,u4 Q g (i+1) t,a7,dq 1]
theorem VG{Q Q':Nat->Nat}:∀ {G:jY} {i:Nat},(∀t,t<G.length->Q (i+t)=Q' (i+t))->iM Q i G=iM Q' i G
 | [],_,_=>rfl
 | (q,x)::g,i,h=>by
  have h0:=h 0 (by simp);rw[cz]at h0
  rw[iM,iM,h0,VG (Q:=Q) (Q':=Q') λt a=>by
   have:=h (t+1) (by simp;omega);rw[show i+(t+1)=i+1+t by omega]at this
   exact this]
theorem VH(Q:Nat->Nat){r:fO}{y:List Int}:∀(G:jY) (i t:Nat),t<G.length->iM Q i (G.set t (r,y))=(iM Q i G).set t (lj r,oI (Q (i+t)) y)
 | [],_,_,h=>by simp at h
 | (q,x)::g,i,0,_=>rfl
 | (q,x)::g,i,t+1,h=>by rw[List.set_cons_succ,iM,iM,List.set_cons_succ,VH Q g (i+1) t (by simpa using h),show i+1+t=i+(t+1)by omega]
theorem VI(Q:Nat->Nat){r:fO}{y:List Int}:∀(G:jY) (i:Nat),iM Q i (G ++ [(r,y)])=iM Q i G ++ [(lj r,oI (Q (i+G.length)) y)]
 | [],_=>rfl
 | (q,x)::g,i=>by rw[bQ,iM,iM,VI Q g (i+1),bQ,aH,show i+1+g.length=i+(g.length+1)by omega]
structure l8(H:U)(ck sr n:Nat)(M:Nat->jY)(ow:Nat->Nat×Nat×Nat)(P:Nat->Nat)(Q:Nat->Nat->Nat):Prop where
 fc:ow ck=(0,0,0)
 fs:ow sr=(1,0,0)
 row:H[sr]? = some (.row 170 0 ((List.range n).map λj=>D.gx (P j)))
 mp:∀j,j<n->H[P j]? = some (.map KS (iM (Q j) 0 (M j)))/\ow (P j)=(2,j,0)
 ls:∀j,j<n->∀t x,(M j)[t]? = some x->H[Q j t]? = some (qp x.2)/\ow (Q j t)=(3,j,t)
section
variable{H H':U}{ck sr n:Nat}{M:Nat->jY}{ow:Nat->Nat×Nat×Nat}{P:Nat->Nat}{Q:Nat->Nat->Nat}
theorem l8.mono(h:l8 H ck sr n M ow P Q)(b:∀v o,H[v]? = some o->v≠ck->H'[v]? = some o):l8 H' ck sr n M ow P Q:=by
 have ne:∀v,ow v≠(0,0,0)->v≠ck:=λv f e=>f (by rw[e];exact h.fc);refine⟨h.fc,h.fs,b _ _ h.row (ne _ (by rw[h.fs];simp)),λj c=>?_,λj c t x d=>?_⟩
 .obtain⟨h1,a⟩:=h.mp j c;exact⟨b _ _ h1 (ne _ (by rw[a];simp)),a⟩
 .obtain⟨h1,a⟩:=h.ls j c t x d;exact⟨b _ _ h1 (ne _ (by rw[a];simp)),a⟩
def vU(M:Nat->jY)(j:Nat)(G:jY):Nat->jY:=λi=>if i=j then G else M i
theorem l8.old(h:l8 H ck sr n M ow P Q){j t:Nat}{r:fO}{x:List Int}{k:Int}(g:j<n)(z:nQ r (M j)=some (t,x))
  (h1:H'[P j]? = some (.map KS ((iM (Q j) 0 (M j)).set t (lj r,oI (Q j t) (x ++ [k]))))) (A:H'[Q j t]? = some (qp (x ++ [k])))
  (f:∀v o,H[v]? = some o->v≠P j->v≠Q j t->ow v≠(0,0,0)->H'[v]? = some o):l8 H' ck sr n (vU M j (nP r k (M j))) ow P Q:=by
 obtain⟨m,l⟩:=zb (k:=k) z;have q:t<(M j).length:=(ae.1 m).1;have lt:=(h.ls j g t _ m).2;have d:=(h.mp j g).2;have ne:∀v w,ow v≠ow w->v≠w:=λv w s e=>s (by rw[e]);refine⟨h.fc,h.fs,f _ _ h.row (ne _ _ (by rw[h.fs,d];simp)) (ne _ _ (by rw[h.fs,lt];simp)) (by rw[h.fs];simp),λi hi=>?_,λi hi u y b=>?_⟩
 .obtain⟨c,a⟩:=h.mp i hi;refine⟨?_,a⟩;unfold vU
  by_cases e:i=j
  .subst e;rw[if_pos rfl,h1,l,VH _ _ _ _ q,aQ]
  .grind
 .unfold vU at b
  by_cases e:i=j
  .subst e;rw[if_pos rfl,l,bS]at b
   by_cases p:t=u
   .grind
   .rw[if_neg p]at b;obtain⟨c,a⟩:=h.ls i hi u y b;exact⟨f _ _ c (ne _ _ (by rw[a,d];simp)) (ne _ _ (by rw[a,lt];simp[cu p])) (by rw[a];simp),a⟩
  .rw[if_neg e]at b;obtain⟨c,a⟩:=h.ls i hi u y b;exact⟨f _ _ c (ne _ _ (by rw[a,d];simp)) (ne _ _ (by rw[a,lt];simp[e])) (by rw[a];simp),a⟩
theorem l8.new(h:l8 H ck sr n M ow P Q){j v:Nat}{r:fO}{k:Int}(z:j<n)(t:nQ r (M j)=none)(C:ck<v)(q:H.length<=v)
  (h1:H'[P j]? = some (.map KS (iM (Q j) 0 (M j) ++ [(lj r,oI v [k])]))) (E:H'[v]? = some (qp [k]))
  (f:∀w o,H[w]? = some o->w≠P j->ow w≠(0,0,0)->H'[w]? = some o) :
  ∃b Q',l8 H' ck sr n (vU M j (nP r k (M j))) b P Q'/\∀w,w≠v->b w=ow w:=by
 have B:=Wz (k:=k) t;have d:=(h.mp j z).2;have ne:∀v w,ow v≠ow w->v≠w:=λv w q e=>q (by rw[e]);have lv:∀w o,H[w]? = some o->w≠v:=λw o p=>by grind
 let b:Nat->Nat×Nat×Nat:=λw=>if w=v then(3,j,(M j).length)else ow w
 let Q':Nat->Nat->Nat:=λi u=>if i=j/\u=(M j).length then v else Q i u
 have hP:∀i,i<n->P i≠v:=λi hi=>lv _ _ (h.mp i hi).1;have A:∀i u x,i<n->(M i)[u]? = some x->Q i u≠v:=λi u x hi s=>lv _ _ (h.ls i hi u x s).1;have hs:sr≠v:=lv _ _ h.row;refine⟨b,Q',⟨?_,?_,f _ _ h.row (ne _ _ (by rw[h.fs,d];simp)) (by rw[h.fs];simp),λi hi=>?_,λi hi u y c=>?_⟩,λw p=>if_neg p⟩
 .show(if ck=v then _ else _)=_;rw[if_neg (by omega)];exact h.fc
 .show(if sr=v then _ else _)=_;rw[if_neg hs];exact h.fs
 .obtain⟨m,a⟩:=h.mp i hi;refine⟨?_,?_⟩
  .unfold vU
   by_cases e:i=j
   .subst e;rw[if_pos rfl,h1,B,VI,aQ];have l:iM (Q' i) 0 (M i)=iM (Q i) 0 (M i):=VG λu D=>by grind
    have g:Q' i (M i).length=v:=by grind
    rw[l,g]
   .rw[if_neg e];have l:Q' i=Q i:=funext λu=>by grind
    rw[l];exact f _ _ m (ne _ _ (by rw[a,d];simp[e])) (by rw[a];simp)
  .grind
 .unfold vU at c
  by_cases e:i=j/\u=(M j).length
  .grind
  .have c:(M i)[u]? = some y:=by grind
   obtain⟨m,a⟩:=h.ls i hi u y c;have g:Q' i u=Q i u:=by grind
   rw[g];refine⟨f _ _ m (ne _ _ (by rw[a,d];simp)) (by rw[a];simp),?_⟩;show(if Q i u=v then _ else _)=_;rw[if_neg (A i u y hi c)];exact a
end
end Go.Proofs.YtmehofoficaelaaGreatDoor
namespace Go.Proofs.YtmehofoficaelaaGreatDoor
open Go Go.AL Classical
structure sY(cl:List gA)(i:Int)(w:fO->Bool)(seen:List Nat)(out:List Int):Prop where
 nd:seen.Nodup
 lt:∀t∈seen,t<(gF cl i).length
 N0:out.Nodup
 mem:∀k,k∈out↔∃t∈seen,∃x,(gF cl i)[t]? = some x/\w x.1=true/\k∈x.2
section
variable{cl:List gA}{i:Int}{w:fO->Bool}{seen:List Nat}{out:List Int}
theorem MK{t:Nat}{x:fO×List Int}(h:(gF cl i)[t]? = some x):x.2=jX (λc=>jC c i&&decide (ky c i=x.1)) cl cl.length/\x.2≠[]:=
 Qa (List.mem_of_getElem? h)
theorem F8{t:Nat}{x:fO×List Int}{k:Int}(h:(gF cl i)[t]? = some x):k∈x.2↔(0<=k/\k<cl.length)/\jC (gt cl k) i=true/\ky (gt cl k) i=x.1:=by rw[(MK h).1,zO];simp
theorem aeT{t u:Nat}{x y:fO×List Int}(h:(gF cl i)[t]? = some x)(d:(gF cl i)[u]? = some y)(e:x.1=y.1):t=u:=by
 have c:((gF cl i).map (·.1)).Nodup:=F6 _;have a:((gF cl i).map (·.1))[t]? = some x.1:=by rw[av,h];rfl
 have b:((gF cl i).map (·.1))[u]? = some x.1:=by rw[av,d,e];rfl
 obtain⟨p,a⟩:=ae.1 a;obtain⟨q,b⟩:=ae.1 b;exact(List.getElem_inj c).1 (a.trans b.symm)
theorem sY.start:sY cl i w [] []:=⟨.nil,λ_ h=>(by cases h),.nil,λk=>by simp⟩
theorem Ib{n t:Nat}(nd:seen.Nodup)(lt:∀t∈seen,t<n)(d:t<n)(e:t ∉ seen):(seen ++ [t]).Nodup/\(∀u∈seen ++ [t],u<n)/\(seen ++ [t]).length<=n:=by
 have h1:(seen ++ [t]).Nodup:=by grind
 have a:∀u∈seen ++ [t],u<n:=λu c=>by grind
 have:=HG h1 (m:=List.range n) λx b=>bj.2 (a x b);rw[List.length_range]at this;exact⟨h1,a,this⟩
theorem sY.step(h:sY cl i w seen out){t:Nat}{x:fO×List Int}(j:(gF cl i)[t]? = some x)(l:t ∉ seen):sY cl i w (seen ++ [t]) (if w x.1=true then out++x.2 else out):=by
 have m:=(ae.1 j).1;obtain⟨h1,d,_⟩:=Ib h.nd h.lt m l
 have n:∀k,k∈(if w x.1=true then out++x.2 else out)↔∃u∈seen ++ [t],∃y,(gF cl i)[u]? = some y/\w y.1=true/\k∈y.2:=λk=>by
  constructor
  .intro g
   by_cases f:w x.1=true
   .rw[if_pos f,List.mem_append,h.mem]at g;rcases g with⟨u,c,y,h1,d⟩|g
    .grind
    .grind
   .rw[if_neg f,h.mem]at g;obtain⟨u,c,y,h1,d⟩:=g;exact⟨u,bt _ c,y,h1,d⟩
  .rintro⟨u,c,y,h1,d,q⟩;rcases List.mem_append.1 c with c|c
   .have:k∈out:=(h.mem k).2 ⟨u,c,y,h1,d,q⟩;split
    .grind
    .exact this
   .grind
 refine⟨h1,d,?_,n⟩
 by_cases f:w x.1=true
 .rw[if_pos f,cN];refine⟨h.N0,?_,λa p b o e=>?_⟩
  .rw[(MK j).1];exact(D3 _ _ _).imp λh e=>by omega
  .subst e;obtain⟨u,c,y,q1,q2,q3⟩:=(h.mem a).1 p;have s:=((F8 j).1 o).2.2;have r:=((F8 q1).1 q3).2.2;have:=aeT j q1 (s.symm.trans r);rw[this]at l;exact l c
 .rw[if_neg f];exact h.N0
theorem sY.bnd(h:sY cl i w seen out):∀k∈out,0<=k/\k<cl.length:=λk a=>by obtain⟨t,_,x,h1,_,b⟩:=(h.mem k).1 a;exact((F8 h1).1 b).1
theorem sY.len(h:sY cl i w seen out):out.length<=cl.length:=zV _ _ h.N0 h.bnd
theorem sY.done(h:sY cl i w seen out)(n:∀t,t<(gF cl i).length->t∈seen):out.mergeSort (λx y=>decide (x<=y))=jX (λc=>jC c i&&w (ky c i)) cl cl.length:=by
 have g:=List.mergeSort_perm out (λx y=>decide (x<=y));have j:(out.mergeSort (λx y=>decide (x<=y))).Nodup:=g.nodup_iff.2 h.N0
 have hs:(out.mergeSort (λx y=>decide (x<=y))).Pairwise λx y=>decide (x<=y)=true:=
  fq (λa b c h1 d=>by simp only[decide_eq_true_eq]at h1 d ⊢;omega) (λa b=>by simp only[bM,decide_eq_true_eq];omega) out
 refine Ez ((hs.and j).imp λ⟨h1,d⟩=>by simp only[decide_eq_true_eq]at h1;omega) (D3 _ _ _) λk=>?_;rw[g.mem_iff,h.mem,zO];constructor
 .rintro⟨t,f,x,h1,d,o⟩;have:=(F8 h1).1 o;exact⟨this.1,by rw[this.2.1,this.2.2,d];rfl⟩
 .rintro⟨h1,d⟩;rw[Bool.and_eq_true]at d;have m:ky (gt cl k) i∈(gF cl i).map (·.1):=xH.2 (sf.2 ⟨_,gq h1.1 h1.2,d.1,rfl⟩);obtain⟨x,l,e⟩:=ao.1 m;obtain⟨t,f⟩:=aC.1 l;exact⟨t,n t (ae.1 f).1,x,f,by rw[e];exact d.2,(F8 f).2 ⟨h1,d.1,e.symm⟩⟩
def vH(G:jY)(seen:List Nat):List fO:=seen.map λt=>((G[t]?).map (·.1)).getD (0,0)
theorem agp{G:jY}{t:Nat}{x:fO×List Int}(h:G[t]? = some x):vH G (seen ++ [t])=vH G seen ++ [x.1]:=by unfold vH;rw[List.map_append,List.map_singleton,h];rfl
theorem ago(c:∀t,t<(gF cl i).length->t∈seen)(lt:∀t∈seen,t<(gF cl i).length)(r:fO):r∈vH (gF cl i) seen↔r∈sd cl i:=by
 rw[<-xH];unfold vH;rw[ao,ao];constructor
 .grind
 .rintro⟨x,b,e⟩;obtain⟨t,a⟩:=aC.1 b;exact⟨t,c t (ae.1 a).1,by rw[a];exact e⟩
end
theorem WC{p q:gA->Bool}{s:gA->fO}{cl:List gA}:∀ {n:Nat},(∀k:Int,0<=k->k<n->p (gt cl k)=q (gt cl k))->oW p s cl n=oW q s cl n
 | 0,_=>rfl
 | n+1,h=>by rw[oW,oW,h n (by omega) (by omega),WC λk k0 k1=>h k k0 (by omega)]
def hM(ad:gA->Bool)(cl:List gA)(k:Nat)(j:Nat):jY:=oW (λc=>ad c&&jC c (j:Int)) (λc=>ky c (j:Int)) cl k
def hP(ad:gA->Bool)(cl:List gA)(k e:Nat)(j:Nat):jY:=
 if (gt cl (k:Int)).lo<=(j:Int)/\(j:Int)<(gt cl (k:Int)).lo+e then nP (ky (gt cl (k:Int)) (j:Int)) k (hM ad cl k j)else hM ad cl k j
section
variable{ad:gA->Bool}{cl:List gA}{k:Nat}
theorem ae6:hP ad cl k 0=hM ad cl k:=funext λj=>if_neg (by omega)
theorem WX{e:Nat}(h0:0<=(gt cl (k:Int)).lo):hP ad cl k e ((gt cl (k:Int)).lo.toNat+e)=hM ad cl k ((gt cl (k:Int)).lo.toNat+e):=if_neg (by omega)
theorem ae5{e:Nat}(h0:0<=(gt cl (k:Int)).lo):hP ad cl k (e+1)=vU (hP ad cl k e) ((gt cl (k:Int)).lo.toNat+e) (nP (gt (gt cl (k:Int)).es (e:Int)) k (hP ad cl k e ((gt cl (k:Int)).lo.toNat+e))):=funext λj=>by
 unfold vU
 by_cases a:j=(gt cl (k:Int)).lo.toNat+e
 .rw[if_pos a];subst a;rw[WX h0];unfold hP;rw[if_pos (by omega)];unfold ky;congr 2;omega
 .rw[if_neg a];unfold hP
  by_cases h:(gt cl (k:Int)).lo<=(j:Int)/\(j:Int)<(gt cl (k:Int)).lo+e
  .grind
  .grind
theorem ae4(a:ad (gt cl (k:Int))=true){e:Nat}(b:(gt cl (k:Int)).hi=(gt cl (k:Int)).lo+e):hP ad cl k e=hM ad cl (k+1):=funext λj=>by
 unfold hP;show _=hM ad cl (k+1) j
 conv=>rhs;unfold hM;rw[oW]
 have c:(ad (gt cl (k:Int))&&jC (gt cl (k:Int)) (j:Int))=decide ((gt cl (k:Int)).lo<=(j:Int)/\(j:Int)<(gt cl (k:Int)).lo+e):=by rw[a,dZ];unfold jC;rw[b]
 rw[c]
 by_cases h:(gt cl (k:Int)).lo<=(j:Int)/\(j:Int)<(gt cl (k:Int)).lo+e
 .rw[if_pos h,if_pos (by simpa using h)];rfl
 .rw[if_neg h,if_neg (by simpa using h)];rfl
theorem ae3(a:ad (gt cl (k:Int))=false):hM ad cl (k+1)=hM ad cl k:=funext λj=>by unfold hM;rw[oW,if_neg (by simp[a])]
theorem ae2(a:∀c∈cl,ad c=true)(j:Nat):hM ad cl cl.length j=gF cl (j:Int):=by unfold hM gF;exact WC λk k0 k1=>by rw[a _ (gq k0 k1),dZ]
