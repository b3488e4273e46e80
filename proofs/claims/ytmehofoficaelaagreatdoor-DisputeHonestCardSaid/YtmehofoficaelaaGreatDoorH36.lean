/- Part 36 of DisputeHonest. -/
import Derived.Test.YtmehofoficaelaaGreatDoorH35
set_option linter.all false
namespace Go.Proofs.YtmehofoficaelaaGreatDoor
open Go Go.AL Classical
set_option maxRecDepth 10000
set_option maxHeartbeats 4000000
@[irreducible] def fB(l:List Int):List D:=[dU l]
@[simp] theorem D6(l:List Int):fB l = [dU l]:=by unfold fB;rfl
instance:Fl fB 1:=⟨λ_=>by simp,λ_=>by simp[fR]⟩
@[irreducible] def nY(L:List (List Int)):D:=.sl 1 (L.map fB)
theorem BB(L:List (List Int)):nY L = .sl 1 (L.map fB):=by unfold nY;rfl
@[simp] theorem apa(L:List (List Int)):closed (nY L)=true:=by unfold nY;exact ze L
@[simp] theorem arL(L:List (List Int))(H:U):mB .slice (nY L) H=some (.i L.length):=by unfold nY;simp
@[simp] theorem avh(f:gj)(l:List (List Int))(lo hi:Option X):sR f 1 (nY l) lo hi=(gF f lo 0).bind λa=>(gF f hi l.length).bind λh=>if 0<=a/\a<=h/\h<=l.length then some (nY ((l.drop a.toNat).take (h.toNat-a.toNat)))else none:=by unfold nY;rw[QW,List.length_map];simp only[Mr]
@[simp] theorem asK{l:List (List Int)}{n:Int}{k:IntKind}{P:D->Prop}:oA (lV 1 (nY l) (.val (.int k n))) P .mk=((0<=n/\n<l.length)/\P (.fH [dU (gt l n)])):=by unfold nY;simp
theorem SE(l:List Int)(n:Int):D.val (.int .u8 n)::cl fU l=cl fU (n::l):=by rw[mm,xT];rfl
theorem pK(b:List Int):(jK b).length=32:=by rw[jK];exact CB _
theorem abh(b:List Int)(a:b.length<=4000000000):Wf T 210 [dU b] [] (Is (dU (0::b))):=by refine Yg Hu ?_;simp[Hu];refine fo ?_;rw[SE];exact tS (k:=38) (by simp;omega)
theorem aa2(b:List Int)(e:b.length<=3000000000):Wf T 142 [dU b] [] (Is (.agg (cl fU (jK (0::b))))):=by have c:=Ty (0::b) (by simp;omega);have hl:=pK (0::b);obtain⟨r,d⟩:∃r,jK (0::b)=r:=⟨_,rfl⟩;rw[d]at c hl ⊢;have a:r.take 32=r:=af (by omega);refine Yg Hj ?_;simp[Hj];refine Yc (abh b (by omega)) ?_;simp;refine Yc (c) ?_;simp[hl,a]
theorem abi(a b:List Int)(f:a.length=32)(e:b.length=32):Wf T 211 [.agg (cl fU a),.agg (cl fU b)] [] (Is (dU (1::(a++b)))):=by have c:a.take 32=a:=af (by omega);have d:b.take 32=b:=af (by omega);refine Yg Hv ?_;simp[Hv];refine Bl f e c d ?_;rw[SE,c,c,d];exact tS (k:=38) (by simp;omega)
theorem aa4(a b:List Int)(g:a.length=32)(f:b.length=32):Wf T 144 [.agg (cl fU a),.agg (cl fU b)] [] (Is (.agg (cl fU (jK (1::(a++b)))))):=by have c:=Ty (1::(a++b)) (by simp;omega);have hl:=pK (1::(a++b));obtain⟨r,i⟩:∃r,jK (1::(a++b))=r:=⟨_,rfl⟩;rw[i]at c hl ⊢;have h:r.take 32=r:=af (by omega);have e:a.take 32=a:=af (by omega);have d:b.take 32=b:=af (by omega);refine Yg Hk ?_;simp[Hk,g,f,e,d];refine Yc (abi a b g f) ?_;simp[e,d];refine Yc (c) ?_;simp[hl,h]
def rI(r:Option (List (D×U))):Option Int:=match r with
 | some [(.val (.int .i64 n),[])]=>some n
 | _=>none
theorem Xc{r:Option (List (D×U))}{n:Int}(h:rI r=some n):r=some [(.i n,[])]:=by
 unfold rI at h;split at h
 .cases h;rfl
 .cases h
theorem Z5:(List.range 65).all (λn=>Nat.ble n 1||decide (rI (run T [] 40 143 [.i n] [])=some (rv n)))=true:=by kernel_rfl
theorem aa3(n:Nat)(h0:2<=n)(h1:n<=64):Wf T 143 [.i n] [] (Is (.i (rv n))):=by
 have h:=Z5;rw[List.all_eq_true]at h;have h:=h n (a7.2 (by omega));rw[bV,decide_eq_true_eq]at h;rcases h with h|h
 .exact absurd (cN h) (by omega)
 .exact nS (Xc h)
theorem SZ{n:Nat}(h:2<=n):1<=rv n/\rv n<n:=by unfold rv;have h1:=Nat.log2_self_le (n:=n-1) (by omega);have a:0<2 ^ (Nat.log2 (n-1)):=Nat.pow_pos (by decide);omega
theorem Xz(k:Nat):nq (k+1) []=jK []:=by rw[nq,CN]
theorem QE(k:Nat)(x:List Int):nq (k+1) [x]=jK (0::x):=by rw[nq,CN]
theorem QF(k:Nat){l:List (List Int)}(h:2<=l.length):nq (k+1) l=jK (1::(nq k (l.take (rv l.length))++nq k (l.drop (rv l.length)))):=by
 match l,h with
 | a::b::r,_=>rw[nq,nq,nq,CN]<;>simp
theorem F5{k:Nat}{l:List (List Int)}(h:l.length<k):(nq k l).length=32:=by
 match k,l with
 | 0,_=>omega
 | k+1,[]=>rw[Xz];exact pK _
 | k+1,[x]=>rw[QE];exact pK _
 | k+1,a::b::r=>rw[QF k (by simp)];exact pK _
theorem NG:∀(k:Nat) (l:List (List Int)),l.length<k->0<l.length->l.length<=64->(∀x∈l,x.length<=3000000000)->Wf T 88 [nY l] [] (Is (.agg (cl fU (nq k l))))
 | 0,l,h,_,_,_=>by omega
 | k+1,l,hk,h0,wu,hx=>by
  by_cases h1:l.length=1
  .obtain⟨x,rfl⟩:∃x,l = [x]:=by
    match l,h1 with
    | [x],_=>exact⟨x,rfl⟩
   rw[QE];have c:=aa2 x (hx x (by simp));have hl:=pK (0::x);obtain⟨r,b⟩:∃r,jK (0::x)=r:=⟨_,rfl⟩;rw[b]at c hl ⊢;have a:r.take 32=r:=af (by omega);refine Yg xp ?_;simp[xp];refine Yc (c) ?_;simp[hl,a]
  .have o:=SZ (n:=l.length) (by omega);have cm:=aa3 l.length (by omega) wu;rw[QF k (by omega)];obtain⟨m,j⟩:∃m,rv l.length=m:=⟨_,rfl⟩;rw[j]at o cm ⊢;have v:(l.take m).length=m:=by rw[aK];omega
   have u:(l.drop m).length=l.length-m:=by rw[aQ]
   have i:=NG k (l.take m) (by omega) (by omega) (by omega) λx h=>hx x (aN h);have g:=NG k (l.drop m) (by omega) (by omega) (by omega) λx h=>hx x (bz h);have e:=F5 (k:=k) (l:=l.take m) (by omega);have d:=F5 (k:=k) (l:=l.drop m) (by omega);obtain⟨A,q⟩:∃A,nq k (l.take m)=A:=⟨_,rfl⟩;obtain⟨B,p⟩:∃B,nq k (l.drop m)=B:=⟨_,rfl⟩;rw[q]at i e ⊢;rw[p]at g d ⊢;have f:=aa4 A B e d;have hl:=pK (1::(A++B));obtain⟨r,b⟩:∃r,jK (1::(A++B))=r:=⟨_,rfl⟩;rw[b]at f hl ⊢;have a:r.take 32=r:=af (by omega);have n0:¬l.length=0:=by omega
   have s:(l.drop m).take (l.length-m)=l.drop m:=af (by omega);refine Yg xp ?_;simp[xp,n0,h1];(with_reducible repeat' first|refine Xk ?_<;>try simp|refine Xs ?_ ?_<;>intro h<;>(try intro t)<;>(try simp[h])<;>try omega|refine Xg ?_|omega);refine Yc (cm) ?_;simp;refine fo ?_;refine Yt (i) ?_;simp;refine ja s ?_
   trace_state
   refine Yt (g) ?_;simp;refine Yt (f) ?_;simp[hl,a]
theorem Gn{α:Type}[Inhabited α]{l:List α}{i:Int}(i0:0<=i)(a:i<l.length):l.take (i+1).toNat=l.take i.toNat ++ [gt l i]:=by rw[show(i+1).toNat=i.toNat+1 by omega,eF,List.getElem?_eq_getElem (by omega),ey,<-jh i0 a]
theorem abt(n:Nat)(h0:0<n)(a:n<=4000000000):Wf T 277 [.fw,.i n] [] λd H=>d = .fm 0 0 1 0 0/\H = [.row 5 0 (cl fU (zs n))]:=by refine Yg HG ?_;simp[HG];(with_reducible repeat' first|refine Xk ?_<;>try simp|refine Xs ?_ ?_<;>intro h<;>(try intro b)<;>(try simp[h])<;>try omega|refine Xg ?_|omega);rw[<-xL,tD,dy]
theorem TE(L:List (List Int))(hl:0<L.length)(v:L.length<=1000)(n:Nat)(m:n=L.flatten.length)(h0:0<n)(u:n<=4000000000):Wf T 224 [nY L] [] λd H=>d = .fm 0 L.length 1 0 n/\H = [.row 5 L.length (cl fU L.flatten)]:=by
 have b:∀i:Nat,(L.take i).flatten.length<=n:=λi=>by
  have:L.flatten=(L.take i).flatten++(L.drop i).flatten:=by rw[<-ec,bM]
  rw[m,this,ar];omega
 refine Yg Hy ?_;simp[Hy];refine fE.e (0:Int) (λy=>[(0,nY L),(3,.i (((L.take y.toNat).flatten.length:Nat):Int)),(9,nY L),(10,.i L.length),(11,.i y)]) (λy=>[]) (λy=>0<=y/\y<=L.length) (λy=>(L.length-y).toNat) ?_ ?_
 .simp
 rintro i ⟨i0,r⟩;have s:=b i.toNat
 by_cases hi:i<L.length
 .have e:=Gn (l:=L) i0 hi;have q:=b (i+1).toNat;have c:(L.take (i+1).toNat).flatten.length=(L.take i.toNat).flatten.length+(gt L i).length:=by rw[e];simp
  simp only[hi];generalize (L.take i.toNat).flatten.length=a at *;simp[hi];(with_reducible repeat' first|refine Xk ?_<;>try simp|refine Xs ?_ ?_<;>intro h<;>(try intro w)<;>(try simp[h])<;>try omega|refine Xg ?_|omega);refine LJ.i (i+1) (by first|rfl|simp[c]) (by first|rfl|simp[c]) rfl rfl ?_;omega
 .have k:i=L.length:=by omega
  subst k;have p:L.take (L.length:Int).toNat=L:=af (by omega);rw[p,<-m];simp;refine Yn (abt n h0 u) ?_;simp;refine fE.e ((0,zs n):Int×List Int) (λy=>[(6,.fm 0 y.1.toNat 1 0 (L.take y.1.toNat).flatten.length),(25,nY L),(26,.i L.length),(27,.i y.1)]) (λy=>[.row 5 y.1.toNat (cl fU y.2)]) (λy=>(0<=y.1/\y.1<=L.length)/\(y.1=0\/y.2=(L.take y.1.toNat).flatten)) (λy=>(L.length-y.1).toNat) ?_ ?_
  .simp
  rintro⟨i,R⟩ ⟨⟨i0,r⟩,f⟩;dsimp only at i0 r f ⊢;have s:=b i.toNat
  by_cases hi:i<L.length
  .have e:=Gn (l:=L) i0 hi;have q:=b (i+1).toNat;have c:(L.take (i+1).toNat).flatten=(L.take i.toNat).flatten++gt L i:=by rw[e];simp
   have g:R.take (L.take i.toNat).flatten.length=(L.take i.toNat).flatten:=by
    rcases f with rfl|rfl
    .simp
    .exact af (Nat.le_refl _)
   have o:(L.take i.toNat).flatten.length<=R.length:=by
    rcases f with rfl|rfl
    .simp
    .exact Nat.le_refl _
   have j:(L.take (i+1).toNat).flatten.length=(L.take i.toNat).flatten.length+(gt L i).length:=by rw[c,ar]
   rw[show(i+1).toNat=i.toNat+1 by omega]at q c j;obtain⟨a,t⟩:∃a,(L.take i.toNat).flatten=a:=⟨_,rfl⟩;rw[t]at s g o j c ⊢;simp[hi,o,g];refine kl o g ?_;refine LJ.i (i+1,a++gt L i) (by first|rfl|simp[-List.length_flatten,j,c,g,show(i+1).toNat=i.toNat+1 by omega]) (by first|rfl|simp[-List.length_flatten,j,c,g,show(i+1).toNat=i.toNat+1 by omega]) rfl rfl ?_;exact⟨by omega,ie,.inr (by rw[show(i+1).toNat=i.toNat+1 by omega];exact c.symm)⟩
  .have k:i=L.length:=by omega
   subst k;rw[p]at f ⊢;rcases f with h|rfl
   .omega
   simp[<-m]
theorem aa8:(List.range 65).all (λn=>Nat.ble n 1||decide (rI (run T [] 40 157 [.i n] [])=some (rv n)))=true:=by kernel_rfl
theorem aa7(n:Nat)(h0:2<=n)(h1:n<=64):Wf T 157 [.i n] [] (Is (.i (rv n))):=by
 have h:=aa8;rw[List.all_eq_true]at h;have h:=h n (a7.2 (by omega));rw[bV,decide_eq_true_eq]at h;rcases h with h|h
 .exact absurd (cN h) (by omega)
 .exact nS (Xc h)
@[simp] theorem apZ(l:List Int):s9 (cl fU l)=true:=by
 rw[<-xL]
 induction l with
 | nil=>rfl
 | cons a r b=>exact b
theorem NW(ρ:Nat->Option Nat)(H:U)(k t:Nat)(a:D):l6 ρ H k 1 0 1 (some (t,[a])) = .sl 1 [[fy ρ H k a]]:=by unfold l6;simp[chunks]
theorem T6(ρ:Nat->Option Nat)(H:U)(k t:Nat)(a b:D):l6 ρ H k 1 0 2 (some (t,[a,b])) = .sl 1 [[fy ρ H k a],[fy ρ H k b]]:=by unfold l6;simp[chunks]
theorem T7(ρ:Nat->Option Nat)(H:U)(k t:Nat)(a b c:D):l6 ρ H k 1 0 3 (some (t,[a,b,c])) = .sl 1 [[fy ρ H k a],[fy ρ H k b],[fy ρ H k c]]:=by unfold l6;simp[chunks]
theorem aa6(b:List Int)(f:b.length<=3000000000):Wf T 156 [dU b] [] (Is (.agg (cl fU (jK (0::b))))):=by have c:=Tz (0::b) (by simp;omega);have a:=TE [[0],b] (by simp) (by simp) (b.length+1) (by simp) (by omega) (by omega);have hl:=pK (0::b);obtain⟨r,e⟩:∃r,jK (0::b)=r:=⟨_,rfl⟩;rw[e]at c hl ⊢;have d:r.take 32=r:=af (by omega);rw[show [[0],b].flatten=0::b by simp]at a;refine Yg Hl ?_;simp[Hl];refine fL.nr rfl rfl a (by simp[BB,v8,NW,T6,T7]) (by simp) (by simp) ?_;simp;refine fL.r rfl rfl c (by simp[v8]) (by simp[flat]) (by simp) ?_;simp[hl,d]
theorem uW.r{T:gO}{f:FuncId}{fn:iE}{args ny:List D}{dst:Option Nat}{s:St}{R:List Fp}{Q:Rc->St->Prop}{d:D}{ob:Ob}(b:T.fn f=some fn)(a:fn.full=false)(h:Wf T f ny [] λd' H'=>d'=d/\H' = [ob])
  (hs:args.map (fy (λ_=>none) s.H 40)=ny) (e:(nO d&&oJ ob)=true) (c:(ma d&&nb ob)=true) (k:Q ⟨R,[(s.H.length,none)]⟩ { s with env:=put s.env dst (jQ s.H.length d),H:=s.H ++ [ob] }):sW T f args R dst s Q .mk:=
 .inl (.inr ⟨fn,d,ob,b,a,by rw[hs];exact h,by split<;>assumption,k⟩)
theorem aa9(a b:List Int)(e:a.length=32)(d:b.length=32):Wf T 158 [.agg (cl fU a),.agg (cl fU b)] [] (Is (.agg (cl fU (jK (1::(a++b)))))):=by have c:=Tz (1::(a++b)) (by simp;omega);have f:=TE [[1],a,b] (by simp) (by simp) 65 (by simp;omega) (by omega) (by omega);rw[show [[1],a,b].flatten=1::(a++b)by simp]at f;have hl:=pK (1::(a++b));obtain⟨r,j⟩:∃r,jK (1::(a++b))=r:=⟨_,rfl⟩;rw[j]at c hl ⊢;have i:r.take 32=r:=af (by omega);have h:a.take 32=a:=af (by omega);have g:b.take 32=b:=af (by omega);refine Yg Hm ?_;simp[Hm,e,d,h,g];refine uW.r rfl rfl f (by simp[BB,v8,NW,T6,T7,e,d]) (by simp) (by simp) ?_;simp;refine iy.r rfl rfl c (by simp only[List.map_cons,List.map_nil,AL.QP,XP];simp only[ajU];simp;rw[tS (k:=38) (by simp;omega)];rfl) (by simp[flat]) (by simp) ?_;simp[hl,i]
theorem NH:∀(k:Nat) (l:List (List Int)),l.length<k->0<l.length->l.length<=64->(∀x∈l,x.length<=3000000000)->Wf T 97 [nY l] [] (Is (.agg (cl fU (nq k l))))
 | 0,l,h,_,_,_=>by omega
 | k+1,l,hk,h0,wu,hx=>by
  by_cases h1:l.length=1
  .obtain⟨x,rfl⟩:∃x,l = [x]:=by
    match l,h1 with
    | [x],_=>exact⟨x,rfl⟩
   rw[QE];have c:=aa6 x (hx x (by simp));have hl:=pK (0::x);obtain⟨r,b⟩:∃r,jK (0::x)=r:=⟨_,rfl⟩;rw[b]at c hl ⊢;have a:r.take 32=r:=af (by omega);refine Yg xt ?_;simp[xt];refine Yc (c) ?_;simp[hl,a]
  .have o:=SZ (n:=l.length) (by omega);have cm:=aa7 l.length (by omega) wu;rw[QF k (by omega)];obtain⟨m,j⟩:∃m,rv l.length=m:=⟨_,rfl⟩;rw[j]at o cm ⊢;have v:(l.take m).length=m:=by rw[aK];omega
   have u:(l.drop m).length=l.length-m:=by rw[aQ]
   have i:=NH k (l.take m) (by omega) (by omega) (by omega) λx h=>hx x (aN h);have g:=NH k (l.drop m) (by omega) (by omega) (by omega) λx h=>hx x (bz h);have e:=F5 (k:=k) (l:=l.take m) (by omega);have d:=F5 (k:=k) (l:=l.drop m) (by omega);obtain⟨A,q⟩:∃A,nq k (l.take m)=A:=⟨_,rfl⟩;obtain⟨B,p⟩:∃B,nq k (l.drop m)=B:=⟨_,rfl⟩;rw[q]at i e ⊢;rw[p]at g d ⊢;have f:=aa9 A B e d;have hl:=pK (1::(A++B));obtain⟨r,b⟩:∃r,jK (1::(A++B))=r:=⟨_,rfl⟩;rw[b]at f hl ⊢;have a:r.take 32=r:=af (by omega);have n0:¬l.length=0:=by omega
   have s:(l.drop m).take (l.length-m)=l.drop m:=af (by omega);refine Yg xt ?_;simp[xt,n0,h1];(with_reducible repeat' first|refine Xk ?_<;>try simp|refine Xs ?_ ?_<;>intro h<;>(try intro t)<;>(try simp[h])<;>try omega|refine Xg ?_|omega);refine Yc (cm) ?_;simp;refine fo ?_;refine Yt (i) ?_;simp;refine ja s ?_;refine Yt (g) ?_;simp;refine Yt (f) ?_;simp[hl,a]
@[irreducible] def jI(v:List fq):List Int:=nq (v.length+1) (v.map pS)
theorem yL(v:List fq):(jI v).length=32:=by rw[jI];exact F5 (by simp)
theorem Sp(r:fq):(pS r).length=5:=rfl
theorem QU(a:Int):lK .i64 a 0=a:=by show a.fdiv (2 ^ (min (0:Int).toNat 64))=a;simp
theorem aaP(r:fq):Wf T 87 [.agg [.i r.1,.i r.2]] [] (Is (dU (pS r))):=by refine Yg G2 ?_;simp[G2];unfold l6;simp[chunks,v8,pS,QU]
theorem aaS(r:fq):Wf T 96 [.agg [.i r.1,.i r.2]] [] (Is (dU (pS r))):=by refine Yg G4 ?_;simp[G4];refine fE.un ?_;refine jY.u ?_;simp;refine jY.s (by simp;rfl) ?_;refine jY.u ?_;simp;refine jY.s (by simp;rfl) ?_;refine jY.u ?_;simp;refine jY.s (by simp;rfl) ?_;refine jY.u ?_;simp;refine jY.s (by simp;rfl) ?_;refine jY.u ?_;simp[QU];unfold l6;simp[chunks,v8,pS,QU]
theorem SA(x:List Int) : [dU x]=cl fB [x]:=by rw[iF,D6]
@[simp] theorem Zu(l:List (List Int))(x:List Int):cl fB l ++ [dU x]=cl fB (l ++ [x]):=by rw[<-oZ,D6]
theorem Tu(v:List fq)(h0:0<v.length)(s:v.length<=64):Wf T 49 [gQ v] [] (Is (.agg (cl fU (jI v)))):=by
 have c:Wf T 97 [nY (v.map pS)] [] (Is (.agg (cl fU (jI v)))):=by
  have:=NH (v.length+1) (v.map pS) (by simp) (by simpa using h0) (by simpa using s) λx p=>by obtain⟨r,_,rfl⟩:=au.1 p;rw[Sp];omega
  rw[jI];exact this
 have hl:=yL v;obtain⟨r,q⟩:∃r,jI v=r:=⟨_,rfl⟩;rw[q]at c hl ⊢;have k:r.take 32=r:=af (by omega);refine Yg xn ?_;simp[xn];refine fE.e ((0,[]):Int×List (List Int)) (λy=>[(2,.ptr 0 0 0),(3,if y.2 = []then .fw else .fm 1 (y.2.length-1) 1 0 y.2.length),(6,gQ v),(7,.i v.length),(8,.i y.1)]) (λy=>.row 70 0 (cl fU (zs 32))::(if y.2 = []then []else [.row 22 (y.2.length-1) (cl fB y.2)])) (λy=>(0<=y.1/\y.1<=v.length)/\y.2=(v.take y.1.toNat).map pS) (λy=>(v.length-y.1).toNat) ?_ ?_
 .simp
 rintro⟨i,A⟩ ⟨⟨i0,n⟩,d⟩;dsimp only at i0 n d ⊢;have g:A.length=i.toNat:=by rw[d];simp;omega
 by_cases hi:i<v.length
 .have e:=Gn (l:=v) i0 hi;have f:=aaS (gt v i);obtain⟨b,j⟩:∃b,pS (gt v i)=b:=⟨_,rfl⟩;rw[j]at f;have h:A ++ [b]=(v.take (i+1).toNat).map pS:=by rw[e,List.map_append,<-d,<-j];rfl
  by_cases a:A = []
  .subst a;simp[hi];refine fo ?_;refine Yc (f) ?_;simp;refine fo ?_;refine LJ.i (i+1,[b]) (by first|rfl|simp[SA]) (by first|rfl|simp[SA]) rfl rfl ?_;exact⟨by omega,ie,h⟩
  .have o:0<A.length:=av.2 a;rw[if_neg a,if_neg a];simp[hi];refine fo ?_;refine Yc (f) ?_;simp;refine fo ?_;refine LJ.i (i+1,A ++ [b]) (by first|rfl|simp[show A.length-1+1=A.length by omega]) (by first|rfl|simp[show A.length-1+1=A.length by omega]) rfl rfl ?_;exact⟨by omega,ie,h⟩
 .have m:i=v.length:=by omega
  subst m;rw[af (by omega)]at d;have a:A≠[]:=λe=>by rw[e]at g;simp at g;omega
  rw[<-d]at c;rw[if_neg a,if_neg a];simp[hi];refine fo ?_;refine fL.r rfl rfl c (by simp[BB]) (by simp[flat]) (by simp) ?_;simp[hl,k]
theorem Tt(v:List fq)(h0:0<v.length)(o:v.length<=64):Wf T 41 [gQ v] [] (Is (.agg (cl fU (jI v)))):=by
 have c:Wf T 88 [nY (v.map pS)] [] (Is (.agg (cl fU (jI v)))):=by
  have:=NG (v.length+1) (v.map pS) (by simp) (by simpa using h0) (by simpa using o) λx k=>by obtain⟨r,_,rfl⟩:=au.1 k;rw[Sp];omega
  rw[jI];exact this
 have hl:=yL v;obtain⟨r,m⟩:∃r,jI v=r:=⟨_,rfl⟩;rw[m]at c hl ⊢;have g:r.take 32=r:=af (by omega);refine Yg xm ?_;simp[xm];refine fE.e ((0,[]):Int×List (List Int)) (λy=>[(0,gQ v),(2,.ptr 0 0 0),(3,.fm 1 y.2.length 1 0 y.2.length),(4,.i y.1)]) (λy=>[.row 70 0 (cl fU (zs 32)),.row 22 y.2.length (cl fB y.2)]) (λy=>(0<=y.1/\y.1<=v.length)/\y.2=(v.take y.1.toNat).map pS) (λy=>(v.length-y.1).toNat) ?_ ?_
 .simp
 rintro⟨i,A⟩ ⟨⟨i0,j⟩,a⟩;dsimp only at i0 j a ⊢;have p:A.length=i.toNat:=by rw[a];simp;omega
 by_cases hi:i<v.length
 .have e:=Gn (l:=v) i0 hi;have f:=aaP (gt v i);obtain⟨b,d⟩:∃b,pS (gt v i)=b:=⟨_,rfl⟩;rw[d]at f;have n:A ++ [b]=(v.take (i+1).toNat).map pS:=by rw[e,List.map_append,<-a,<-d];rfl
  simp[hi];refine fo ?_;refine Yc (f) ?_;simp;refine fo ?_;refine LJ.e (i+1,A ++ [b]) ?_;exact⟨by omega,ie,n⟩
 .have h:i=v.length:=by omega
  subst h;rw[af (by omega)]at a;rw[<-a]at c;simp[hi];refine fo ?_;refine fL.r rfl rfl c (by simp[BB]) (by simp[flat]) (by simp) ?_;simp[hl,g]
theorem Tq{f:FuncId}{args:List D}{d:D}(h:Wf T f args [] (Is d)):Ev T (.call f args []) (kj [(d,[])]):=by refine Ev.mono h λr a=>?_;obtain⟨d',H',a,rfl,rfl⟩:=a;exact⟨_,List.mem_singleton.2 rfl,a⟩
theorem Kp(v:List fq)(b:List Int){a d:D}(f:a=gQ v)(c:d = .agg (b.map λn=>.val (.int .u8 n)))(e:jI v=b)(h0:0<v.length)(g:v.length<=64):Ev T (.call 49 [a] []) (kj [(d,[])]):=by subst f c;rw[xL,<-e];exact Tq (Tu v h0 g)
theorem Ko(v:List fq)(b:List Int){a d:D}(f:a=gQ v)(c:d = .agg (b.map λn=>.val (.int .u8 n)))(e:jI v=b)(h0:0<v.length)(g:v.length<=64):Ev T (.call 41 [a] []) (kj [(d,[])]):=by subst f c;rw[xL,<-e];exact Tq (Tt v h0 g)
theorem abg:Wf T 207 [.fw] [] (Is (dU (pad []))):=by
 obtain⟨B,c⟩:∃B,vU 0=B:=⟨_,rfl⟩;have A:B.length=8:=by rw[<-c];rfl
 have o:∀i:Int,0<=i->i<8->gt B i=IntKind.u8.wrap (lK .u64 0 (56-8*i)):=λi i0 d=>by rw[<-c];exact JI _ i0 d
 obtain⟨p,h⟩:∃p,yH 0=p:=⟨_,rfl⟩;have z:p=63-(0+8) % 64:=by rw[<-h];rfl
 have hP:pad []=128::zs p++B:=by rw[pad];show []++128::(List.replicate (yH 0) 0++vU 0)=_;rw[c,h,tD];simp
 obtain⟨C,n⟩:∃C,128::zs p=C:=⟨_,rfl⟩;rw[hP,n];clear hP c h;have m:IntKind.u64.wrap (0:Int)=0:=rfl;have j:IntKind.u64.wrap (0)=8*0:=rfl;refine Yg A9 ?_;simp[A9];refine fo ?_;refine fE.e ((2,[128]):Nat×List Int) (λy=>[(0,.fw),(3,.fm 0 y.1 1 0 y.2.length)]) (λy=>[.row 5 y.1 (cl fU y.2),.row 5 0 [.val (.int .u8 128)]]) (λy=>∃k:Nat,k<=p/\y.2=128::zs k) (λy=>0+1+p-y.2.length) ?_ ?_
 .exact⟨0,by omega,by simp⟩
 rintro⟨g,q⟩ ⟨k,k0,a⟩;dsimp only at k0 a ⊢;have D:q.length=0+1+k:=by rw[a];simp;omega
 have f:fJ ((q.length:Int)+8) 64=((q.length:Int)+8) % 64:=iV (by omega)
 by_cases v:k<p
 .have h1:¬((q.length:Int)+8) % 64=0:=by omega
  have t:q ++ [0]=128::zs (k+1):=by rw[a,<-MQ];simp
  simp[f,h1];refine ja f ?_;refine LJ.e (g+1,q ++ [0]) ?_;exact⟨by simp;omega,k+1,v,t⟩
 .have r:k=p:=by omega
  subst r;have h1:((q.length:Int)+8) % 64=0:=by omega
  rw[n]at a;subst a;simp[f,h1,m,j];refine kl m j ?_;refine fE.e ((0,g,q):Int×Nat×List Int) (λy=>[(3,.fm 0 y.2.1 1 0 y.2.2.length),(4,.val (.int .u64 0)),(5,.i y.1)]) (λy=>[.row 5 y.2.1 (cl fU y.2.2),.row 5 0 [.val (.int .u8 128)]]) (λy=>(0<=y.1/\y.1<=8)/\y.2.2=q++B.take y.1.toNat) (λy=>(8-y.1).toNat) ?_ ?_
  .simp
  rintro⟨i,w,u⟩ ⟨⟨i0,d⟩,b⟩;dsimp only at i0 d b ⊢;have x:u.length=q.length+i.toNat:=by rw[b];simp;omega
  by_cases hi:i<8
  .have e:=ME (l:=B) i0 (by omega);rw[o i i0 hi]at e;simp[hi];refine fo ?_;refine LJ.e (i+1,w+1,u ++ [IntKind.u8.wrap (lK .u64 0 (56-8*i))]) ?_;exact⟨by omega,ie,by rw[e,b,aM]⟩
  .have s:i=8:=by omega
   subst s;have e:u=q++B:=by rw[b,af (by omega)]
   subst e;simp;refine fo ?_;rw[v8,List.map_append]
theorem aa1:Wf T 141 [.fw] [] (Is (.agg (cl fU (jK [])))):=by
 have p:=abg;have q:=TB;have E:=WZ [];simp only[cM]at E;obtain⟨P,hP⟩:∃P,pad []=P:=⟨_,rfl⟩;obtain⟨S,hS⟩:∃S,zB=S:=⟨_,rfl⟩;have v:S.length=8:=by rw[<-hS];rfl
 obtain⟨r,o⟩:∃r,jK []=r:=⟨_,rfl⟩;have d:xb (oY P S (P.length / 64))=r:=by rw[<-o,jK,hP,hS]
 rw[hP]at p E;rw[hS]at q;rw[o];clear hP hS o;refine Yg A7 ?_;simp[A7];refine Yc (p) ?_;simp;refine Yc (q) ?_;simp[v];refine fE.e ((0,S):Int×List Int) (λy=>[(2,.ptr 0 0 0),(3,dU P),(4,.ptr 1 0 0),(5,.i y.1)]) (λy=>[.row 70 0 (cl fU (zs 32)),.row 323 0 (cl fW y.2)]) (λy=>∃n:Nat,y.1=64*n/\y.1<=P.length/\y.2=oY P S n) (λy=>(P.length+64-y.1).toNat) ?_ ?_
 .exact⟨0,by simp,by simp,by simp[JK]⟩
 rintro⟨i,s⟩ ⟨n,fZ,l,hs⟩;dsimp only at fZ l hs ⊢;have a:s.length=8:=by rw[hs];exact Bq P v n
 by_cases hi:i<P.length
 .have f:s.take 8=s:=af (by omega);have x:((P.drop i.toNat).take 64).length=64:=by rw[aK,aQ];omega
  have e:=JL P S n;rw[<-hs,show 64*n=i.toNat by omega]at e;have G:(i+64).toNat-i.toNat=64:=by omega
  obtain⟨B,D⟩:∃B,(P.drop i.toNat).take 64=B:=⟨_,rfl⟩;rw[D]at x e;have c:=TC s B a x;have F:=JF (s:=s) (b:=B) a;obtain⟨A,I⟩:∃A,rW s B=A:=⟨_,rfl⟩;rw[I]at c e F;simp[hi,a,f];refine pR a f G ?_;rw[G,D];have w:s.drop 8 = []:=bJ (by omega);refine Yt (c) ?_;simp[F,a,f];refine fo ?_;refine LJ.i (i+64,A) (by first|rfl|simp[w]) (by first|rfl|simp[w]) rfl rfl ?_;exact⟨by omega,n+1,by omega,by omega,e.symm⟩
 .have k:n=P.length / 64:=by omega
  rw[<-k,<-hs]at d;have J:r.length=32:=by rw[<-d];exact CB s
  have t:∀j:Int,0<=j->j<32->gt r j=IntKind.u8.wrap (lK .u32 (gt s (j / 4)) (24-8*(j % 4))):=λj j0 j1=>by rw[<-d];exact LX s j0 j1
  clear d hs p q;simp[hi];refine fo ?_;refine fE.e ((0,zs 32):Int×List Int) (λy=>[(2,.ptr 0 0 0),(4,.ptr 1 0 0),(6,.ptr 2 0 0),(7,.i y.1)]) (λy=>[.row 70 0 (cl fU (zs 32)),.row 323 0 (cl fW s),.row 70 0 (cl fU y.2)]) (λy=>(0<=y.1/\y.1<=32)/\y.2.length=32/\∀j:Int,0<=j->j<y.1->gt y.2 j=gt r j) (λy=>(32-y.1).toNat) ?_ ?_
  .exact⟨by simp,by simp,λj j0 j1=>absurd j1 (by dsimp only;omega)⟩
  rintro⟨i,u⟩ ⟨⟨i0,l⟩,g,m⟩;dsimp only at i0 l g m ⊢
  by_cases hi:i<32
  .have z:tt i 4=i / 4:=tu i0 (by omega) (by omega);have C:fJ i 4=i % 4:=iV i0;simp[hi,z,C];refine kl z C ?_;refine LJ.i (i+1,pt u i (gt r i)) (by first|rfl|simp[t i i0 hi]) (by first|rfl|simp[t i i0 hi]) rfl rfl ?_;refine⟨by omega,ie,by rw[ig i0 (by omega)];exact g,λj j0 j1=>?_⟩;dsimp only at j1 ⊢;rw[o5 i0 (by omega) j0]
   by_cases e:j=i
   .rw[if_pos e,e]
   .rw[if_neg e];exact m j j0 (by omega)
  .have k:i=32:=by omega
   subst k
   have e:u=r:=by refine b6 (by omega) λj j0 j1=>?_;have h:=m j (by omega) (by omega);rw[jh (by omega) (by omega),jh (by omega) (by omega)]at h;exact h
   subst e;have H:u.take 32=u:=af (by omega);simp[g,H]
theorem aa5:Wf T 155 [.fw] [] (Is (.agg (cl fU (jK [])))):=by
 have R:=abk;obtain⟨B,t⟩:∃B,vU 0=B:=⟨_,rfl⟩;have X:B.length=8:=by rw[<-t];rfl
 have H:∀i:Int,0<=i->i<8->gt B i=IntKind.u8.wrap (lK .u64 0 (56-8*i)):=λi i0 n=>by rw[<-t];exact JI _ i0 n
 obtain⟨p,A⟩:∃p,yH 0=p:=⟨_,rfl⟩;have V:p=63-(0+8) % 64:=by rw[<-A];rfl
 have hP:pad []=128::zs p++B:=by rw[pad];show []++128::(List.replicate (yH 0) 0++vU 0)=_;rw[t,A,tD];simp
 obtain⟨C,D⟩:∃C,128::zs p=C:=⟨_,rfl⟩;rw[D]at hP;have Z:C.length=0+1+p:=by rw[<-D];simp;omega
 obtain⟨r,z⟩:∃r,jK []=r:=⟨_,rfl⟩;obtain⟨S,hS⟩:∃S,zB=S:=⟨_,rfl⟩;have w:S.length=8:=by rw[<-hS];rfl
 have m:xb (oY (C++B) S ((C++B).length / 64))=r:=by rw[<-z,jK,hP,hS]
 rw[z];clear hP t A z;have J:S.take 8=S:=af (by omega);have o:IntKind.u64.wrap (0:Int)=0:=rfl;have d:IntKind.u64.wrap (0)=8*0:=rfl;refine Yz xu (ik 36 [2] xu.body) ?_;simp[xu,ik,jG,me,mg,mq,kQ,Sk,hS];refine Yc (R) ?_;simp;refine fo ?_;refine fE.e ((0,[128]):Nat×List Int) (λy=>[(0,.fw),(2,.ptr 0 0 0),(3,.fm 2 y.1 1 0 y.2.length)]) (λy=>[.row 70 0 (cl fU (zs 32)),.row 5 0 [.val (.int .u8 128)],.row 5 y.1 (cl fU y.2)]) (λy=>∃k:Nat,k<=p/\y.2=128::zs k) (λy=>0+1+p-y.2.length) ?_ ?_
 .exact⟨0,by omega,by simp⟩
 rintro⟨g,q⟩ ⟨k,k0,s⟩;dsimp only at k0 s ⊢;have B9:q.length=0+1+k:=by rw[s];simp;omega
 have b:fJ ((q.length:Int)+8) 64=((q.length:Int)+8) % 64:=iV (by omega)
 by_cases N:k<p
 .have h1:¬((q.length:Int)+8) % 64=0:=by omega
  have M:q ++ [0]=128::zs (k+1):=by rw[s,<-MQ];simp
  simp[b,h1];refine ja b ?_;refine LJ.e (g+1,q ++ [0]) ?_;exact⟨by simp;omega,k+1,N,M⟩
 .have I:k=p:=by omega
  subst I;have h1:((q.length:Int)+8) % 64=0:=by omega
  rw[D]at s;subst s;simp[b,h1,o,d];refine kl o d ?_;refine fE.st (by simp;rfl) ?_;refine fE.e ((0,g,q):Int×Nat×List Int) (λy=>[(0,.fw),(2,.ptr 0 0 0),(3,.fm 2 y.2.1 1 0 y.2.2.length),(4,.i (56-8*y.1))]) (λy=>[.row 70 0 (cl fU (zs 32)),.row 5 0 [.val (.int .u8 128)],.row 5 y.2.1 (cl fU y.2.2)]) (λy=>(0<=y.1/\y.1<=8)/\y.2.2=q++B.take y.1.toNat) (λy=>(8-y.1).toNat) ?_ ?_
  .simp
  rintro⟨i,Q,u⟩ ⟨⟨i0,n⟩,a⟩;dsimp only at i0 n a ⊢;have c:u.length=q.length+i.toNat:=by rw[a];simp;omega
  by_cases hi:i<8
  .have e:=ME (l:=B) i0 (by omega);rw[H i i0 hi]at e;have K:0<=56-8*i:=by omega
   simp[K,d,o];(with_reducible repeat' first|refine Xk ?_<;>try simp[d,o]|refine Xs ?_ ?_<;>intro h<;>(try intro U)<;>(try simp[h,d,o])<;>try omega|refine Xg ?_|omega);refine LJ.i (i+1,Q+1,u ++ [IntKind.u8.wrap (lK .u64 0 (56-8*i))]) (by first|rfl|simp[show 56-8*(i+1)=56-8*i-8 by omega]) (by first|rfl|simp[show 56-8*(i+1)=56-8*i-8 by omega]) rfl rfl ?_;exact⟨by omega,ie,by rw[e,a,aM]⟩
  .have x:i=8:=by omega
   subst x;obtain⟨P,hP⟩:∃P,q++B=P:=⟨_,rfl⟩;have Y:P.length=q.length+8:=by rw[<-hP];simp;omega
   have e:u=P:=by rw[a,af (by omega),hP]
   rw[hP]at m;clear c a hP;subst e;simp;refine fo ?_;refine fL.n (by simp[w,J];rfl) ?_;rw[<-v8];refine Yc (TD u) ?_;simp;refine xC.r (f:=274) (first:=[]) (cap:=[.fH [dU u],.fH [.i 64]]) rfl rfl rfl rfl ?_;simp;refine Wf.mono (TF u S (by omega) (by omega) w) ?_;rintro _ H' rfl;have L:=Bq u w (u.length / 64);obtain⟨v,F⟩:∃v,oY u S (u.length / 64)=v:=⟨_,rfl⟩;rw[F]at m L ⊢;clear F;have W:r.length=32:=by rw[<-m];exact CB v
   have E:∀j:Int,0<=j->j<32->gt r j=IntKind.u8.wrap (lK .u32 (gt v (j / 4)) (24-8*(j % 4))):=λj j0 j1=>by rw[<-m];exact LX v j0 j1
   clear m;refine⟨[(5,.ptr 3 0 0)],.ready,by simp,?_⟩;simp;refine fE.st (by simp;rfl) ?_;refine fE.kg [4] false ((0,zs 32):Int×List Int) (λy=>[(2,.ptr 0 0 0),(5,.ptr 3 0 0),(7,.ptr 5 0 0),(42,.i y.1)]) (λy=>[.row 70 0 (cl fU (zs 32)),.row 5 0 [.val (.int .u8 128)],.dead,.row 323 0 (cl fW v),.km,.row 70 0 (cl fU y.2)]) (λy=>(0<=y.1/\y.1<=32)/\y.2.length=32/\∀j:Int,0<=j->j<y.1->gt y.2 j=gt r j) (λy=>(32-y.1).toNat) ?_ (by simp) (by first|rfl|(simp[iF];done)|(simp[*];done)) rfl rfl rfl ?_
   .exact⟨by simp,by simp,λj j0 j1=>absurd j1 (by dsimp only;omega)⟩
   rintro⟨i,u⟩ ⟨⟨i0,n⟩,c,a⟩;dsimp only at i0 n c a ⊢
   by_cases hi:i<32
   .have b:tt i 4=i / 4:=tu i0 (by omega) (by omega);have G:fJ i 4=i % 4:=iV i0;simp[hi,b,G];refine kl b G ?_;refine LJ.i (i+1,pt u i (gt r i)) (by first|rfl|simp[E i i0 hi]) (by first|rfl|simp[E i i0 hi]) rfl rfl ?_;refine⟨by omega,ie,by rw[ig i0 (by omega)];exact c,λj j0 j1=>?_⟩;dsimp only at j1 ⊢;rw[o5 i0 (by omega) j0]
    by_cases e:j=i
    .rw[if_pos e,e]
    .rw[if_neg e];exact a j j0 (by omega)
   .have x:i=32:=by omega
    subst x
    have e:u=r:=by refine b6 (by omega) λj j0 j1=>?_;have h:=a j (by omega) (by omega);rw[jh (by omega) (by omega),jh (by omega) (by omega)]at h;exact h
    subst e;have O:u.take 32=u:=af (by omega);simp[c,O]
theorem Ma:jI []=jK []:=by rw[jI];exact Xz 0
theorem Tv:Wf T 88 [nY []] [] (Is (.agg (cl fU (jK [])))):=by have c:=aa1;have hl:=pK [];obtain⟨r,b⟩:∃r,jK []=r:=⟨_,rfl⟩;rw[b]at c hl ⊢;have a:r.take 32=r:=af (by omega);refine Yg xp ?_;simp[xp];refine Yc (c) ?_;simp[hl,a]
theorem Tw:Wf T 97 [.fw] [] (Is (.agg (cl fU (jK [])))):=by have c:=aa5;have hl:=pK [];obtain⟨r,b⟩:∃r,jK []=r:=⟨_,rfl⟩;rw[b]at c hl ⊢;have a:r.take 32=r:=af (by omega);refine Yg xt ?_;simp[xt];refine Yc (c) ?_;simp[hl,a]
def dV(v:List fq)(d:D):Prop:=d=gQ v\/(v = []/\d = .fw)
theorem aaE:Wf T 41 [gQ []] [] (Is (.agg (cl fU (jI [])))):=by
 rw[Ma];have c:=Tv;have hl:=pK [];obtain⟨r,b⟩:∃r,jK []=r:=⟨_,rfl⟩;rw[b]at c hl ⊢;have a:r.take 32=r:=af (by omega);refine Yg xm ?_;simp[xm];refine fE.un ?_;refine jY.u ?_;simp
 trace_state
 refine fL.r rfl rfl c (by simp[BB]) (by simp[flat]) (by simp) ?_;simp[hl,a]
theorem aaD:Wf T 41 [.fw] [] (Is (.agg (cl fU (jI [])))):=by rw[Ma];have c:=Tv;have hl:=pK [];obtain⟨r,b⟩:∃r,jK []=r:=⟨_,rfl⟩;rw[b]at c hl ⊢;have a:r.take 32=r:=af (by omega);refine Yg xm ?_;simp[xm];refine fE.un ?_;refine jY.u ?_;simp;refine fL.r rfl rfl c (by simp[BB]) (by simp[flat]) (by simp) ?_;simp[hl,a]
theorem aaI:Wf T 49 [gQ []] [] (Is (.agg (cl fU (jI [])))):=by rw[Ma];have c:=Tw;have hl:=pK [];obtain⟨r,b⟩:∃r,jK []=r:=⟨_,rfl⟩;rw[b]at c hl ⊢;have a:r.take 32=r:=af (by omega);refine Yg xn ?_;simp[xn];refine fE.un ?_;refine jY.u ?_;simp;refine Yc (c) ?_;simp[hl,a]
theorem aaH:Wf T 49 [.fw] [] (Is (.agg (cl fU (jI [])))):=by rw[Ma];have c:=Tw;have hl:=pK [];obtain⟨r,b⟩:∃r,jK []=r:=⟨_,rfl⟩;rw[b]at c hl ⊢;have a:r.take 32=r:=af (by omega);refine Yg xn ?_;simp[xn];refine fE.un ?_;refine jY.u ?_;simp;refine Yc (c) ?_;simp[hl,a]
theorem NF{v:List fq}{d:D}(a:dV v d)(b:v.length<=64):Wf T 41 [d] [] (Is (.agg (cl fU (jI v)))):=by
 rcases a with rfl|⟨rfl,rfl⟩
 .by_cases h:v = []
  .subst h;exact aaE
  .exact Tt v (av.2 h) b
 .exact aaD
theorem aaJ{v:List fq}{d:D}(a:dV v d)(b:v.length<=64):Wf T 49 [d] [] (Is (.agg (cl fU (jI v)))):=by
 rcases a with rfl|⟨rfl,rfl⟩
 .by_cases h:v = []
  .subst h;exact aaI
  .exact Tu v (av.2 h) b
 .exact aaH
end Go.Proofs.YtmehofoficaelaaGreatDoor
namespace Go.Proofs.YtmehofoficaelaaGreatDoor
open Go Go.AL Classical
set_option maxRecDepth 10000
set_option maxHeartbeats 8000000
structure qk(g:fu)(m:List Int):Prop where
 len:m.length=g.kinds.length
 num:∀a∈m,1<=a/\a<=6
def lvC(m:List Int)(x:Int):Int:=if 0<=fX x then gt m (fX x)else 0
def PQ(m cs:List Int):Nat->Int
 | 0=>0
 | i+1=>PQ m cs i+lvC m (gt cs (i:Int))
def PR(m a b:List Int):Nat->Int
 | 0=>0
 | i+1=>PR m a b i+gt m (i:Int)*(gt a (i:Int)+gt b (i:Int))
def aji(r:Int):Int:=if r=0 then 0 else if r=3 then 2 else 1
def Ft(m:List Int)(p:Pos):Int:=PQ m p.cs p.cs.length+PR m p.h0 p.h1 m.length+aji p.fY
@[simp] theorem asd(m cs:List Int):PQ m cs 0=0:=rfl
@[simp] theorem ase(m a b:List Int):PR m a b 0=0:=rfl
section
variable{g:fu}{m:List Int}{p:Pos}
end
end Go.Proofs.YtmehofoficaelaaGreatDoor
namespace Go.AL
open Go
def NC:Nat->List (Int×List Int)->List (Value×D)
 | _,[]=>[]
 | k,e::r=>(.int .i64 e.1,.fm k (e.2.length-1) 1 0 e.2.length)::NC (k+1) r
def rwF(ls:List (Int×List Int)):U:=ls.map λe=>.row 3 (e.2.length-1) (cl f1 e.2)
def LH(m:List Int)(ls:List (Int×List Int)):U:=.row 56 0 [dI m] :: .map (.int .i64) (NC 2 ls)::rwF ls
end Go.AL
namespace Go.Proofs.YtmehofoficaelaaGreatDoor
open Go Go.AL Classical
noncomputable def abS(m:List Int)(l:List Pos)(n:Int)(k:Nat):List Int:=(upto k).filter λi=>decide (Ft m (gt l i)=n)
structure GI(m:List Int)(l:List Pos)(i:Int)(ls:List (Int×List Int)):Prop where
 nd:(ls.map (·.1)).Nodup
 mem:∀n,n∈ls.map (·.1)↔∃j:Int,0<=j/\j<i/\Ft m (gt l j)=n
 prt:∀e∈ls,e.2=abS m l e.1 i.toNat
section
variable{m:List Int}{l:List Pos}{i:Int}{ls:List (Int×List Int)}
end
end Go.Proofs.YtmehofoficaelaaGreatDoor
namespace Go.Proofs.YtmehofoficaelaaGreatDoor
open Go Go.AL Classical
section
variable{g:fu}{l:List Pos}{nx:List (List Int)}{part:List Int}
end
structure Chn(L:Nat)(v:List fq)(b:List Bool):Prop where
 vl:v.length=L
 bl:b.length=L
 n:∀i:Int,0<=i->i<L->gt b i=false->(gt v i).1≠2->0<=(gt v i).2/\(0<(gt v i).2->∃j:Int,0<=j/\j<L/\gt b j=false/\(gt v j).1≠2/\(gt v j).2=(gt v i).2-1)
theorem Q7(v:List fq)(b:List Bool)(x:List Int):∀k:Nat,k<=x.length->(kM v b x k).2 = -1\/∃j∈x,gt b j=false/\(gt v j).1=1/\(gt v j).2=(kM v b x k).2
 | 0,_=>.inl rfl
 | k+1,hk=>by
  have c:=Q7 v b x k (by omega);have d:gt x (k:Int)∈x:=fM (by omega) (by omega);rw[kM];split
  .rename_i h;dsimp only;rcases Int.le_total (kM v b x k).2 (gt v (gt x (k:Int))).2 with a|a
   .rw[Int.max_eq_right a];exact .inr ⟨_,d,h.1,h.2,rfl⟩
   .rw[Int.max_eq_left a];exact c
  .exact c
section
variable{g:fu}{l:List Pos}{nx:List (List Int)}{part:List Int}{bu:Int}
theorem J9(o:vM g l nx part bu){v:List fq}{b:List Bool}(a:b.length=l.length){n:Int}:∀i∈qn g l nx part v b n,0<=i/\i<b.length:=λi hi=>by rw[a];exact o.prt i (Z' hi)
theorem ajt(o:vM g l nx part bu){v:List fq}{b:List Bool}(a:v.length=l.length)(c:b.length=l.length){n:Int}:(rV g l nx part v b n).length=l.length:=by unfold rV;rw[FR _ _ _ (by rw[a,<-c];exact J9 o c),a]
theorem ajs(o:vM g l nx part bu){v:List fq}{b:List Bool}(a:b.length=l.length){n:Int}:(rB g l nx part v b n).length=l.length:=by unfold rB;rw[FR _ _ _ (J9 o a),a]
theorem Ug(o:vM g l nx part bu){v:List fq}{b:List Bool}(c:v.length=l.length)(a:b.length=l.length){n j:Int}(j0:0<=j)(j1:j<l.length):gt (rV g l nx part v b n) j=if j∈qn g l nx part v b n then Kg g l nx v b n j else gt v j:=
 Eg _ _ _ (by rw[c,<-a];exact J9 o a) j j0 (by omega)
theorem N4(o:vM g l nx part bu){v:List fq}{b:List Bool}(a:b.length=l.length){n j:Int}(j0:0<=j)(j1:j<l.length):gt (rB g l nx part v b n) j=if j∈qn g l nx part v b n then false else gt b j:=
 Eg _ _ _ (J9 o a) j j0 (by omega)
theorem TN(o:vM g l nx part bu){v:List fq}{b:List Bool}(a:v.length=l.length)(c:b.length=l.length):((u7 part v b).1.length=l.length/\(u7 part v b).2.length=l.length) /\
  ∀j:Int,0<=j->j<l.length->gt (u7 part v b).1 j=(if j∈part/\gt b j=true then(2,0)else gt v j)/\gt (u7 part v b).2 j=(if j∈part then false else gt b j):=by
 have hi:∀i∈part.filter (λi=>gt b i),0<=i/\i<l.length:=λi hi=>o.prt i (aV.1 hi).1;unfold u7;dsimp only;refine⟨⟨by rw[FR _ _ _ (by rw[a];exact hi),a],by rw[FR _ _ _ (by rw[c];exact hi),c]⟩,λj j0 j1=>?_⟩;rw[Eg _ _ _ (by rw[a];exact hi) j j0 (by omega),Eg _ _ _ (by rw[c];exact hi) j j0 (by omega)];simp only[aV];refine⟨trivial,?_⟩
 by_cases h1:j∈part
 .by_cases d:gt b j=true
  .simp[h1,d]
  .simp[h1,d]
 .simp[h1]
end
section
variable{g:fu}{l:List Pos}{nx:List (List Int)}
end
end Go.Proofs.YtmehofoficaelaaGreatDoor
namespace Go.Proofs.YtmehofoficaelaaGreatDoor
open Go Go.AL Classical
noncomputable def LR(m:List Int)(l:List Pos)(last:Int):Nat->Int
 | 0 => -1
 | i+1=>if last<Ft m (gt l (i:Int))/\(LR m l last i<0\/Ft m (gt l (i:Int))<LR m l last i)then Ft m (gt l (i:Int))else LR m l last i
@[simp] theorem asw(m:List Int)(l:List Pos)(last:Int):LR m l last 0 = -1:=rfl
set_option maxRecDepth 10000
set_option maxHeartbeats 8000000
def Y7(b:Int)(l:List fq):Bool:=l.any λs=>s.1 == 8&&s.2 == b
def Y6(g:fu)(a b:Int):Bool:=(gt g.kinds a).iG.any (Y7 b)
structure alf(g:fu)(m:List Int):Prop where
 ok:qk g m
 le:∀a b:Int,0<=a->a<g.kinds.length->0<=b->b<g.kinds.length->Y6 g a b=true->gt m b<=gt m a
theorem acd{α:Type}[Inhabited α]{l a:List α}{n:Int}(h0:0<=n)(h:n<l.length):gt (l++a) n=gt l n:=by unfold gt;rw[List.getD_eq_getElem?_getD,List.getD_eq_getElem?_getD,ah (by omega)]
end Go.Proofs.YtmehofoficaelaaGreatDoor
namespace Go.Proofs.YtmehofoficaelaaGreatDoor
open Go Go.AL Classical
section
variable{g:fu}{l:List Pos}{nx:List (List Int)}{part:List Int}{bu:Int}
structure Agr(L:Nat)(S:Int->Prop)(v:List fq)(b:List Bool)(v':List fq)(b':List Bool):Prop where
 vl:v.length=L
 bl:b.length=L
 vl':v'.length=L
 bl':b'.length=L
 eb:∀k:Int,0<=k->k<L->S k->gt b k=gt b' k
 ev:∀k:Int,0<=k->k<L->S k->gt b k=false->gt v k=gt v' k
structure alg(l:List Pos)(nx:List (List Int))(part:List Int)(S:Int->Prop):Prop where
 own:∀i∈part,S i
 next:∀i∈part,∀k∈gt nx i,S k
def rep(n:Nat):List Bool:=List.replicate n false
end
section
variable{g:fu}{l:List Pos}{m:List Int}
end
end Go.Proofs.YtmehofoficaelaaGreatDoor
namespace Go.Proofs.YtmehofoficaelaaGreatDoor
open Go Go.AL Classical
structure nu where
 ov:Int->Bool
 rs:Int->Int
 nx:List (List Int)
def oX(A:nu)(v:List fq)(i:Int):Prop:=
 (A.ov i=true/\gt v i=(A.rs i,0))\/(A.ov i=false/\(
  (∃n,1<=n/\gt v i=(1,n)/\(∃k∈gt A.nx i,gt v k=(3,n-1))/\∀k∈gt A.nx i,(gt v k).1=3->n-1<=(gt v k).2) \/
  (∃n,1<=n/\gt v i=(3,n)/\(∀k∈gt A.nx i,(gt v k).1=1/\(gt v k).2<=n-1)/\∃k∈gt A.nx i,(gt v k).2=n-1) \/
  (gt v i=(2,0)/\(∀k∈gt A.nx i,(gt v k).1≠3)/\¬(gt A.nx i≠[]/\∀k∈gt A.nx i,(gt v k).1=1))))
theorem oX.n0{A:nu}{v:List fq}{i:Int}(h:oX A v i):0<=(gt v i).2:=by rcases h with⟨_,e⟩|⟨_,⟨n,h,e,_⟩|⟨n,h,e,_⟩|⟨e,_⟩⟩<;>rw[e]<;>simp<;>omega
theorem oX.congr{A:nu}{v v':List fq}{i:Int}(h:oX A v i)(hi:gt v' i=gt v i)(b:∀k∈gt A.nx i,gt v' k=gt v k):oX A v' i:=by
 rcases h with⟨f,c2⟩|⟨f,⟨q,q1,c2,⟨k,c,e⟩,d⟩|⟨q,q1,c2,e,k,c,d⟩|⟨c2,e,d⟩⟩
 .exact .inl ⟨f,by rw[hi];exact c2⟩
 .exact .inr ⟨f,.inl ⟨q,q1,by rw[hi];exact c2,⟨k,c,by rw[b k c];exact e⟩,λp a=>by rw[b p a];exact d p a⟩⟩
 .exact .inr ⟨f,.inr (.inl ⟨q,q1,by rw[hi];exact c2,λp a=>by rw[b p a];exact e p a,k,c,by rw[b k c];exact d⟩)⟩
 .exact .inr ⟨f,.inr (.inr ⟨by rw[hi];exact c2,λp a=>by rw[b p a];exact e p a,λ⟨j,g⟩=>d ⟨j,λp a=>by rw[<-b p a];exact g p a⟩⟩)⟩
section
variable{A:nu}{S:Int->Prop}{v v':List fq}
end
noncomputable def lM(g:fu)(l:List Pos)(nx:List (List Int)):nu:=⟨λi=>(stat g (gt l i)).2,λi=>(stat g (gt l i)).1,nx⟩
end Go.Proofs.YtmehofoficaelaaGreatDoor
namespace Go.Proofs.YtmehofoficaelaaGreatDoor
open Go Go.AL Classical
structure gx where
 who:Int
 lo:Int
 hi:Int
 es:List fq
 root:List Int
 deriving Inhabited
def jZ(c:gx)(i:Int):Bool:=decide (c.lo<=i/\i<c.hi)
def kb(c:gx)(i:Int):fq:=gt c.es (i-c.lo)
def sd(cl:List gx)(i:Int):List fq:=(cl.filter λc=>jZ c i).map λc=>kb c i
theorem uA{cl:List gx}{i:Int}{r:fq}:r∈sd cl i↔∃c∈cl,jZ c i=true/\kb c i=r:=by
 unfold sd;rw[au];constructor
 .grind
 .grind
def uB:List Int->Int
 | [] => -1
 | a::r=>r.foldl min a
def Ct:List Int->Int
 | [] => -1
 | a::r=>r.foldl max a
theorem foldl_min:∀(r:List Int) (a:Int),(r.foldl min a=a\/r.foldl min a∈r)/\r.foldl min a<=a/\∀y∈r,r.foldl min a<=y
 | [],a=>⟨.inl rfl,dA _,by simp⟩
 | b::r,a=>by
  obtain⟨h1,e,d⟩:=foldl_min r (min a b);rw[bT];refine⟨?_,by omega,λy c=>?_⟩
  .grind
  .grind
theorem foldl_max:∀(r:List Int) (a:Int),(r.foldl max a=a\/r.foldl max a∈r)/\a<=r.foldl max a/\∀y∈r,y<=r.foldl max a
 | [],a=>⟨.inl rfl,dA _,by simp⟩
 | b::r,a=>by
  obtain⟨h1,e,d⟩:=foldl_max r (max a b);rw[bT];refine⟨?_,by omega,λy c=>?_⟩
  .grind
  .grind
theorem Cv{l:List Int}(h:l≠[]):uB l∈l:=by
 cases l with
 | nil=>exact absurd rfl h
 | cons a r=>
  rcases(foldl_min r a).1 with e|e
  .exact aw.2 (.inl e)
  .exact aY _ e
theorem FA{l:List Int}{y:Int}(h:y∈l):uB l<=y:=by
 cases l with
 | nil=>cases h
 | cons a r=>
  rcases aw.1 h with rfl|h
  .exact(foldl_min r y).2.1
  .exact(foldl_min r a).2.2 y h
theorem Wm{l:List Int}(h:l≠[]):Ct l∈l:=by
 cases l with
 | nil=>exact absurd rfl h
 | cons a r=>
  rcases(foldl_max r a).1 with e|e
  .exact aw.2 (.inl e)
  .exact aY _ e
theorem VY{l:List Int}{y:Int}(h:y∈l):y<=Ct l:=by
 cases l with
 | nil=>cases h
 | cons a r=>
  rcases aw.1 h with rfl|h
  .exact(foldl_max r y).2.1
  .exact(foldl_max r a).2.2 y h
def lx(l:List fq):Int:=uB ((l.filter λr=>decide (r.1≠2)).map λr=>r.2)
def pv(l:List fq):fq:=l.headD default
def l4(l:List fq):Bool:=l.any λr=>decide (r≠pv l)
theorem S8{l:List fq}:l4 l=true↔∃r∈l,r≠pv l:=by simp[l4]
theorem Kd{l:List fq}:l4 l=false↔∀r∈l,r=pv l:=by simp[l4]
theorem KB{l:List fq}(h:l≠[]):pv l∈l:=by
 cases l with
 | nil=>exact absurd rfl h
 | cons a r=>exact List.mem_cons_self
theorem ad9{l:List fq}{r:fq}(h:r∈l)(a:r.1≠2):lx l<=r.2:=
 FA (au.2 ⟨r,aV.2 ⟨h,by simpa using a⟩,rfl⟩)
theorem aea{l:List fq}(h:∃r∈l,r.1≠2):∃r∈l,r.1≠2/\r.2=lx l:=by
 obtain⟨r,b,c⟩:=h
 have:=Cv (l:=(l.filter λr=>decide (r.1≠2)).map λr=>r.2) λe=>by have:r.2∈(l.filter λr=>decide (r.1≠2)).map λr=>r.2:=au.2 ⟨r,aV.2 ⟨b,by simpa using c⟩,rfl⟩;rw[e]at this;cases this
 obtain⟨q,a,e⟩:=au.1 this;rw[aV]at a;exact⟨q,a.1,by simpa using a.2,e⟩
def jH(l:List fq)(o:Int):List Int:=(l.filter λr=>decide (r.1=o)).map λr=>r.2
theorem yD{l:List fq}{o n:Int}:n∈jH l o↔(o,n)∈l:=by
 unfold jH;rw[au];constructor
 .grind
 .simp_all
theorem LL{l:List fq}{o:Int}:(jH l o).length=l.length↔∀r∈l,r.1=o:=by unfold jH;rw[List.length_map,List.length_filter_eq_length_iff];simp
def nJ(l:List fq):fq:=
 if jH l 3≠[]then(1,uB (jH l 3)+1)else if l≠[]/\(jH l 1).length=l.length then(3,Ct (jH l 1)+1)else(2,0)
def FD(A:nu)(cl:List gx)(i n:Int):List fq:=(gt A.nx i).map λj=>if l4 (sd cl j)=false/\(pv (sd cl j)).2<n then pv (sd cl j)else(2,0)
def pN(A:nu)(cl:List gx)(i:Int)(c:gx):Bool:=
 jZ c i&&(if A.ov i=true then decide (kb c i≠(A.rs i,0))else
  if (nJ (FD A cl i (lx (sd cl i)))).1≠2 then decide (kb c i≠nJ (FD A cl i (lx (sd cl i))))else decide ((kb c i).1≠2/\(kb c i).2=lx (sd cl i)))
def lW(r:fq):Bool:=decide (r=(2,0)\/((r.1=1\/r.1=3)/\0<=r.2))
theorem oX.dr{A:nu}{v:List fq}{i:Int}(h:oX A v i)(a:(gt v i).1=2):gt v i=(2,0):=by
 rcases h with⟨_,e⟩|⟨_,⟨n,_,e,_⟩|⟨n,_,e,_⟩|⟨e,_⟩⟩
 .grind
 .grind
 .grind
 .exact e
section
variable{A:nu}{V:List fq}{cl:List gx}{N:Int}
theorem aaf{i:Int}(c:∀r∈sd cl i,lW r=true)(f:l4 (sd cl i)=true):∃r∈sd cl i,r.1≠2:=by
 obtain⟨r,b,g⟩:=S8.1 f;have h0:=KB (l:=sd cl i) λe=>by rw[e]at b;cases b
 have a:=c r b;have d:=c _ h0;simp only[lW,decide_eq_true_eq]at a d;rcases a with a|a
 .grind
 .grind
theorem ak6(fZ:∀i,0<=i->i<N->∀k∈gt A.nx i,0<=k/\k<N)(hV:∀i,0<=i->i<N->oX A V i)(H:∀i,0<=i->i<N->gt V i∈sd cl i)
  {i:Int} (i0:0<=i) (G:i<N) (J:∀j,0<=j->j<N->l4 (sd cl j)=true->lx (sd cl i)<=lx (sd cl j)) {c:gx} (hs:kb c i=gt V i):pN A cl i c=false:=by
 have F:∀j∈gt A.nx i,(if l4 (sd cl j)=false/\(pv (sd cl j)).2<lx (sd cl i)then pv (sd cl j)else(2,0))=if (gt V j).1≠2/\(gt V j).2<lx (sd cl i)then gt V j else(2,0):=λj a=>by
  obtain⟨j0,j1⟩:=fZ i i0 G j a;have b:=H j j0 j1
  by_cases q:l4 (sd cl j)=true
  .rw[if_neg (λh=>by rw[q]at h;cases h.1)];rw[if_neg];rintro⟨h1,v⟩;have:=ad9 b h1;have:=J j j0 j1 q;omega
  .have q:l4 (sd cl j)=false:=by simpa using q
   have e:=Kd.1 q _ b;rw[<-e]
   by_cases v:(gt V j).1=2
   .rw[(hV j j0 j1).dr v];simp
   .simp[q,v]
 have E:FD A cl i (lx (sd cl i))=(gt A.nx i).map λj=>if (gt V j).1≠2/\(gt V j).2<lx (sd cl i)then gt V j else(2,0):=ao F
 unfold pN;rw[hs,E];generalize lx (sd cl i)=n;clear F E J hs H;have b:∀(o p:Int),o≠2->((o,p)∈((gt A.nx i).map λj=>if (gt V j).1≠2/\(gt V j).2<n then gt V j else(2,0))↔∃j∈gt A.nx i,gt V j=(o,p)/\p<n):=λo p P=>by grind
 have hM:∀j∈gt A.nx i,(if (gt V j).1≠2/\(gt V j).2<n then gt V j else(2,0))∈(gt A.nx i).map λj=>if (gt V j).1≠2/\(gt V j).2<n then gt V j else(2,0):=λj a=>au.2 ⟨j,a,rfl⟩
 have z:∀r∈(gt A.nx i).map (λj=>if (gt V j).1≠2/\(gt V j).2<n then gt V j else(2,0)),∃j∈gt A.nx i,(if (gt V j).1≠2/\(gt V j).2<n then gt V j else(2,0))=r:=λr u=>au.1 u;generalize ((gt A.nx i).map λj=>if (gt V j).1≠2/\(gt V j).2<n then gt V j else(2,0))=M at *;rw[Bool.and_eq_false_iff];right;rcases hV i i0 G with⟨o,e⟩|⟨o,⟨m,m1,e,⟨k,d,t⟩,D⟩|⟨m,m1,e,x,k,d,t⟩|⟨e,L,C⟩⟩
 .grind
 .rw[if_neg (by rw[o];simp),e]
  by_cases g:jH M 3 = []
  .have K:n<=m-1:=by refine eG.1 λh=>?_;have:=yD.2 ((b 3 (m-1) (by decide)).2 ⟨k,d,t,h⟩);rw[g]at this;cases this
   have f:nJ M=(2,0):=by unfold nJ;rw[if_neg (λh=>h g),if_neg];rintro⟨_,s⟩;have:=LL.1 s _ (hM k d);rw[t,if_neg (by simp;omega)]at this;simp at this
   rw[f];simp;omega
  .obtain⟨j,a,l,O⟩:=(b 3 _ (by decide)).1 (yD.1 (Cv g));have h1:=D j a (by rw[l]);rw[l]at h1;dsimp only at h1;have v:=FA (yD.2 ((b 3 (m-1) (by decide)).2 ⟨k,d,t,by omega⟩))
   have f:nJ M=(1,m):=by unfold nJ;rw[if_pos g,show uB (jH M 3)+1=m by omega]
   rw[f];simp
 .rw[if_neg (by rw[o];simp),e]
  have g:jH M 3 = []:=by refine aR.2 λp y=>?_;obtain⟨j,a,l,_⟩:=(b 3 _ (by decide)).1 (yD.1 y);have:=(x j a).1;rw[l]at this;simp at this
  by_cases D:m-1<n
  .have B:∀r∈M,r.1=1:=λr u=>by grind
   have w:m-1∈jH M 1:=yD.2 ((b 1 (m-1) (by decide)).2 ⟨k,d,eN (x k d).1 t,D⟩);have Q:=VY w;obtain⟨j,a,l,_⟩:=(b 1 _ (by decide)).1 (yD.1 (Wm λh=>by rw[h]at w;cases w));have I:=(x j a).2;rw[l]at I;dsimp only at I
   have f:nJ M=(3,m):=by unfold nJ;rw[if_neg (λh=>h g),if_pos ⟨λh=>(by have:=hM k d;rw[h]at this;cases this),LL.2 B⟩,show Ct (jH M 1)+1=m by omega]
   rw[f];simp
  .have f:nJ M=(2,0):=by unfold nJ;rw[if_neg (λh=>h g),if_neg];rintro⟨_,s⟩;have:=LL.1 s _ (hM k d);rw[if_neg (by omega)]at this;simp at this
   rw[f];simp;omega
 .rw[if_neg (by rw[o];simp),e]
  have g:jH M 3 = []:=by refine aR.2 λp y=>?_;obtain⟨j,a,l,_⟩:=(b 3 _ (by decide)).1 (yD.1 y);exact L j a (by rw[l])
  have f:nJ M=(2,0):=by
   unfold nJ;rw[if_neg (λh=>h g),if_neg];rintro⟨h0,s⟩;obtain⟨r,u⟩:=eI _ h0;obtain⟨j,a,_⟩:=z r u;refine C ⟨λh=>(by rw[h]at a;cases a),λk d=>?_⟩;have:=LL.1 s _ (hM k d);split at this
   .exact this
   .simp at this
  rw[f];simp
theorem ak7{i:Int}(j:∀r∈sd cl i,lW r=true)(f:l4 (sd cl i)=true):∃c∈cl,pN A cl i c=true:=by
 have two:∀w:fq,∃c∈cl,jZ c i=true/\kb c i≠w:=λw=>by
  obtain⟨r,a,m⟩:=S8.1 f;have h0:=KB (l:=sd cl i) λe=>by rw[e]at a;cases a
  by_cases h:r=w
  .obtain⟨c,h1,d,b⟩:=uA.1 h0;exact⟨c,h1,d,by rw[b,<-h];exactλe=>m e.symm⟩
  .obtain⟨c,h1,d,b⟩:=uA.1 a;exact⟨c,h1,d,by rw[b];exact h⟩
 unfold pN
 by_cases k:A.ov i=true
 .simp_all
 .by_cases g:(nJ (FD A cl i (lx (sd cl i)))).1≠2
  .simp_all
  .obtain⟨r,a,d,e⟩:=aea (aaf j f);obtain⟨c,h1,b,rfl⟩:=uA.1 a;exact⟨c,h1,by rw[b,if_neg k,if_neg g];simpa using ⟨d,e⟩⟩
end
end Go.Proofs.YtmehofoficaelaaGreatDoor
namespace Go.Proofs.YtmehofoficaelaaGreatDoor
open Go Go.AL Classical
set_option maxRecDepth 10000
set_option maxHeartbeats 4000000
theorem M9:∀(n:Nat) (a b:List Int),a.length=n->b.length=n->lS (List.replicate n lQ.int) (cl fU a) (cl fU b)=some (decide (a=b))
 | 0,[],[],_,_=>by simp[na,lS]
 | n+1,x::a,y::b,ha,hb=>by
  have c:=M9 n a b (by simpa using ha) (by simpa using hb);rw[mm,mm,xT,xT,bt]
  show(match s0 .int (.val (.int .u8 x)) (.val (.int .u8 y)),lS (List.replicate n lQ.int) (cl fU a) (cl fU b)with
   | some a,some b=>some (a&&b)
   | _,_=>none)=_
  rw[c];show some (decide (x=y)&&decide (a=b))=_;rw[<-dp];congr 1;exact decide_eq_decide.2 (by simp)
def MR:List lQ:=List.replicate 32 lQ.int
theorem RV:MR = [.int,.int,.int,.int,.int,.int,.int,.int,.int,.int,.int,.int,.int,.int,.int,.int,.int,.int,.int,.int,.int,.int,.int,.int,.int,.int,.int,.int,.int,.int,.int,.int]:=rfl
def dE(em:Bool)(es:List fq):D:=if em then .fw else gQ es
structure Cw where
 c:gx
 em:Bool
 deriving Inhabited
def Cw.cells(x:Cw):List D:=[.i x.c.who,.i x.c.lo,.i x.c.hi,dE x.em x.c.es]++cl fU x.c.root
structure Cw.ok(x:Cw):Prop where
 em:x.em=true->x.c.es = []
 es:x.c.es.length<=64
 root:x.c.root.length=32
 lo : -1000000<=x.c.lo/\x.c.lo<=1000000
 hi : -1000000<=x.c.hi/\x.c.hi<=1000000
theorem S2{em:Bool}{es:List fq}(h:em=true->es = []):dV es (dE em es):=by
 unfold dE;cases em
 .exact .inl rfl
 .exact .inr ⟨h rfl,rfl⟩
theorem Np{em:Bool}{es:List fq}(h:em=true->es = [])(H:U):mB .slice (dE em es) H=some (.i es.length):=by
 unfold dE;cases em
 .simp
 .rw[h rfl];simp
@[simp] theorem apb(em:Bool)(es:List fq):closed (dE em es)=true:=by unfold dE;cases em<;>simp
def snd(c:gx):Bool:=decide (0<=c.lo/\c.lo<=c.hi/\(c.es.length:Int)=c.hi-c.lo/\c.root=jI c.es)
theorem aaG(x:Cw)(b:x.ok):Wf T 48 [.agg x.cells] [] (Is (.b (snd x.c))):=by
 have e:=aaJ (S2 b.em) b.es;have h:=yL x.c.es;have i:=b.root;have o:=b.lo;have m:=b.hi;have n:=b.es;have a:=Np b.em;obtain⟨⟨who,lo,hi,es,root⟩,em⟩:=x;unfold Cw.cells snd;dsimp only at *;obtain⟨r,k⟩:∃r,jI es=r:=⟨_,rfl⟩;rw[k]at e h ⊢;obtain⟨E,f⟩:∃E,dE em es=E:=⟨_,rfl⟩;have l:closed E=true:=by rw[<-f];simp
 rw[f]at e a ⊢;have j:root.take 32=root:=af (by omega);have c:=M9 32 root r i h;rw[show List.replicate 32 lQ.int=MR from rfl,RV]at c
 by_cases h1:0<=lo
 .by_cases d:lo<=hi
  .by_cases g:(es.length:Int)=hi-lo
   .refine Yg uM ?_;simp[uM,h1,d,a];refine ja a ?_;refine iy.c rfl rfl e (by simp[l]) (by simp) ?_;simp[j,c,g]
   .refine Yg uM ?_;simp[uM,h1,d,a];refine ja a ?_;simp[g]
  .refine Yg uM ?_;simp[uM,h1,d]
 .refine Yg uM ?_;simp[uM,h1]
theorem aaZ(x:Cw)(b:x.ok):Wf T 127 [.agg x.cells] [] (Is (.b (snd x.c))):=by
 have e:=NF (S2 b.em) b.es;have h:=yL x.c.es;have i:=b.root;have o:=b.lo;have m:=b.hi;have n:=b.es;have a:=Np b.em;obtain⟨⟨who,lo,hi,es,root⟩,em⟩:=x;unfold Cw.cells snd;dsimp only at *;obtain⟨r,k⟩:∃r,jI es=r:=⟨_,rfl⟩;rw[k]at e h ⊢;obtain⟨E,f⟩:∃E,dE em es=E:=⟨_,rfl⟩;have l:closed E=true:=by rw[<-f];simp
 rw[f]at e a ⊢;have j:root.take 32=root:=af (by omega);have c:=M9 32 root r i h;rw[show List.replicate 32 lQ.int=MR from rfl,RV]at c
 by_cases h1:0<=lo
 .by_cases d:lo<=hi
  .by_cases g:(es.length:Int)=hi-lo
   .refine Yg uO ?_;simp[uO,h1,d,a];refine ja a ?_;refine iy.c rfl rfl e (by simp[l]) (by simp) ?_;simp[j,c,g]
   .refine Yg uO ?_;simp[uO,h1,d,a];refine ja a ?_;simp[g]
  .refine Yg uO ?_;simp[uO,h1,d]
 .refine Yg uO ?_;simp[uO,h1]
