/- Part 36 of DisputeReferee. -/
import Derived.Test.YtmehofoficaelaaGreatDoorR35
set_option linter.all false
namespace Go.Proofs.YtmehofoficaelaaGreatDoor
open Go Go.AL Classical
set_option maxRecDepth 10000
set_option maxHeartbeats 4000000
@[irreducible] def fB(l:List Int):List D:=[dU l]
@[simp] theorem EI(l:List Int):fB l = [dU l]:=by unfold fB;rfl
instance:Fl fB 1:=⟨λ_=>by simp,λ_=>by simp[gh]⟩
@[irreducible] def oo(L:List (List Int)):D:=.sl 1 (L.map fB)
theorem B7(L:List (List Int)):oo L = .sl 1 (L.map fB):=by unfold oo;rfl
@[simp] theorem apQ(L:List (List Int)):closed (oo L)=true:=by unfold oo;exact yh L
@[simp] theorem asr(L:List (List Int))(H:U):mM .slice (oo L) H=some (.i L.length):=by unfold oo;simp
@[simp] theorem avX(f:gD)(l:List (List Int))(lo hi:Option X):tg f 1 (oo l) lo hi=(gN f lo 0).bind λa=>(gN f hi l.length).bind λh=>if 0<=a/\a<=h/\h<=l.length then some (oo ((l.drop a.toNat).take (h.toNat-a.toNat)))else none:=by unfold oo;rw[Rr,List.length_map];simp only[MT]
@[simp] theorem atp{l:List (List Int)}{n:Int}{k:IntKind}{P:D->Prop}:oA (ma 1 (oo l) (.val (.int k n))) P .mk=((0<=n/\n<l.length)/\P (.fV [dU (gt l n)])):=by unfold oo;simp
theorem S9(l:List Int)(n:Int):D.val (.int .u8 n)::cl fU l=cl fU (n::l):=by rw[mi,yq];rfl
theorem p7(b:List Int):(jV b).length=32:=by rw[jV];exact C' _
theorem abV(b:List Int)(a:b.length<=4000000000):Wf T 210 [dU b] [] (Is (dU (0::b))):=by refine Yg HY ?_;simp[HY];refine fD ?_;rw[S9];exact uq (k:=38) (by simp;omega)
theorem abI(b:List Int)(e:b.length<=3000000000):Wf T 142 [dU b] [] (Is (.agg (cl fU (jV (0::b))))):=by have c:=TZ (0::b) (by simp;omega);have hl:=p7 (0::b);obtain⟨r,d⟩:∃r,jV (0::b)=r:=⟨_,rfl⟩;rw[d]at c hl ⊢;have a:r.take 32=r:=af (by omega);refine Yg HP ?_;simp[HP];refine Yc (abV b (by omega)) ?_;simp;refine Yc (c) ?_;simp[hl,a]
theorem abW(a b:List Int)(f:a.length=32)(e:b.length=32):Wf T 211 [.agg (cl fU a),.agg (cl fU b)] [] (Is (dU (1::(a++b)))):=by have c:a.take 32=a:=af (by omega);have d:b.take 32=b:=af (by omega);refine Yg HZ ?_;simp[HZ];refine zC f e c d ?_;rw[S9,c,c,d];exact uq (k:=38) (by simp;omega)
theorem abK(a b:List Int)(f:a.length=32)(e:b.length=32):Wf T 144 [.agg (cl fU a),.agg (cl fU b)] [] (Is (.agg (cl fU (jV (1::(a++b)))))):=by have c:=TZ (1::(a++b)) (by simp;omega);have hl:=p7 (1::(a++b));obtain⟨r,i⟩:∃r,jV (1::(a++b))=r:=⟨_,rfl⟩;rw[i]at c hl ⊢;have h:r.take 32=r:=af (by omega);have d:a.take 32=a:=af (by omega);have g:b.take 32=b:=af (by omega);refine Yg HQ ?_;simp[HQ,f,e,d,g];refine Yc (abW a b f e) ?_;simp[d,g];refine Yc (c) ?_;simp[hl,h]
def rI(r:Option (List (D×U))):Option Int:=match r with
 | some [(.val (.int .i64 n),[])]=>some n
 | _=>none
theorem XK{r:Option (List (D×U))}{n:Int}(h:rI r=some n):r=some [(.i n,[])]:=by
 unfold rI at h;split at h
 .cases h;rfl
 .cases h
theorem aaH:(List.range 65).all (λn=>Nat.ble n 1||decide (rI (run T [] 40 143 [.i n] [])=some (rR n)))=true:=by kernel_rfl
theorem abJ(n:Nat)(h0:2<=n)(h1:n<=64):Wf T 143 [.i n] [] (Is (.i (rR n))):=by
 have h:=aaH;rw[List.all_eq_true]at h;have h:=h n (a8.2 (by omega));rw[bY,decide_eq_true_eq]at h;rcases h with h|h
 .exact absurd (cN h) (by omega)
 .exact od (XK h)
theorem Tr{n:Nat}(h:2<=n):1<=rR n/\rR n<n:=by unfold rR;have h1:=Nat.log2_self_le (n:=n-1) (by omega);have a:0<2 ^ (Nat.log2 (n-1)):=Nat.pow_pos (by decide);omega
theorem X9(k:Nat):nL (k+1) []=jV []:=by rw[nL,Dj]
theorem Q5(k:Nat)(x:List Int):nL (k+1) [x]=jV (0::x):=by rw[nL,Dj]
theorem Q6(k:Nat){l:List (List Int)}(h:2<=l.length):nL (k+1) l=jV (1::(nL k (l.take (rR l.length))++nL k (l.drop (rR l.length)))):=by
 match l,h with
 | a::b::r,_=>rw[nL,nL,nL,Dj]<;>simp
theorem Gy{k:Nat}{l:List (List Int)}(h:l.length<k):(nL k l).length=32:=by
 match k,l with
 | 0,_=>omega
 | k+1,[]=>rw[X9];exact p7 _
 | k+1,[x]=>rw[Q5];exact p7 _
 | k+1,a::b::r=>rw[Q6 k (by simp)];exact p7 _
theorem N6:∀(k:Nat) (l:List (List Int)),l.length<k->0<l.length->l.length<=64->(∀x∈l,x.length<=3000000000)->Wf T 88 [oo l] [] (Is (.agg (cl fU (nL k l))))
 | 0,l,h,_,_,_=>by omega
 | k+1,l,hk,h0,Ad,hx=>by
  by_cases h1:l.length=1
  .obtain⟨x,rfl⟩:∃x,l = [x]:=by
    match l,h1 with
    | [x],_=>exact⟨x,rfl⟩
   rw[Q5];have c:=abI x (hx x (by simp));have hl:=p7 (0::x);obtain⟨r,b⟩:∃r,jV (0::x)=r:=⟨_,rfl⟩;rw[b]at c hl ⊢;have a:r.take 32=r:=af (by omega);refine Yg xQ ?_;simp[xQ];refine Yc (c) ?_;simp[hl,a]
  .have o:=Tr (n:=l.length) (by omega);have cm:=abJ l.length (by omega) Ad;rw[Q6 k (by omega)];obtain⟨m,j⟩:∃m,rR l.length=m:=⟨_,rfl⟩;rw[j]at o cm ⊢;have v:(l.take m).length=m:=by rw[aJ];omega
   have u:(l.drop m).length=l.length-m:=by rw[aR]
   have i:=N6 k (l.take m) (by omega) (by omega) (by omega) λx h=>hx x (aN h);have g:=N6 k (l.drop m) (by omega) (by omega) (by omega) λx h=>hx x (bj h);have e:=Gy (k:=k) (l:=l.take m) (by omega);have d:=Gy (k:=k) (l:=l.drop m) (by omega);obtain⟨A,q⟩:∃A,nL k (l.take m)=A:=⟨_,rfl⟩;obtain⟨B,p⟩:∃B,nL k (l.drop m)=B:=⟨_,rfl⟩;rw[q]at i e ⊢;rw[p]at g d ⊢;have f:=abK A B e d;have hl:=p7 (1::(A++B));obtain⟨r,b⟩:∃r,jV (1::(A++B))=r:=⟨_,rfl⟩;rw[b]at f hl ⊢;have a:r.take 32=r:=af (by omega);have n0:¬l.length=0:=by omega
   have s:(l.drop m).take (l.length-m)=l.drop m:=af (by omega);refine Yg xQ ?_;simp[xQ,n0,h1];(with_reducible repeat' first|refine Xk ?_<;>try simp|refine Xs ?_ ?_<;>intro h<;>(try intro t)<;>(try simp[h])<;>try omega|refine Xg ?_|omega);refine Yc (cm) ?_;simp;refine fD ?_;refine Yt (i) ?_;simp;refine jw s ?_
   trace_state
   refine Yt (g) ?_;simp;refine Yt (f) ?_;simp[hl,a]
theorem Bw{α:Type}[Inhabited α]{l:List α}{i:Int}(i0:0<=i)(a:i<l.length):l.take (i+1).toNat=l.take i.toNat ++ [gt l i]:=by rw[show(i+1).toNat=i.toNat+1 by omega,eJ,List.getElem?_eq_getElem (by omega),eD,<-jc i0 a]
theorem ab6(n:Nat)(h0:0<n)(a:n<=4000000000):Wf T 277 [.fJ,.i n] [] λd H=>d = .fy 0 0 1 0 0/\H = [.row 5 0 (cl fU (zs n))]:=by refine Yg Ig ?_;simp[Ig];(with_reducible repeat' first|refine Xk ?_<;>try simp|refine Xs ?_ ?_<;>intro h<;>(try intro b)<;>(try simp[h])<;>try omega|refine Xg ?_|omega);rw[<-yf,tV,dB]
theorem T7(L:List (List Int))(hl:0<L.length)(v:L.length<=1000)(n:Nat)(m:n=L.flatten.length)(h0:0<n)(u:n<=4000000000):Wf T 224 [oo L] [] λd H=>d = .fy 0 L.length 1 0 n/\H = [.row 5 L.length (cl fU L.flatten)]:=by
 have b:∀i:Nat,(L.take i).flatten.length<=n:=λi=>by
  have:L.flatten=(L.take i).flatten++(L.drop i).flatten:=by rw[<-eo,bO]
  rw[m,this,au];omega
 refine Yg H7 ?_;simp[H7];refine fO.e (0:Int) (λy=>[(0,oo L),(3,.i (((L.take y.toNat).flatten.length:Nat):Int)),(9,oo L),(10,.i L.length),(11,.i y)]) (λy=>[]) (λy=>0<=y/\y<=L.length) (λy=>(L.length-y).toNat) ?_ ?_
 .simp
 rintro i ⟨i0,r⟩;have s:=b i.toNat
 by_cases hi:i<L.length
 .have e:=Bw (l:=L) i0 hi;have q:=b (i+1).toNat;have c:(L.take (i+1).toNat).flatten.length=(L.take i.toNat).flatten.length+(gt L i).length:=by rw[e];simp
  simp only[hi];generalize (L.take i.toNat).flatten.length=a at *;simp[hi];(with_reducible repeat' first|refine Xk ?_<;>try simp|refine Xs ?_ ?_<;>intro h<;>(try intro w)<;>(try simp[h])<;>try omega|refine Xg ?_|omega);refine LJ.i (i+1) (by first|rfl|simp[c]) (by first|rfl|simp[c]) rfl rfl ?_;omega
 .have k:i=L.length:=by omega
  subst k;have p:L.take (L.length:Int).toNat=L:=af (by omega);rw[p,<-m];simp;refine Yn (ab6 n h0 u) ?_;simp;refine fO.e ((0,zs n):Int×List Int) (λy=>[(6,.fy 0 y.1.toNat 1 0 (L.take y.1.toNat).flatten.length),(25,oo L),(26,.i L.length),(27,.i y.1)]) (λy=>[.row 5 y.1.toNat (cl fU y.2)]) (λy=>(0<=y.1/\y.1<=L.length)/\(y.1=0\/y.2=(L.take y.1.toNat).flatten)) (λy=>(L.length-y.1).toNat) ?_ ?_
  .simp
  rintro⟨i,R⟩ ⟨⟨i0,r⟩,f⟩;dsimp only at i0 r f ⊢;have s:=b i.toNat
  by_cases hi:i<L.length
  .have e:=Bw (l:=L) i0 hi;have q:=b (i+1).toNat;have c:(L.take (i+1).toNat).flatten=(L.take i.toNat).flatten++gt L i:=by rw[e];simp
   have g:R.take (L.take i.toNat).flatten.length=(L.take i.toNat).flatten:=by
    rcases f with rfl|rfl
    .simp
    .exact af (Nat.le_refl _)
   have o:(L.take i.toNat).flatten.length<=R.length:=by
    rcases f with rfl|rfl
    .simp
    .exact Nat.le_refl _
   have j:(L.take (i+1).toNat).flatten.length=(L.take i.toNat).flatten.length+(gt L i).length:=by rw[c,au]
   rw[show(i+1).toNat=i.toNat+1 by omega]at q c j;obtain⟨a,t⟩:∃a,(L.take i.toNat).flatten=a:=⟨_,rfl⟩;rw[t]at s g o j c ⊢;simp[hi,o,g];refine ku o g ?_;refine LJ.i (i+1,a++gt L i) (by first|rfl|simp[-List.length_flatten,j,c,g,show(i+1).toNat=i.toNat+1 by omega]) (by first|rfl|simp[-List.length_flatten,j,c,g,show(i+1).toNat=i.toNat+1 by omega]) rfl rfl ?_;exact⟨by omega,ic,.inr (by rw[show(i+1).toNat=i.toNat+1 by omega];exact c.symm)⟩
  .have k:i=L.length:=by omega
   subst k;rw[p]at f ⊢;rcases f with h|rfl
   .omega
   simp[<-m]
theorem abO:(List.range 65).all (λn=>Nat.ble n 1||decide (rI (run T [] 40 157 [.i n] [])=some (rR n)))=true:=by kernel_rfl
theorem abN(n:Nat)(h0:2<=n)(h1:n<=64):Wf T 157 [.i n] [] (Is (.i (rR n))):=by
 have h:=abO;rw[List.all_eq_true]at h;have h:=h n (a8.2 (by omega));rw[bY,decide_eq_true_eq]at h;rcases h with h|h
 .exact absurd (cN h) (by omega)
 .exact od (XK h)
@[simp] theorem aqE(l:List Int):tB (cl fU l)=true:=by
 rw[<-yf]
 induction l with
 | nil=>rfl
 | cons a r b=>exact b
theorem Oo(ρ:Nat->Option Nat)(H:U)(k t:Nat)(a:D):ml ρ H k 1 0 1 (some (t,[a])) = .sl 1 [[fL ρ H k a]]:=by unfold ml;simp[chunks]
theorem Ux(ρ:Nat->Option Nat)(H:U)(k t:Nat)(a b:D):ml ρ H k 1 0 2 (some (t,[a,b])) = .sl 1 [[fL ρ H k a],[fL ρ H k b]]:=by unfold ml;simp[chunks]
theorem Uy(ρ:Nat->Option Nat)(H:U)(k t:Nat)(a b c:D):ml ρ H k 1 0 3 (some (t,[a,b,c])) = .sl 1 [[fL ρ H k a],[fL ρ H k b],[fL ρ H k c]]:=by unfold ml;simp[chunks]
theorem abM(b:List Int)(f:b.length<=3000000000):Wf T 156 [dU b] [] (Is (.agg (cl fU (jV (0::b))))):=by have c:=T0 (0::b) (by simp;omega);have a:=T7 [[0],b] (by simp) (by simp) (b.length+1) (by simp) (by omega) (by omega);have hl:=p7 (0::b);obtain⟨r,e⟩:∃r,jV (0::b)=r:=⟨_,rfl⟩;rw[e]at c hl ⊢;have d:r.take 32=r:=af (by omega);rw[show [[0],b].flatten=0::b by simp]at a;refine Yg HR ?_;simp[HR];refine fY.nr rfl rfl a (by simp[B7,wM,Oo,Ux,Uy]) (by simp) (by simp) ?_;simp;refine fY.r rfl rfl c (by simp[wM]) (by simp[flat]) (by simp) ?_;simp[hl,d]
theorem vt.r{T:ia}{f:FuncId}{fn:iP}{args nN:List D}{dst:Option Nat}{s:St}{R:List Fp}{Q:Rc->St->Prop}{d:D}{ob:Ob}(b:T.fn f=some fn)(a:fn.full=false)(h:Wf T f nN [] λd' H'=>d'=d/\H' = [ob])
  (hs:args.map (fL (λ_=>none) s.H 40)=nN) (e:(n5 d&&oX ob)=true) (c:(mq d&&nz ob)=true) (k:Q ⟨R,[(s.H.length,none)]⟩ { s with env:=put s.env dst (j' s.H.length d),H:=s.H ++ [ob] }):pK T f args R dst s Q .mk:=
 .inl (.inr ⟨fn,d,ob,b,a,by rw[hs];exact h,by split<;>assumption,k⟩)
theorem abP(a b:List Int)(e:a.length=32)(d:b.length=32):Wf T 158 [.agg (cl fU a),.agg (cl fU b)] [] (Is (.agg (cl fU (jV (1::(a++b)))))):=by have c:=T0 (1::(a++b)) (by simp;omega);have f:=T7 [[1],a,b] (by simp) (by simp) 65 (by simp;omega) (by omega) (by omega);rw[show [[1],a,b].flatten=1::(a++b)by simp]at f;have hl:=p7 (1::(a++b));obtain⟨r,i⟩:∃r,jV (1::(a++b))=r:=⟨_,rfl⟩;rw[i]at c hl ⊢;have h:r.take 32=r:=af (by omega);have g:a.take 32=a:=af (by omega);have j:b.take 32=b:=af (by omega);refine Yg HS ?_;simp[HS,e,d,g,j];refine vt.r rfl rfl f (by simp[B7,wM,Oo,Ux,Uy,e,d]) (by simp) (by simp) ?_;simp;refine iF.r rfl rfl c (by simp only[List.map_cons,List.map_nil,AL.Rk,Yl];simp only[akz];simp;rw[uq (k:=38) (by simp;omega)];rfl) (by simp[flat]) (by simp) ?_;simp[hl,h]
theorem N7:∀(k:Nat) (l:List (List Int)),l.length<k->0<l.length->l.length<=64->(∀x∈l,x.length<=3000000000)->Wf T 97 [oo l] [] (Is (.agg (cl fU (nL k l))))
 | 0,l,h,_,_,_=>by omega
 | k+1,l,hk,h0,Ad,hx=>by
  by_cases h1:l.length=1
  .obtain⟨x,rfl⟩:∃x,l = [x]:=by
    match l,h1 with
    | [x],_=>exact⟨x,rfl⟩
   rw[Q5];have c:=abM x (hx x (by simp));have hl:=p7 (0::x);obtain⟨r,b⟩:∃r,jV (0::x)=r:=⟨_,rfl⟩;rw[b]at c hl ⊢;have a:r.take 32=r:=af (by omega);refine Yg xS ?_;simp[xS];refine Yc (c) ?_;simp[hl,a]
  .have o:=Tr (n:=l.length) (by omega);have cm:=abN l.length (by omega) Ad;rw[Q6 k (by omega)];obtain⟨m,j⟩:∃m,rR l.length=m:=⟨_,rfl⟩;rw[j]at o cm ⊢;have v:(l.take m).length=m:=by rw[aJ];omega
   have u:(l.drop m).length=l.length-m:=by rw[aR]
   have i:=N7 k (l.take m) (by omega) (by omega) (by omega) λx h=>hx x (aN h);have g:=N7 k (l.drop m) (by omega) (by omega) (by omega) λx h=>hx x (bj h);have e:=Gy (k:=k) (l:=l.take m) (by omega);have d:=Gy (k:=k) (l:=l.drop m) (by omega);obtain⟨A,q⟩:∃A,nL k (l.take m)=A:=⟨_,rfl⟩;obtain⟨B,p⟩:∃B,nL k (l.drop m)=B:=⟨_,rfl⟩;rw[q]at i e ⊢;rw[p]at g d ⊢;have f:=abP A B e d;have hl:=p7 (1::(A++B));obtain⟨r,b⟩:∃r,jV (1::(A++B))=r:=⟨_,rfl⟩;rw[b]at f hl ⊢;have a:r.take 32=r:=af (by omega);have n0:¬l.length=0:=by omega
   have s:(l.drop m).take (l.length-m)=l.drop m:=af (by omega);refine Yg xS ?_;simp[xS,n0,h1];(with_reducible repeat' first|refine Xk ?_<;>try simp|refine Xs ?_ ?_<;>intro h<;>(try intro t)<;>(try simp[h])<;>try omega|refine Xg ?_|omega);refine Yc (cm) ?_;simp;refine fD ?_;refine Yt (i) ?_;simp;refine jw s ?_;refine Yt (g) ?_;simp;refine Yt (f) ?_;simp[hl,a]
@[irreducible] def ju(v:List fE):List Int:=nL (v.length+1) (v.map qf)
theorem v8(v:List fE):(ju v).length=32:=by rw[ju];exact Gy (by simp)
theorem SP(r:fE):(qf r).length=5:=rfl
theorem Rp(a:Int):l4 .i64 a 0=a:=by show a.fdiv (2 ^ (min (0:Int).toNat 64))=a;simp
theorem abv(r:fE):Wf T 87 [.agg [.i r.1,.i r.2]] [] (Is (dU (qf r))):=by refine Yg Hy ?_;simp[Hy];unfold ml;simp[chunks,wM,qf,Rp]
theorem aby(r:fE):Wf T 96 [.agg [.i r.1,.i r.2]] [] (Is (dU (qf r))):=by refine Yg HA ?_;simp[HA];refine fO.un ?_;refine kj.u ?_;simp;refine kj.s (by simp;rfl) ?_;refine kj.u ?_;simp;refine kj.s (by simp;rfl) ?_;refine kj.u ?_;simp;refine kj.s (by simp;rfl) ?_;refine kj.u ?_;simp;refine kj.s (by simp;rfl) ?_;refine kj.u ?_;simp[Rp];unfold ml;simp[chunks,wM,qf,Rp]
theorem S6(x:List Int) : [dU x]=cl fB [x]:=by rw[iQ,EI]
@[simp] theorem Z5(l:List (List Int))(x:List Int):cl fB l ++ [dU x]=cl fB (l ++ [x]):=by rw[<-ph,EI]
theorem TW(v:List fE)(h0:0<v.length)(s:v.length<=64):Wf T 49 [gY v] [] (Is (.agg (cl fU (ju v)))):=by
 have c:Wf T 97 [oo (v.map qf)] [] (Is (.agg (cl fU (ju v)))):=by
  have:=N7 (v.length+1) (v.map qf) (by simp) (by simpa using h0) (by simpa using s) λx p=>by obtain⟨r,_,rfl⟩:=aq.1 p;rw[SP];omega
  rw[ju];exact this
 have hl:=v8 v;obtain⟨r,q⟩:∃r,ju v=r:=⟨_,rfl⟩;rw[q]at c hl ⊢;have k:r.take 32=r:=af (by omega);refine Yg xP ?_;simp[xP];refine fO.e ((0,[]):Int×List (List Int)) (λy=>[(2,.ptr 0 0 0),(3,if y.2 = []then .fJ else .fy 1 (y.2.length-1) 1 0 y.2.length),(6,gY v),(7,.i v.length),(8,.i y.1)]) (λy=>.row 70 0 (cl fU (zs 32))::(if y.2 = []then []else [.row 22 (y.2.length-1) (cl fB y.2)])) (λy=>(0<=y.1/\y.1<=v.length)/\y.2=(v.take y.1.toNat).map qf) (λy=>(v.length-y.1).toNat) ?_ ?_
 .simp
 rintro⟨i,A⟩ ⟨⟨i0,n⟩,d⟩;dsimp only at i0 n d ⊢;have g:A.length=i.toNat:=by rw[d];simp;omega
 by_cases hi:i<v.length
 .have e:=Bw (l:=v) i0 hi;have f:=aby (gt v i);obtain⟨b,j⟩:∃b,qf (gt v i)=b:=⟨_,rfl⟩;rw[j]at f;have h:A ++ [b]=(v.take (i+1).toNat).map qf:=by rw[e,List.map_append,<-d,<-j];rfl
  by_cases a:A = []
  .subst a;simp[hi];refine fD ?_;refine Yc (f) ?_;simp;refine fD ?_;refine LJ.i (i+1,[b]) (by first|rfl|simp[S6]) (by first|rfl|simp[S6]) rfl rfl ?_;exact⟨by omega,ic,h⟩
  .have o:0<A.length:=av.2 a;rw[if_neg a,if_neg a];simp[hi];refine fD ?_;refine Yc (f) ?_;simp;refine fD ?_;refine LJ.i (i+1,A ++ [b]) (by first|rfl|simp[show A.length-1+1=A.length by omega]) (by first|rfl|simp[show A.length-1+1=A.length by omega]) rfl rfl ?_;exact⟨by omega,ic,h⟩
 .have m:i=v.length:=by omega
  subst m;rw[af (by omega)]at d;have a:A≠[]:=λe=>by rw[e]at g;simp at g;omega
  rw[<-d]at c;rw[if_neg a,if_neg a];simp[hi];refine fD ?_;refine fY.r rfl rfl c (by simp[B7]) (by simp[flat]) (by simp) ?_;simp[hl,k]
theorem TV(v:List fE)(h0:0<v.length)(o:v.length<=64):Wf T 41 [gY v] [] (Is (.agg (cl fU (ju v)))):=by
 have c:Wf T 88 [oo (v.map qf)] [] (Is (.agg (cl fU (ju v)))):=by
  have:=N6 (v.length+1) (v.map qf) (by simp) (by simpa using h0) (by simpa using o) λx k=>by obtain⟨r,_,rfl⟩:=aq.1 k;rw[SP];omega
  rw[ju];exact this
 have hl:=v8 v;obtain⟨r,m⟩:∃r,ju v=r:=⟨_,rfl⟩;rw[m]at c hl ⊢;have g:r.take 32=r:=af (by omega);refine Yg xO ?_;simp[xO];refine fO.e ((0,[]):Int×List (List Int)) (λy=>[(0,gY v),(2,.ptr 0 0 0),(3,.fy 1 y.2.length 1 0 y.2.length),(4,.i y.1)]) (λy=>[.row 70 0 (cl fU (zs 32)),.row 22 y.2.length (cl fB y.2)]) (λy=>(0<=y.1/\y.1<=v.length)/\y.2=(v.take y.1.toNat).map qf) (λy=>(v.length-y.1).toNat) ?_ ?_
 .simp
 rintro⟨i,A⟩ ⟨⟨i0,j⟩,a⟩;dsimp only at i0 j a ⊢;have p:A.length=i.toNat:=by rw[a];simp;omega
 by_cases hi:i<v.length
 .have e:=Bw (l:=v) i0 hi;have f:=abv (gt v i);obtain⟨b,d⟩:∃b,qf (gt v i)=b:=⟨_,rfl⟩;rw[d]at f;have n:A ++ [b]=(v.take (i+1).toNat).map qf:=by rw[e,List.map_append,<-a,<-d];rfl
  simp[hi];refine fD ?_;refine Yc (f) ?_;simp;refine fD ?_;refine LJ.e (i+1,A ++ [b]) ?_;exact⟨by omega,ic,n⟩
 .have h:i=v.length:=by omega
  subst h;rw[af (by omega)]at a;rw[<-a]at c;simp[hi];refine fD ?_;refine fY.r rfl rfl c (by simp[B7]) (by simp[flat]) (by simp) ?_;simp[hl,g]
theorem TS{f:FuncId}{args:List D}{d:D}(h:Wf T f args [] (Is d)):Ev T (.call f args []) (kC [(d,[])]):=by refine Ev.mono h λr a=>?_;obtain⟨d',H',a,rfl,rfl⟩:=a;exact⟨_,List.mem_singleton.2 rfl,a⟩
theorem KU(v:List fE)(b:List Int){a d:D}(f:a=gY v)(c:d = .agg (b.map λn=>.val (.int .u8 n)))(e:ju v=b)(h0:0<v.length)(g:v.length<=64):Ev T (.call 49 [a] []) (kC [(d,[])]):=by subst f c;rw[yf,<-e];exact TS (TW v h0 g)
theorem KT(v:List fE)(b:List Int){a d:D}(f:a=gY v)(c:d = .agg (b.map λn=>.val (.int .u8 n)))(e:ju v=b)(h0:0<v.length)(g:v.length<=64):Ev T (.call 41 [a] []) (kC [(d,[])]):=by subst f c;rw[yf,<-e];exact TS (TV v h0 g)
theorem abU:Wf T 207 [.fJ] [] (Is (dU (pad []))):=by
 obtain⟨B,c⟩:∃B,wF 0=B:=⟨_,rfl⟩;have A:B.length=8:=by rw[<-c];rfl
 have w:∀i:Int,0<=i->i<8->gt B i=IntKind.u8.wrap (l4 .u64 0 (56-8*i)):=λi i0 d=>by rw[<-c];exact J' _ i0 d
 obtain⟨p,h⟩:∃p,zc 0=p:=⟨_,rfl⟩;have z:p=63-(0+8) % 64:=by rw[<-h];rfl
 have hP:pad []=128::zs p++B:=by rw[pad];show []++128::(List.replicate (zc 0) 0++wF 0)=_;rw[c,h,tV];simp
 obtain⟨C,n⟩:∃C,128::zs p=C:=⟨_,rfl⟩;rw[hP,n];clear hP c h;have m:IntKind.u64.wrap (0:Int)=0:=rfl;have j:IntKind.u64.wrap (0)=8*0:=rfl;refine Yg BF ?_;simp[BF];refine fD ?_;refine fO.e ((2,[128]):Nat×List Int) (λy=>[(0,.fJ),(3,.fy 0 y.1 1 0 y.2.length)]) (λy=>[.row 5 y.1 (cl fU y.2),.row 5 0 [.val (.int .u8 128)]]) (λy=>∃k:Nat,k<=p/\y.2=128::zs k) (λy=>0+1+p-y.2.length) ?_ ?_
 .exact⟨0,by omega,by simp⟩
 rintro⟨g,q⟩ ⟨k,k0,a⟩;dsimp only at k0 a ⊢;have D:q.length=0+1+k:=by rw[a];simp;omega
 have f:fX ((q.length:Int)+8) 64=((q.length:Int)+8) % 64:=jd (by omega)
 by_cases t:k<p
 .have h1:¬((q.length:Int)+8) % 64=0:=by omega
  have s:q ++ [0]=128::zs (k+1):=by rw[a,<-Nh];simp
  simp[f,h1];refine jw f ?_;refine LJ.e (g+1,q ++ [0]) ?_;exact⟨by simp;omega,k+1,t,s⟩
 .have o:k=p:=by omega
  subst o;have h1:((q.length:Int)+8) % 64=0:=by omega
  rw[n]at a;subst a;simp[f,h1,m,j];refine ku m j ?_;refine fO.e ((0,g,q):Int×Nat×List Int) (λy=>[(3,.fy 0 y.2.1 1 0 y.2.2.length),(4,.val (.int .u64 0)),(5,.i y.1)]) (λy=>[.row 5 y.2.1 (cl fU y.2.2),.row 5 0 [.val (.int .u8 128)]]) (λy=>(0<=y.1/\y.1<=8)/\y.2.2=q++B.take y.1.toNat) (λy=>(8-y.1).toNat) ?_ ?_
  .simp
  rintro⟨i,v,u⟩ ⟨⟨i0,d⟩,b⟩;dsimp only at i0 d b ⊢;have x:u.length=q.length+i.toNat:=by rw[b];simp;omega
  by_cases hi:i<8
  .have e:=M6 (l:=B) i0 (by omega);rw[w i i0 hi]at e;simp[hi];refine fD ?_;refine LJ.e (i+1,v+1,u ++ [IntKind.u8.wrap (l4 .u64 0 (56-8*i))]) ?_;exact⟨by omega,ic,by rw[e,b,aI]⟩
  .have r:i=8:=by omega
   subst r;have e:u=q++B:=by rw[b,af (by omega)]
   subst e;simp;refine fD ?_;rw[wM,List.map_append]
theorem abH:Wf T 141 [.fJ] [] (Is (.agg (cl fU (jV [])))):=by
 have p:=abU;have q:=T2;have E:=Xu [];simp only[cM]at E;obtain⟨P,hP⟩:∃P,pad []=P:=⟨_,rfl⟩;obtain⟨S,hS⟩:∃S,Ac=S:=⟨_,rfl⟩;have v:S.length=8:=by rw[<-hS];rfl
 obtain⟨r,o⟩:∃r,jV []=r:=⟨_,rfl⟩;have d:xC (pg P S (P.length / 64))=r:=by rw[<-o,jV,hP,hS]
 rw[hP]at p E;rw[hS]at q;rw[o];clear hP hS o;refine Yg BD ?_;simp[BD];refine Yc (p) ?_;simp;refine Yc (q) ?_;simp[v];refine fO.e ((0,S):Int×List Int) (λy=>[(2,.ptr 0 0 0),(3,dU P),(4,.ptr 1 0 0),(5,.i y.1)]) (λy=>[.row 70 0 (cl fU (zs 32)),.row 323 0 (cl fW y.2)]) (λy=>∃n:Nat,y.1=64*n/\y.1<=P.length/\y.2=pg P S n) (λy=>(P.length+64-y.1).toNat) ?_ ?_
 .exact⟨0,by simp,by simp,by simp[Kb]⟩
 rintro⟨i,s⟩ ⟨n,gq,l,hs⟩;dsimp only at gq l hs ⊢;have a:s.length=8:=by rw[hs];exact BX P v n
 by_cases hi:i<P.length
 .have f:s.take 8=s:=af (by omega);have x:((P.drop i.toNat).take 64).length=64:=by rw[aJ,aR];omega
  have e:=Kc P S n;rw[<-hs,show 64*n=i.toNat by omega]at e;have G:(i+64).toNat-i.toNat=64:=by omega
  obtain⟨B,D⟩:∃B,(P.drop i.toNat).take 64=B:=⟨_,rfl⟩;rw[D]at x e;have c:=T5 s B a x;have F:=J8 (s:=s) (b:=B) a;obtain⟨A,I⟩:∃A,sA s B=A:=⟨_,rfl⟩;rw[I]at c e F;simp[hi,a,f];refine pe a f G ?_;rw[G,D];have w:s.drop 8 = []:=aU (by omega);refine Yt (c) ?_;simp[F,a,f];refine fD ?_;refine LJ.i (i+64,A) (by first|rfl|simp[w]) (by first|rfl|simp[w]) rfl rfl ?_;exact⟨by omega,n+1,by omega,by omega,e.symm⟩
 .have k:n=P.length / 64:=by omega
  rw[<-k,<-hs]at d;have J:r.length=32:=by rw[<-d];exact C' s
  have t:∀j:Int,0<=j->j<32->gt r j=IntKind.u8.wrap (l4 .u32 (gt s (j / 4)) (24-8*(j % 4))):=λj j0 j1=>by rw[<-d];exact Mq s j0 j1
  clear d hs p q;simp[hi];refine fD ?_;refine fO.e ((0,zs 32):Int×List Int) (λy=>[(2,.ptr 0 0 0),(4,.ptr 1 0 0),(6,.ptr 2 0 0),(7,.i y.1)]) (λy=>[.row 70 0 (cl fU (zs 32)),.row 323 0 (cl fW s),.row 70 0 (cl fU y.2)]) (λy=>(0<=y.1/\y.1<=32)/\y.2.length=32/\∀j:Int,0<=j->j<y.1->gt y.2 j=gt r j) (λy=>(32-y.1).toNat) ?_ ?_
  .exact⟨by simp,by simp,λj j0 j1=>absurd j1 (by dsimp only;omega)⟩
  rintro⟨i,u⟩ ⟨⟨i0,l⟩,g,m⟩;dsimp only at i0 l g m ⊢
  by_cases hi:i<32
  .have z:tN i 4=i / 4:=tO i0 (by omega) (by omega);have C:fX i 4=i % 4:=jd i0;simp[hi,z,C];refine ku z C ?_;refine LJ.i (i+1,pt u i (gt r i)) (by first|rfl|simp[t i i0 hi]) (by first|rfl|simp[t i i0 hi]) rfl rfl ?_;refine⟨by omega,ic,by rw[iq i0 (by omega)];exact g,λj j0 j1=>?_⟩;dsimp only at j1 ⊢;rw[oz i0 (by omega) j0]
   by_cases e:j=i
   .rw[if_pos e,e]
   .rw[if_neg e];exact m j j0 (by omega)
  .have k:i=32:=by omega
   subst k
   have e:u=r:=by refine bQ (by omega) λj j0 j1=>?_;have h:=m j (by omega) (by omega);rw[jc (by omega) (by omega),jc (by omega) (by omega)]at h;exact h
   subst e;have H:u.take 32=u:=af (by omega);simp[g,H]
theorem abL:Wf T 155 [.fJ] [] (Is (.agg (cl fU (jV [])))):=by
 have Q:=abY;obtain⟨B,t⟩:∃B,wF 0=B:=⟨_,rfl⟩;have X:B.length=8:=by rw[<-t];rfl
 have R:∀i:Int,0<=i->i<8->gt B i=IntKind.u8.wrap (l4 .u64 0 (56-8*i)):=λi i0 n=>by rw[<-t];exact J' _ i0 n
 obtain⟨p,A⟩:∃p,zc 0=p:=⟨_,rfl⟩;have V:p=63-(0+8) % 64:=by rw[<-A];rfl
 have hP:pad []=128::zs p++B:=by rw[pad];show []++128::(List.replicate (zc 0) 0++wF 0)=_;rw[t,A,tV];simp
 obtain⟨C,D⟩:∃C,128::zs p=C:=⟨_,rfl⟩;rw[D]at hP;have Z:C.length=0+1+p:=by rw[<-D];simp;omega
 obtain⟨r,z⟩:∃r,jV []=r:=⟨_,rfl⟩;obtain⟨S,hS⟩:∃S,Ac=S:=⟨_,rfl⟩;have w:S.length=8:=by rw[<-hS];rfl
 have m:xC (pg (C++B) S ((C++B).length / 64))=r:=by rw[<-z,jV,hP,hS]
 rw[z];clear hP t A z;have I:S.take 8=S:=af (by omega);have o:IntKind.u64.wrap (0:Int)=0:=rfl;have d:IntKind.u64.wrap (0)=8*0:=rfl;refine Yz xT (iB 36 [2] xT.body) ?_;simp[xT,iB,jN,mw,mz,mH,lq,SL,hS];refine Yc (Q) ?_;simp;refine fD ?_;refine fO.e ((0,[128]):Nat×List Int) (λy=>[(0,.fJ),(2,.ptr 0 0 0),(3,.fy 2 y.1 1 0 y.2.length)]) (λy=>[.row 70 0 (cl fU (zs 32)),.row 5 0 [.val (.int .u8 128)],.row 5 y.1 (cl fU y.2)]) (λy=>∃k:Nat,k<=p/\y.2=128::zs k) (λy=>0+1+p-y.2.length) ?_ ?_
 .exact⟨0,by omega,by simp⟩
 rintro⟨g,q⟩ ⟨k,k0,s⟩;dsimp only at k0 s ⊢;have CG:q.length=0+1+k:=by rw[s];simp;omega
 have b:fX ((q.length:Int)+8) 64=((q.length:Int)+8) % 64:=jd (by omega)
 by_cases M:k<p
 .have h1:¬((q.length:Int)+8) % 64=0:=by omega
  have L:q ++ [0]=128::zs (k+1):=by rw[s,<-Nh];simp
  simp[b,h1];refine jw b ?_;refine LJ.e (g+1,q ++ [0]) ?_;exact⟨by simp;omega,k+1,M,L⟩
 .have H:k=p:=by omega
  subst H;have h1:((q.length:Int)+8) % 64=0:=by omega
  rw[D]at s;subst s;simp[b,h1,o,d];refine ku o d ?_;refine fO.st (by simp;rfl) ?_;refine fO.e ((0,g,q):Int×Nat×List Int) (λy=>[(0,.fJ),(2,.ptr 0 0 0),(3,.fy 2 y.2.1 1 0 y.2.2.length),(4,.i (56-8*y.1))]) (λy=>[.row 70 0 (cl fU (zs 32)),.row 5 0 [.val (.int .u8 128)],.row 5 y.2.1 (cl fU y.2.2)]) (λy=>(0<=y.1/\y.1<=8)/\y.2.2=q++B.take y.1.toNat) (λy=>(8-y.1).toNat) ?_ ?_
  .simp
  rintro⟨i,O,u⟩ ⟨⟨i0,n⟩,a⟩;dsimp only at i0 n a ⊢;have c:u.length=q.length+i.toNat:=by rw[a];simp;omega
  by_cases hi:i<8
  .have e:=M6 (l:=B) i0 (by omega);rw[R i i0 hi]at e;have J:0<=56-8*i:=by omega
   simp[J,d,o];(with_reducible repeat' first|refine Xk ?_<;>try simp[d,o]|refine Xs ?_ ?_<;>intro h<;>(try intro U)<;>(try simp[h,d,o])<;>try omega|refine Xg ?_|omega);refine LJ.i (i+1,O+1,u ++ [IntKind.u8.wrap (l4 .u64 0 (56-8*i))]) (by first|rfl|simp[show 56-8*(i+1)=56-8*i-8 by omega]) (by first|rfl|simp[show 56-8*(i+1)=56-8*i-8 by omega]) rfl rfl ?_;exact⟨by omega,ic,by rw[e,a,aI]⟩
  .have x:i=8:=by omega
   subst x;obtain⟨P,hP⟩:∃P,q++B=P:=⟨_,rfl⟩;have Y:P.length=q.length+8:=by rw[<-hP];simp;omega
   have e:u=P:=by rw[a,af (by omega),hP]
   rw[hP]at m;clear c a hP;subst e;simp;refine fD ?_;refine fY.n (by simp[w,I];rfl) ?_;rw[<-wM];refine Yc (T6 u) ?_;simp;refine x4.r (f:=274) (first:=[]) (cap:=[.fV [dU u],.fV [.i 64]]) rfl rfl rfl rfl ?_;simp;refine Wf.mono (T8 u S (by omega) (by omega) w) ?_;rintro _ H' rfl;have K:=BX u w (u.length / 64);obtain⟨v,F⟩:∃v,pg u S (u.length / 64)=v:=⟨_,rfl⟩;rw[F]at m K ⊢;clear F;have W:r.length=32:=by rw[<-m];exact C' v
   have E:∀j:Int,0<=j->j<32->gt r j=IntKind.u8.wrap (l4 .u32 (gt v (j / 4)) (24-8*(j % 4))):=λj j0 j1=>by rw[<-m];exact Mq v j0 j1
   clear m;refine⟨[(5,.ptr 3 0 0)],.ready,by simp,?_⟩;simp;refine fO.st (by simp;rfl) ?_;refine fO.kg [4] false ((0,zs 32):Int×List Int) (λy=>[(2,.ptr 0 0 0),(5,.ptr 3 0 0),(7,.ptr 5 0 0),(42,.i y.1)]) (λy=>[.row 70 0 (cl fU (zs 32)),.row 5 0 [.val (.int .u8 128)],.dead,.row 323 0 (cl fW v),.kD,.row 70 0 (cl fU y.2)]) (λy=>(0<=y.1/\y.1<=32)/\y.2.length=32/\∀j:Int,0<=j->j<y.1->gt y.2 j=gt r j) (λy=>(32-y.1).toNat) ?_ (by simp) (by first|rfl|(simp[iQ];done)|(simp[*];done)) rfl rfl rfl ?_
   .exact⟨by simp,by simp,λj j0 j1=>absurd j1 (by dsimp only;omega)⟩
   rintro⟨i,u⟩ ⟨⟨i0,n⟩,c,a⟩;dsimp only at i0 n c a ⊢
   by_cases hi:i<32
   .have b:tN i 4=i / 4:=tO i0 (by omega) (by omega);have G:fX i 4=i % 4:=jd i0;simp[hi,b,G];refine ku b G ?_;refine LJ.i (i+1,pt u i (gt r i)) (by first|rfl|simp[E i i0 hi]) (by first|rfl|simp[E i i0 hi]) rfl rfl ?_;refine⟨by omega,ic,by rw[iq i0 (by omega)];exact c,λj j0 j1=>?_⟩;dsimp only at j1 ⊢;rw[oz i0 (by omega) j0]
    by_cases e:j=i
    .rw[if_pos e,e]
    .rw[if_neg e];exact a j j0 (by omega)
   .have x:i=32:=by omega
    subst x
    have e:u=r:=by refine bQ (by omega) λj j0 j1=>?_;have h:=a j (by omega) (by omega);rw[jc (by omega) (by omega),jc (by omega) (by omega)]at h;exact h
    subst e;have N:u.take 32=u:=af (by omega);simp[c,N]
theorem MB:ju []=jV []:=by rw[ju];exact X9 0
theorem TX:Wf T 88 [oo []] [] (Is (.agg (cl fU (jV [])))):=by have c:=abH;have hl:=p7 [];obtain⟨r,b⟩:∃r,jV []=r:=⟨_,rfl⟩;rw[b]at c hl ⊢;have a:r.take 32=r:=af (by omega);refine Yg xQ ?_;simp[xQ];refine Yc (c) ?_;simp[hl,a]
theorem TY:Wf T 97 [.fJ] [] (Is (.agg (cl fU (jV [])))):=by have c:=abL;have hl:=p7 [];obtain⟨r,b⟩:∃r,jV []=r:=⟨_,rfl⟩;rw[b]at c hl ⊢;have a:r.take 32=r:=af (by omega);refine Yg xS ?_;simp[xS];refine Yc (c) ?_;simp[hl,a]
def dV(v:List fE)(d:D):Prop:=d=gY v\/(v = []/\d = .fJ)
theorem abj:Wf T 41 [gY []] [] (Is (.agg (cl fU (ju [])))):=by
 rw[MB];have c:=TX;have hl:=p7 [];obtain⟨r,b⟩:∃r,jV []=r:=⟨_,rfl⟩;rw[b]at c hl ⊢;have a:r.take 32=r:=af (by omega);refine Yg xO ?_;simp[xO];refine fO.un ?_;refine kj.u ?_;simp
 trace_state
 refine fY.r rfl rfl c (by simp[B7]) (by simp[flat]) (by simp) ?_;simp[hl,a]
theorem abi:Wf T 41 [.fJ] [] (Is (.agg (cl fU (ju [])))):=by rw[MB];have c:=TX;have hl:=p7 [];obtain⟨r,b⟩:∃r,jV []=r:=⟨_,rfl⟩;rw[b]at c hl ⊢;have a:r.take 32=r:=af (by omega);refine Yg xO ?_;simp[xO];refine fO.un ?_;refine kj.u ?_;simp;refine fY.r rfl rfl c (by simp[B7]) (by simp[flat]) (by simp) ?_;simp[hl,a]
theorem abn:Wf T 49 [gY []] [] (Is (.agg (cl fU (ju [])))):=by rw[MB];have c:=TY;have hl:=p7 [];obtain⟨r,b⟩:∃r,jV []=r:=⟨_,rfl⟩;rw[b]at c hl ⊢;have a:r.take 32=r:=af (by omega);refine Yg xP ?_;simp[xP];refine fO.un ?_;refine kj.u ?_;simp;refine Yc (c) ?_;simp[hl,a]
theorem abm:Wf T 49 [.fJ] [] (Is (.agg (cl fU (ju [])))):=by rw[MB];have c:=TY;have hl:=p7 [];obtain⟨r,b⟩:∃r,jV []=r:=⟨_,rfl⟩;rw[b]at c hl ⊢;have a:r.take 32=r:=af (by omega);refine Yg xP ?_;simp[xP];refine fO.un ?_;refine kj.u ?_;simp;refine Yc (c) ?_;simp[hl,a]
theorem N5{v:List fE}{d:D}(a:dV v d)(b:v.length<=64):Wf T 41 [d] [] (Is (.agg (cl fU (ju v)))):=by
 rcases a with rfl|⟨rfl,rfl⟩
 .by_cases h:v = []
  .subst h;exact abj
  .exact TV v (av.2 h) b
 .exact abi
theorem abo{v:List fE}{d:D}(a:dV v d)(b:v.length<=64):Wf T 49 [d] [] (Is (.agg (cl fU (ju v)))):=by
 rcases a with rfl|⟨rfl,rfl⟩
 .by_cases h:v = []
  .subst h;exact abn
  .exact TW v (av.2 h) b
 .exact abm
end Go.Proofs.YtmehofoficaelaaGreatDoor
namespace Go.Proofs.YtmehofoficaelaaGreatDoor
open Go Go.AL Classical
set_option maxRecDepth 10000
set_option maxHeartbeats 8000000
structure ri(g:fH)(m:List Int):Prop where
 len:m.length=g.kinds.length
 num:∀a∈m,1<=a/\a<=6
def lvC(m:List Int)(x:Int):Int:=if 0<=gi x then gt m (gi x)else 0
def Qi(m cs:List Int):Nat->Int
 | 0=>0
 | i+1=>Qi m cs i+lvC m (gt cs (i:Int))
def Qj(m a b:List Int):Nat->Int
 | 0=>0
 | i+1=>Qj m a b i+gt m (i:Int)*(gt a (i:Int)+gt b (i:Int))
def ajX(r:Int):Int:=if r=0 then 0 else if r=3 then 2 else 1
def F0(m:List Int)(p:Pos):Int:=Qi m p.cs p.cs.length+Qj m p.h0 p.h1 m.length+ajX p.gj
@[simp] theorem asT(m cs:List Int):Qi m cs 0=0:=rfl
@[simp] theorem asU(m a b:List Int):Qj m a b 0=0:=rfl
section
variable{g:fH}{m:List Int}{p:Pos}
end
end Go.Proofs.YtmehofoficaelaaGreatDoor
namespace Go.AL
open Go
def N3:Nat->List (Int×List Int)->List (Value×D)
 | _,[]=>[]
 | k,e::r=>(.int .i64 e.1,.fy k (e.2.length-1) 1 0 e.2.length)::N3 (k+1) r
def rwF(ls:List (Int×List Int)):U:=ls.map λe=>.row 3 (e.2.length-1) (cl f1 e.2)
def LH(m:List Int)(ls:List (Int×List Int)):U:=.row 56 0 [dI m] :: .map (.int .i64) (N3 2 ls)::rwF ls
end Go.AL
namespace Go.Proofs.YtmehofoficaelaaGreatDoor
open Go Go.AL Classical
noncomputable def acA(m:List Int)(l:List Pos)(n:Int)(k:Nat):List Int:=(upto k).filter λi=>decide (F0 m (gt l i)=n)
structure GI(m:List Int)(l:List Pos)(i:Int)(ls:List (Int×List Int)):Prop where
 nd:(ls.map (·.1)).Nodup
 mem:∀n,n∈ls.map (·.1)↔∃j:Int,0<=j/\j<i/\F0 m (gt l j)=n
 prt:∀e∈ls,e.2=acA m l e.1 i.toNat
section
variable{m:List Int}{l:List Pos}{i:Int}{ls:List (Int×List Int)}
end
end Go.Proofs.YtmehofoficaelaaGreatDoor
namespace Go.Proofs.YtmehofoficaelaaGreatDoor
open Go Go.AL Classical
section
variable{g:fH}{l:List Pos}{nx:List (List Int)}{part:List Int}
end
structure Chn(L:Nat)(v:List fE)(b:List Bool):Prop where
 vl:v.length=L
 bl:b.length=L
 n:∀i:Int,0<=i->i<L->gt b i=false->(gt v i).1≠2->0<=(gt v i).2/\(0<(gt v i).2->∃j:Int,0<=j/\j<L/\gt b j=false/\(gt v j).1≠2/\(gt v j).2=(gt v i).2-1)
theorem RD(v:List fE)(b:List Bool)(x:List Int):∀k:Nat,k<=x.length->(lg v b x k).2 = -1\/∃j∈x,gt b j=false/\(gt v j).1=1/\(gt v j).2=(lg v b x k).2
 | 0,_=>.inl rfl
 | k+1,hk=>by
  have c:=RD v b x k (by omega);have d:gt x (k:Int)∈x:=fZ (by omega) (by omega);rw[lg];split
  .rename_i h;dsimp only;rcases Int.le_total (lg v b x k).2 (gt v (gt x (k:Int))).2 with a|a
   .rw[Int.max_eq_right a];exact .inr ⟨_,d,h.1,h.2,rfl⟩
   .rw[Int.max_eq_left a];exact c
  .exact c
section
variable{g:fH}{l:List Pos}{nx:List (List Int)}{part:List Int}{bu:Int}
theorem KA(o:wx g l nx part bu){v:List fE}{b:List Bool}(a:b.length=l.length){n:Int}:∀i∈rm g l nx part v b n,0<=i/\i<b.length:=λi hi=>by rw[a];exact o.prt i (aaN hi)
theorem aj8(o:wx g l nx part bu){v:List fE}{b:List Bool}(a:v.length=l.length)(c:b.length=l.length){n:Int}:(rV g l nx part v b n).length=l.length:=by unfold rV;rw[Gm _ _ _ (by rw[a,<-c];exact KA o c),a]
theorem aj7(o:wx g l nx part bu){v:List fE}{b:List Bool}(a:b.length=l.length){n:Int}:(rB g l nx part v b n).length=l.length:=by unfold rB;rw[Gm _ _ _ (KA o a),a]
theorem UH(o:wx g l nx part bu){v:List fE}{b:List Bool}(c:v.length=l.length)(a:b.length=l.length){n j:Int}(j0:0<=j)(j1:j<l.length):gt (rV g l nx part v b n) j=if j∈rm g l nx part v b n then KJ g l nx v b n j else gt v j:=
 ER _ _ _ (by rw[c,<-a];exact KA o a) j j0 (by omega)
theorem Oy(o:wx g l nx part bu){v:List fE}{b:List Bool}(a:b.length=l.length){n j:Int}(j0:0<=j)(j1:j<l.length):gt (rB g l nx part v b n) j=if j∈rm g l nx part v b n then false else gt b j:=
 ER _ _ _ (KA o a) j j0 (by omega)
theorem Ug(o:wx g l nx part bu){v:List fE}{b:List Bool}(a:v.length=l.length)(c:b.length=l.length):((vB part v b).1.length=l.length/\(vB part v b).2.length=l.length) /\
  ∀j:Int,0<=j->j<l.length->gt (vB part v b).1 j=(if j∈part/\gt b j=true then(2,0)else gt v j)/\gt (vB part v b).2 j=(if j∈part then false else gt b j):=by
 have hi:∀i∈part.filter (λi=>gt b i),0<=i/\i<l.length:=λi hi=>o.prt i (aO.1 hi).1;unfold vB;dsimp only;refine⟨⟨by rw[Gm _ _ _ (by rw[a];exact hi),a],by rw[Gm _ _ _ (by rw[c];exact hi),c]⟩,λj j0 j1=>?_⟩;rw[ER _ _ _ (by rw[a];exact hi) j j0 (by omega),ER _ _ _ (by rw[c];exact hi) j j0 (by omega)];simp only[aO];refine⟨trivial,?_⟩
 by_cases h1:j∈part
 .by_cases d:gt b j=true
  .simp[h1,d]
  .simp[h1,d]
 .simp[h1]
end
section
variable{g:fH}{l:List Pos}{nx:List (List Int)}
end
end Go.Proofs.YtmehofoficaelaaGreatDoor
namespace Go.Proofs.YtmehofoficaelaaGreatDoor
open Go Go.AL Classical
noncomputable def Ml(m:List Int)(l:List Pos)(last:Int):Nat->Int
 | 0 => -1
 | i+1=>if last<F0 m (gt l (i:Int))/\(Ml m l last i<0\/F0 m (gt l (i:Int))<Ml m l last i)then F0 m (gt l (i:Int))else Ml m l last i
@[simp] theorem atb(m:List Int)(l:List Pos)(last:Int):Ml m l last 0 = -1:=rfl
set_option maxRecDepth 10000
set_option maxHeartbeats 8000000
def ZC(b:Int)(l:List fE):Bool:=l.any λs=>s.1 == 8&&s.2 == b
def ZB(g:fH)(a b:Int):Bool:=(gt g.kinds a).iS.any (ZC b)
structure alW(g:fH)(m:List Int):Prop where
 ok:ri g m
 le:∀a b:Int,0<=a->a<g.kinds.length->0<=b->b<g.kinds.length->ZB g a b=true->gt m b<=gt m a
theorem acU{α:Type}[Inhabited α]{l a:List α}{n:Int}(h0:0<=n)(h:n<l.length):gt (l++a) n=gt l n:=by unfold gt;rw[List.getD_eq_getElem?_getD,List.getD_eq_getElem?_getD,ah (by omega)]
end Go.Proofs.YtmehofoficaelaaGreatDoor
namespace Go.Proofs.YtmehofoficaelaaGreatDoor
open Go Go.AL Classical
section
variable{g:fH}{l:List Pos}{nx:List (List Int)}{part:List Int}{bu:Int}
structure Agr(L:Nat)(S:Int->Prop)(v:List fE)(b:List Bool)(v':List fE)(b':List Bool):Prop where
 vl:v.length=L
 bl:b.length=L
 vl':v'.length=L
 bl':b'.length=L
 eb:∀k:Int,0<=k->k<L->S k->gt b k=gt b' k
 ev:∀k:Int,0<=k->k<L->S k->gt b k=false->gt v k=gt v' k
structure alX(l:List Pos)(nx:List (List Int))(part:List Int)(S:Int->Prop):Prop where
 own:∀i∈part,S i
 next:∀i∈part,∀k∈gt nx i,S k
def rep(n:Nat):List Bool:=List.replicate n false
end
section
variable{g:fH}{l:List Pos}{m:List Int}
end
end Go.Proofs.YtmehofoficaelaaGreatDoor
namespace Go.Proofs.YtmehofoficaelaaGreatDoor
open Go Go.AL Classical
structure ny where
 ov:Int->Bool
 rs:Int->Int
 nx:List (List Int)
def pd(A:ny)(v:List fE)(i:Int):Prop:=
 (A.ov i=true/\gt v i=(A.rs i,0))\/(A.ov i=false/\(
  (∃n,1<=n/\gt v i=(1,n)/\(∃k∈gt A.nx i,gt v k=(3,n-1))/\∀k∈gt A.nx i,(gt v k).1=3->n-1<=(gt v k).2) \/
  (∃n,1<=n/\gt v i=(3,n)/\(∀k∈gt A.nx i,(gt v k).1=1/\(gt v k).2<=n-1)/\∃k∈gt A.nx i,(gt v k).2=n-1) \/
  (gt v i=(2,0)/\(∀k∈gt A.nx i,(gt v k).1≠3)/\¬(gt A.nx i≠[]/\∀k∈gt A.nx i,(gt v k).1=1))))
theorem pd.n0{A:ny}{v:List fE}{i:Int}(h:pd A v i):0<=(gt v i).2:=by rcases h with⟨_,e⟩|⟨_,⟨n,h,e,_⟩|⟨n,h,e,_⟩|⟨e,_⟩⟩<;>rw[e]<;>simp<;>omega
theorem pd.congr{A:ny}{v v':List fE}{i:Int}(h:pd A v i)(hi:gt v' i=gt v i)(b:∀k∈gt A.nx i,gt v' k=gt v k):pd A v' i:=by
 rcases h with⟨f,c2⟩|⟨f,⟨q,q1,c2,⟨k,c,e⟩,d⟩|⟨q,q1,c2,e,k,c,d⟩|⟨c2,e,d⟩⟩
 .exact .inl ⟨f,by rw[hi];exact c2⟩
 .exact .inr ⟨f,.inl ⟨q,q1,by rw[hi];exact c2,⟨k,c,by rw[b k c];exact e⟩,λp a=>by rw[b p a];exact d p a⟩⟩
 .exact .inr ⟨f,.inr (.inl ⟨q,q1,by rw[hi];exact c2,λp a=>by rw[b p a];exact e p a,k,c,by rw[b k c];exact d⟩)⟩
 .exact .inr ⟨f,.inr (.inr ⟨by rw[hi];exact c2,λp a=>by rw[b p a];exact e p a,λ⟨j,g⟩=>d ⟨j,λp a=>by rw[<-b p a];exact g p a⟩⟩)⟩
section
variable{A:ny}{S:Int->Prop}{v v':List fE}
end
noncomputable def lQ(g:fH)(l:List Pos)(nx:List (List Int)):ny:=⟨λi=>(stat g (gt l i)).2,λi=>(stat g (gt l i)).1,nx⟩
end Go.Proofs.YtmehofoficaelaaGreatDoor
namespace Go.Proofs.YtmehofoficaelaaGreatDoor
open Go Go.AL Classical
structure gp where
 who:Int
 lo:Int
 hi:Int
 es:List fE
 root:List Int
 deriving Inhabited
def ie(c:gp)(i:Int):Bool:=decide (c.lo<=i/\i<c.hi)
def iW(c:gp)(i:Int):fE:=gt c.es (i-c.lo)
def sd(cl:List gp)(i:Int):List fE:=(cl.filter λc=>ie c i).map λc=>iW c i
theorem rA{cl:List gp}{i:Int}{r:fE}:r∈sd cl i↔∃c∈cl,ie c i=true/\iW c i=r:=by
 unfold sd;rw[aq];constructor
 .grind
 .grind
def uY:List Int->Int
 | [] => -1
 | a::r=>r.foldl min a
def C3:List Int->Int
 | [] => -1
 | a::r=>r.foldl max a
theorem foldl_min:∀(r:List Int) (a:Int),(r.foldl min a=a\/r.foldl min a∈r)/\r.foldl min a<=a/\∀y∈r,r.foldl min a<=y
 | [],a=>⟨.inl rfl,Int.le_refl _,by simp⟩
 | b::r,a=>by
  obtain⟨h1,e,d⟩:=foldl_min r (min a b);rw[bW];refine⟨?_,by omega,λy c=>?_⟩
  .grind
  .grind
theorem foldl_max:∀(r:List Int) (a:Int),(r.foldl max a=a\/r.foldl max a∈r)/\a<=r.foldl max a/\∀y∈r,y<=r.foldl max a
 | [],a=>⟨.inl rfl,Int.le_refl _,by simp⟩
 | b::r,a=>by
  obtain⟨h1,e,d⟩:=foldl_max r (max a b);rw[bW];refine⟨?_,by omega,λy c=>?_⟩
  .grind
  .grind
theorem C5{l:List Int}(h:l≠[]):uY l∈l:=by
 cases l with
 | nil=>exact absurd rfl h
 | cons a r=>
  rcases(foldl_min r a).1 with e|e
  .exact aw.2 (.inl e)
  .exact aZ _ e
theorem F8{l:List Int}{y:Int}(h:y∈l):uY l<=y:=by
 cases l with
 | nil=>cases h
 | cons a r=>
  rcases aw.1 h with rfl|h
  .exact(foldl_min r y).2.1
  .exact(foldl_min r a).2.2 y h
theorem WT{l:List Int}(h:l≠[]):C3 l∈l:=by
 cases l with
 | nil=>exact absurd rfl h
 | cons a r=>
  rcases(foldl_max r a).1 with e|e
  .exact aw.2 (.inl e)
  .exact aZ _ e
theorem Wu{l:List Int}{y:Int}(h:y∈l):y<=C3 l:=by
 cases l with
 | nil=>cases h
 | cons a r=>
  rcases aw.1 h with rfl|h
  .exact(foldl_max r y).2.1
  .exact(foldl_max r a).2.2 y h
def lL(l:List fE):Int:=uY ((l.filter λr=>decide (r.1≠2)).map λr=>r.2)
def pM(l:List fE):fE:=l.headD default
def lk(l:List fE):Bool:=l.any λr=>decide (r≠pM l)
theorem NS{l:List fE}:lk l=true↔∃r∈l,r≠pM l:=by simp[lk]
theorem zM{l:List fE}:lk l=false↔∀r∈l,r=pM l:=by simp[lk]
theorem z8{l:List fE}(h:l≠[]):pM l∈l:=by
 cases l with
 | nil=>exact absurd rfl h
 | cons a r=>exact List.mem_cons_self
theorem aeR{l:List fE}{r:fE}(h:r∈l)(a:r.1≠2):lL l<=r.2:=
 F8 (aq.2 ⟨r,aO.2 ⟨h,by simpa using a⟩,rfl⟩)
theorem aeS{l:List fE}(h:∃r∈l,r.1≠2):∃r∈l,r.1≠2/\r.2=lL l:=by
 obtain⟨r,b,c⟩:=h
 have:=C5 (l:=(l.filter λr=>decide (r.1≠2)).map λr=>r.2) λe=>by have:r.2∈(l.filter λr=>decide (r.1≠2)).map λr=>r.2:=aq.2 ⟨r,aO.2 ⟨b,by simpa using c⟩,rfl⟩;rw[e]at this;cases this
 obtain⟨q,a,e⟩:=aq.1 this;rw[aO]at a;exact⟨q,a.1,by simpa using a.2,e⟩
def jT(l:List fE)(o:Int):List Int:=(l.filter λr=>decide (r.1=o)).map λr=>r.2
theorem y7{l:List fE}{o n:Int}:n∈jT l o↔(o,n)∈l:=by
 unfold jT;rw[aq];constructor
 .grind
 .simp_all
theorem Mf{l:List fE}{o:Int}:(jT l o).length=l.length↔∀r∈l,r.1=o:=by unfold jT;rw[List.length_map,List.length_filter_eq_length_iff];simp
def nX(l:List fE):fE:=
 if jT l 3≠[]then(1,uY (jT l 3)+1)else if l≠[]/\(jT l 1).length=l.length then(3,C3 (jT l 1)+1)else(2,0)
def A4(A:ny)(cl:List gp)(i n:Int):List fE:=(gt A.nx i).map λj=>if lk (sd cl j)=false/\(pM (sd cl j)).2<n then pM (sd cl j)else(2,0)
def oQ(A:ny)(cl:List gp)(i:Int)(c:gp):Bool:=
 ie c i&&(if A.ov i=true then decide (iW c i≠(A.rs i,0))else
  if (nX (A4 A cl i (lL (sd cl i)))).1≠2 then decide (iW c i≠nX (A4 A cl i (lL (sd cl i))))else decide ((iW c i).1≠2/\(iW c i).2=lL (sd cl i)))
def kM(r:fE):Bool:=decide (r=(2,0)\/((r.1=1\/r.1=3)/\0<=r.2))
theorem pd.dr{A:ny}{v:List fE}{i:Int}(h:pd A v i)(a:(gt v i).1=2):gt v i=(2,0):=by
 rcases h with⟨_,e⟩|⟨_,⟨n,_,e,_⟩|⟨n,_,e,_⟩|⟨e,_⟩⟩
 .grind
 .grind
 .grind
 .exact e
section
variable{A:ny}{V:List fE}{cl:List gp}{N:Int}
theorem aaS{i:Int}(c:∀r∈sd cl i,kM r=true)(f:lk (sd cl i)=true):∃r∈sd cl i,r.1≠2:=by
 obtain⟨r,b,g⟩:=NS.1 f;have h0:=z8 (l:=sd cl i) λe=>by rw[e]at b;cases b
 have a:=c r b;have d:=c _ h0;simp only[kM,decide_eq_true_eq]at a d;rcases a with a|a
 .grind
 .grind
theorem alN(gq:∀i,0<=i->i<N->∀k∈gt A.nx i,0<=k/\k<N)(hV:∀i,0<=i->i<N->pd A V i)(H:∀i,0<=i->i<N->gt V i∈sd cl i)
  {i:Int} (i0:0<=i) (G:i<N) (J:∀j,0<=j->j<N->lk (sd cl j)=true->lL (sd cl i)<=lL (sd cl j)) {c:gp} (hs:iW c i=gt V i):oQ A cl i c=false:=by
 have F:∀j∈gt A.nx i,(if lk (sd cl j)=false/\(pM (sd cl j)).2<lL (sd cl i)then pM (sd cl j)else(2,0))=if (gt V j).1≠2/\(gt V j).2<lL (sd cl i)then gt V j else(2,0):=λj a=>by
  obtain⟨j0,j1⟩:=gq i i0 G j a;have b:=H j j0 j1
  by_cases q:lk (sd cl j)=true
  .rw[if_neg (λh=>by rw[q]at h;cases h.1)];rw[if_neg];rintro⟨h1,v⟩;have:=aeR b h1;have:=J j j0 j1 q;omega
  .have q:lk (sd cl j)=false:=by simpa using q
   have e:=zM.1 q _ b;rw[<-e]
   by_cases v:(gt V j).1=2
   .rw[(hV j j0 j1).dr v];simp
   .simp[q,v]
 have E:A4 A cl i (lL (sd cl i))=(gt A.nx i).map λj=>if (gt V j).1≠2/\(gt V j).2<lL (sd cl i)then gt V j else(2,0):=ak F
 unfold oQ;rw[hs,E];generalize lL (sd cl i)=n;clear F E J hs H;have b:∀(o p:Int),o≠2->((o,p)∈((gt A.nx i).map λj=>if (gt V j).1≠2/\(gt V j).2<n then gt V j else(2,0))↔∃j∈gt A.nx i,gt V j=(o,p)/\p<n):=λo p P=>by grind
 have hM:∀j∈gt A.nx i,(if (gt V j).1≠2/\(gt V j).2<n then gt V j else(2,0))∈(gt A.nx i).map λj=>if (gt V j).1≠2/\(gt V j).2<n then gt V j else(2,0):=λj a=>aq.2 ⟨j,a,rfl⟩
 have z:∀r∈(gt A.nx i).map (λj=>if (gt V j).1≠2/\(gt V j).2<n then gt V j else(2,0)),∃j∈gt A.nx i,(if (gt V j).1≠2/\(gt V j).2<n then gt V j else(2,0))=r:=λr u=>aq.1 u;generalize ((gt A.nx i).map λj=>if (gt V j).1≠2/\(gt V j).2<n then gt V j else(2,0))=M at *;rw[Bool.and_eq_false_iff];right;rcases hV i i0 G with⟨o,e⟩|⟨o,⟨m,m1,e,⟨k,d,t⟩,D⟩|⟨m,m1,e,x,k,d,t⟩|⟨e,K,B⟩⟩
 .grind
 .rw[if_neg (by rw[o];simp),e]
  by_cases g:jT M 3 = []
  .have L:n<=m-1:=by refine eN.1 λh=>?_;have:=y7.2 ((b 3 (m-1) (by decide)).2 ⟨k,d,t,h⟩);rw[g]at this;cases this
   have f:nX M=(2,0):=by unfold nX;rw[if_neg (λh=>h g),if_neg];rintro⟨_,s⟩;have:=Mf.1 s _ (hM k d);rw[t,if_neg (by simp;omega)]at this;simp at this
   rw[f];simp;omega
  .obtain⟨j,a,l,O⟩:=(b 3 _ (by decide)).1 (y7.1 (C5 g));have h1:=D j a (by rw[l]);rw[l]at h1;dsimp only at h1;have v:=F8 (y7.2 ((b 3 (m-1) (by decide)).2 ⟨k,d,t,by omega⟩))
   have f:nX M=(1,m):=by unfold nX;rw[if_pos g,show uY (jT M 3)+1=m by omega]
   rw[f];simp
 .rw[if_neg (by rw[o];simp),e]
  have g:jT M 3 = []:=by refine aS.2 λp y=>?_;obtain⟨j,a,l,_⟩:=(b 3 _ (by decide)).1 (y7.1 y);have:=(x j a).1;rw[l]at this;simp at this
  by_cases D:m-1<n
  .have C:∀r∈M,r.1=1:=λr u=>by grind
   have w:m-1∈jT M 1:=y7.2 ((b 1 (m-1) (by decide)).2 ⟨k,d,ew (x k d).1 t,D⟩);have Q:=Wu w;obtain⟨j,a,l,_⟩:=(b 1 _ (by decide)).1 (y7.1 (WT λh=>by rw[h]at w;cases w));have I:=(x j a).2;rw[l]at I;dsimp only at I
   have f:nX M=(3,m):=by unfold nX;rw[if_neg (λh=>h g),if_pos ⟨λh=>(by have:=hM k d;rw[h]at this;cases this),Mf.2 C⟩,show C3 (jT M 1)+1=m by omega]
   rw[f];simp
  .have f:nX M=(2,0):=by unfold nX;rw[if_neg (λh=>h g),if_neg];rintro⟨_,s⟩;have:=Mf.1 s _ (hM k d);rw[if_neg (by omega)]at this;simp at this
   rw[f];simp;omega
 .rw[if_neg (by rw[o];simp),e]
  have g:jT M 3 = []:=by refine aS.2 λp y=>?_;obtain⟨j,a,l,_⟩:=(b 3 _ (by decide)).1 (y7.1 y);exact K j a (by rw[l])
  have f:nX M=(2,0):=by
   unfold nX;rw[if_neg (λh=>h g),if_neg];rintro⟨h0,s⟩;obtain⟨r,u⟩:=eP _ h0;obtain⟨j,a,_⟩:=z r u;refine B ⟨λh=>(by rw[h]at a;cases a),λk d=>?_⟩;have:=Mf.1 s _ (hM k d);split at this
   .exact this
   .simp at this
  rw[f];simp
theorem alO{i:Int}(j:∀r∈sd cl i,kM r=true)(f:lk (sd cl i)=true):∃c∈cl,oQ A cl i c=true:=by
 have two:∀w:fE,∃c∈cl,ie c i=true/\iW c i≠w:=λw=>by
  obtain⟨r,a,m⟩:=NS.1 f;have h0:=z8 (l:=sd cl i) λe=>by rw[e]at a;cases a
  by_cases h:r=w
  .obtain⟨c,h1,d,b⟩:=rA.1 h0;exact⟨c,h1,d,by rw[b,<-h];exactλe=>m e.symm⟩
  .obtain⟨c,h1,d,b⟩:=rA.1 a;exact⟨c,h1,d,by rw[b];exact h⟩
 unfold oQ
 by_cases k:A.ov i=true
 .simp_all
 .by_cases g:(nX (A4 A cl i (lL (sd cl i)))).1≠2
  .simp_all
  .obtain⟨r,a,d,e⟩:=aeS (aaS j f);obtain⟨c,h1,b,rfl⟩:=rA.1 a;exact⟨c,h1,by rw[b,if_neg k,if_neg g];simpa using ⟨d,e⟩⟩
end
end Go.Proofs.YtmehofoficaelaaGreatDoor
namespace Go.Proofs.YtmehofoficaelaaGreatDoor
open Go Go.AL Classical
set_option maxRecDepth 10000
set_option maxHeartbeats 4000000
theorem SS:∀(n:Nat) (a b:List Int),a.length=n->b.length=n->mb (List.replicate n mg.int) (cl fU a) (cl fU b)=some (decide (a=b))
 | 0,[],[],_,_=>by simp[mY,mb]
 | n+1,x::a,y::b,ha,hb=>by
  have c:=SS n a b (by simpa using ha) (by simpa using hb);rw[mi,mi,yq,yq,bt]
  show(match tv .int (.val (.int .u8 x)) (.val (.int .u8 y)),mb (List.replicate n mg.int) (cl fU a) (cl fU b)with
   | some a,some b=>some (a&&b)
   | _,_=>none)=_
  rw[c];show some (decide (x=y)&&decide (a=b))=_;rw[<-du];congr 1;exact decide_eq_decide.2 (by simp)
def Sm:List mg:=List.replicate 32 mg.int
theorem Y8:Sm = [.int,.int,.int,.int,.int,.int,.int,.int,.int,.int,.int,.int,.int,.int,.int,.int,.int,.int,.int,.int,.int,.int,.int,.int,.int,.int,.int,.int,.int,.int,.int,.int]:=rfl
def dE(em:Bool)(es:List fE):D:=if em then .fJ else gY es
structure Cw where
 c:gp
 em:Bool
 deriving Inhabited
def Cw.cells(x:Cw):List D:=[.i x.c.who,.i x.c.lo,.i x.c.hi,dE x.em x.c.es]++cl fU x.c.root
structure Cw.ok(x:Cw):Prop where
 em:x.em=true->x.c.es = []
 es:x.c.es.length<=64
 root:x.c.root.length=32
 lo : -1000000<=x.c.lo/\x.c.lo<=1000000
 hi : -1000000<=x.c.hi/\x.c.hi<=1000000
theorem aaJ{em:Bool}{es:List fE}(h:em=true->es = []):dV es (dE em es):=by
 unfold dE;cases em
 .exact .inl rfl
 .exact .inr ⟨h rfl,rfl⟩
theorem Tu{em:Bool}{es:List fE}(h:em=true->es = [])(H:U):mM .slice (dE em es) H=some (.i es.length):=by
 unfold dE;cases em
 .simp
 .rw[h rfl];simp
@[simp] theorem apR(em:Bool)(es:List fE):closed (dE em es)=true:=by unfold dE;cases em<;>simp
def snd(c:gp):Bool:=decide (0<=c.lo/\c.lo<=c.hi/\(c.es.length:Int)=c.hi-c.lo/\c.root=ju c.es)
theorem abl(x:Cw)(b:x.ok):Wf T 48 [.agg x.cells] [] (Is (.b (snd x.c))):=by
 have f:=abo (aaJ b.em) b.es;have j:=v8 x.c.es;have g:=b.root;have n:=b.lo;have o:=b.hi;have m:=b.es;have a:=Tu b.em;obtain⟨⟨who,lo,hi,es,root⟩,em⟩:=x;unfold Cw.cells snd;dsimp only at *;obtain⟨r,l⟩:∃r,ju es=r:=⟨_,rfl⟩;rw[l]at f j ⊢;obtain⟨E,h⟩:∃E,dE em es=E:=⟨_,rfl⟩;have d:closed E=true:=by rw[<-h];simp
 rw[h]at f a ⊢;have k:root.take 32=root:=af (by omega);have c:=SS 32 root r g j;rw[show List.replicate 32 mg.int=Sm from rfl,Y8]at c
 by_cases h1:0<=lo
 .by_cases e:lo<=hi
  .by_cases i:(es.length:Int)=hi-lo
   .refine Yg vf ?_;simp[vf,h1,e,a];refine jw a ?_;refine iF.c rfl rfl f (by simp[d]) (by simp) ?_;simp[k,c,i]
   .refine Yg vf ?_;simp[vf,h1,e,a];refine jw a ?_;simp[i]
  .refine Yg vf ?_;simp[vf,h1,e]
 .refine Yg vf ?_;simp[vf,h1]
structure Wk where
 kind:Int
 pos:Int
 n:Int
 tu:Int
 sC:Int
 deriving Inhabited
def Wk.cells(w:Wk):List D:=[.i w.kind,.i w.pos,.i w.n,.i w.tu,.i w.sC]
structure Wk.ok(w:Wk):Prop where
 kind:1<=w.kind/\w.kind<=4
 pos:0<=w.pos/\w.pos<=31
 n:0<=w.n/\w.n<=5
 tu:1<=w.tu/\w.tu<=3
 sC:0<=w.sC/\w.sC<=8
def wu(x:List Int):Wk:=⟨1+gt x 0 % 4,gt x 1 % 32,gt x 2 % 6,1+gt x 3 % 3,gt x 4 % 9⟩
theorem alE(x:List Int):(wu x).ok:=⟨by unfold wu;dsimp only;omega,by unfold wu;dsimp only;omega,by unfold wu;dsimp only;omega,by unfold wu;dsimp only;omega,by unfold wu;dsimp only;omega⟩
def By(w:Wk)(v:List fE)(i:Int):fE:=if w.kind=4/\i=w.pos then(w.tu,w.sC)else gt v i
def oi(w:Wk)(v:List fE)(lo:Int):Nat->List fE
 | 0=>[]
 | n+1=>oi w v lo n ++ [By w v (lo+n)]
theorem RE(w:Wk)(v:List fE)(lo:Int):∀n,(oi w v lo n).length=n
 | 0=>rfl
 | n+1=>by rw[oi,au,RE w v lo n];rfl
def G9(w:Wk)(t:Int):Bool:=decide (w.kind=1\/w.kind=4\/(w.kind=3/\w.n<=t))
