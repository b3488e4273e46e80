/- Part 36 of DisputeTruth. -/
import Derived.Test.YtmehofoficaelaaGreatDoorV35
set_option linter.all false
namespace Go.Proofs.YtmehofoficaelaaGreatDoor
open Go Go.AL Classical
set_option maxRecDepth 10000
set_option maxHeartbeats 4000000
@[irreducible] def fB(l:List Int):List D:=[dU l]
@[simp] theorem FV(l:List Int):fB l = [dU l]:=by unfold fB;rfl
instance:Fl fB 1:=⟨λ_=>by simp,λ_=>by simp[gw]⟩
@[irreducible] def oS(L:List (List Int)):D:=.sl 1 (L.map fB)
theorem C2(L:List (List Int)):oS L = .sl 1 (L.map fB):=by unfold oS;rfl
@[simp] theorem asi(L:List (List Int)):closed (oS L)=true:=by unfold oS;exact xB L
@[simp] theorem auX(L:List (List Int))(H:U):mK .slice (oS L) H=some (.i L.length):=by unfold oS;simp
@[simp] theorem aym(f:gL)(l:List (List Int))(lo hi:Option X):tS f 1 (oS l) lo hi=(gY f lo 0).bind λa=>(gY f hi l.length).bind λh=>if 0<=a/\a<=h/\h<=l.length then some (oS ((l.drop a.toNat).take (h.toNat-a.toNat)))else none:=by unfold oS;rw[To,List.length_map];simp only[Ow]
@[simp] theorem avV{l:List (List Int)}{n:Int}{k:IntKind}{P:D->Prop}:oA (mB 1 (oS l) (.val (.int k n))) P .mk=((0<=n/\n<l.length)/\P (.gi [dU (gt l n)])):=by unfold oS;simp
theorem UY(l:List Int)(n:Int):D.val (.int .u8 n)::cl fU l=cl fU (n::l):=by rw[mO,y8];rfl
theorem qt(b:List Int):(km b).length=32:=by rw[km];exact Ea _
theorem ad2(b:List Int)(a:b.length<=4000000000):Wf T 210 [dU b] [] (Is (dU (0::b))):=by refine Yg Ju ?_;simp[Ju];refine fQ ?_;rw[UY];exact u6 (k:=38) (by simp;omega)
theorem adP(b:List Int)(e:b.length<=3000000000):Wf T 142 [dU b] [] (Is (.agg (cl fU (km (0::b))))):=by have c:=VT (0::b) (by simp;omega);have hl:=qt (0::b);obtain⟨r,d⟩:∃r,km (0::b)=r:=⟨_,rfl⟩;rw[d]at c hl ⊢;have a:r.take 32=r:=af (by omega);refine Yg Jl ?_;simp[Jl];refine Yc (ad2 b (by omega)) ?_;simp;refine Yc (c) ?_;simp[hl,a]
theorem ad3(a b:List Int)(f:a.length=32)(e:b.length=32):Wf T 211 [.agg (cl fU a),.agg (cl fU b)] [] (Is (dU (1::(a++b)))):=by have c:a.take 32=a:=af (by omega);have d:b.take 32=b:=af (by omega);refine Yg Jv ?_;simp[Jv];refine CN f e c d ?_;rw[UY,c,c,d];exact u6 (k:=38) (by simp;omega)
theorem adR(a b:List Int)(f:a.length=32)(e:b.length=32):Wf T 144 [.agg (cl fU a),.agg (cl fU b)] [] (Is (.agg (cl fU (km (1::(a++b)))))):=by have c:=VT (1::(a++b)) (by simp;omega);have hl:=qt (1::(a++b));obtain⟨r,i⟩:∃r,km (1::(a++b))=r:=⟨_,rfl⟩;rw[i]at c hl ⊢;have h:r.take 32=r:=af (by omega);have d:a.take 32=a:=af (by omega);have g:b.take 32=b:=af (by omega);refine Yg Jm ?_;simp[Jm,f,e,d,g];refine Yc (ad3 a b f e) ?_;simp[d,g];refine Yc (c) ?_;simp[hl,h]
def rI(r:Option (List (D×U))):Option Int:=match r with
 | some [(.val (.int .i64 n),[])]=>some n
 | _=>none
theorem Z3{r:Option (List (D×U))}{n:Int}(h:rI r=some n):r=some [(.i n,[])]:=by
 unfold rI at h;split at h
 .cases h;rfl
 .cases h
theorem acL:(List.range 65).all (λn=>Nat.ble n 1||decide (rI (run T [] 40 143 [.i n] [])=some (sC n)))=true:=by kernel_rfl
theorem adQ(n:Nat)(h0:2<=n)(h1:n<=64):Wf T 143 [.i n] [] (Is (.i (sC n))):=by
 have h:=acL;rw[List.all_eq_true]at h;have h:=h n (bj.2 (by omega));rw[bM,decide_eq_true_eq]at h;rcases h with h|h
 .exact absurd (cW h) (by omega)
 .exact oL (Z3 h)
theorem Vg{n:Nat}(h:2<=n):1<=sC n/\sC n<n:=by unfold sC;have h1:=Nat.log2_self_le (n:=n-1) (by omega);have a:0<2 ^ (Nat.log2 (n-1)):=Nat.pow_pos (by decide);omega
theorem aap(k:Nat):oj (k+1) []=km []:=by rw[oj,Em]
theorem S5(k:Nat)(x:List Int):oj (k+1) [x]=km (0::x):=by rw[oj,Em]
theorem S6(k:Nat){l:List (List Int)}(h:2<=l.length):oj (k+1) l=km (1::(oj k (l.take (sC l.length))++oj k (l.drop (sC l.length)))):=by
 match l,h with
 | a::b::r,_=>rw[oj,oj,oj,Em]<;>simp
theorem H7{k:Nat}{l:List (List Int)}(h:l.length<k):(oj k l).length=32:=by
 match k,l with
 | 0,_=>omega
 | k+1,[]=>rw[aap];exact qt _
 | k+1,[x]=>rw[S5];exact qt _
 | k+1,a::b::r=>rw[S6 k (by simp)];exact qt _
theorem PR:∀(k:Nat) (l:List (List Int)),l.length<k->0<l.length->l.length<=64->(∀x∈l,x.length<=3000000000)->Wf T 88 [oS l] [] (Is (.agg (cl fU (oj k l))))
 | 0,l,h,_,_,_=>by omega
 | k+1,l,hk,h0,ze,hx=>by
  by_cases h1:l.length=1
  .obtain⟨x,rfl⟩:∃x,l = [x]:=by
    match l,h1 with
    | [x],_=>exact⟨x,rfl⟩
   rw[S5];have c:=adP x (hx x (by simp));have hl:=qt (0::x);obtain⟨r,b⟩:∃r,km (0::x)=r:=⟨_,rfl⟩;rw[b]at c hl ⊢;have a:r.take 32=r:=af (by omega);refine Yg yF ?_;simp[yF];refine Yc (c) ?_;simp[hl,a]
  .have o:=Vg (n:=l.length) (by omega);have cm:=adQ l.length (by omega) ze;rw[S6 k (by omega)];obtain⟨m,j⟩:∃m,sC l.length=m:=⟨_,rfl⟩;rw[j]at o cm ⊢;have v:(l.take m).length=m:=by rw[aK];omega
   have t:(l.drop m).length=l.length-m:=by rw[aR]
   have i:=PR k (l.take m) (by omega) (by omega) (by omega) λx h=>hx x (aS h);have g:=PR k (l.drop m) (by omega) (by omega) (by omega) λx h=>hx x (bq h);have e:=H7 (k:=k) (l:=l.take m) (by omega);have d:=H7 (k:=k) (l:=l.drop m) (by omega);obtain⟨A,q⟩:∃A,oj k (l.take m)=A:=⟨_,rfl⟩;obtain⟨B,p⟩:∃B,oj k (l.drop m)=B:=⟨_,rfl⟩;rw[q]at i e ⊢;rw[p]at g d ⊢;have f:=adR A B e d;have hl:=qt (1::(A++B));obtain⟨r,b⟩:∃r,km (1::(A++B))=r:=⟨_,rfl⟩;rw[b]at f hl ⊢;have a:r.take 32=r:=af (by omega);have n0:¬l.length=0:=by omega
   have s:(l.drop m).take (l.length-m)=l.drop m:=af (by omega);refine Yg yF ?_;simp[yF,n0,h1];(with_reducible repeat' first|refine Xk ?_<;>try simp|refine Xs ?_ ?_<;>intro h<;>(try intro u)<;>(try simp[h])<;>try omega|refine Xg ?_|omega);refine Yc (cm) ?_;simp;refine fQ ?_;refine Yt (i) ?_;simp;refine jH s ?_
   trace_state
   refine Yt (g) ?_;simp;refine Yt (f) ?_;simp[hl,a]
theorem Ck{α:Type}[Inhabited α]{l:List α}{i:Int}(i0:0<=i)(a:i<l.length):l.take (i+1).toNat=l.take i.toNat ++ [gt l i]:=by rw[show(i+1).toNat=i.toNat+1 by omega,dm,List.getElem?_eq_getElem (by omega),dQ,<-jb i0 a]
theorem aed(n:Nat)(h0:0<n)(a:n<=4000000000):Wf T 277 [.fX,.i n] [] λd H=>d = .fM 0 0 1 0 0/\H = [.row 5 0 (cl fU (zs n))]:=by refine Yg JF ?_;simp[JF];(with_reducible repeat' first|refine Xk ?_<;>try simp|refine Xs ?_ ?_<;>intro h<;>(try intro b)<;>(try simp[h])<;>try omega|refine Xg ?_|omega);rw[<-yW,uO,dO]
theorem VZ(L:List (List Int))(hl:0<L.length)(v:L.length<=1000)(n:Nat)(m:n=L.flatten.length)(h0:0<n)(u:n<=4000000000):Wf T 224 [oS L] [] λd H=>d = .fM 0 L.length 1 0 n/\H = [.row 5 L.length (cl fU L.flatten)]:=by
 have b:∀i:Nat,(L.take i).flatten.length<=n:=λi=>by
  have:L.flatten=(L.take i).flatten++(L.drop i).flatten:=by rw[<-eH,bU]
  rw[m,this,aj];omega
 refine Yg Jy ?_;simp[Jy];refine fZ.e (0:Int) (λy=>[(0,oS L),(3,.i (((L.take y.toNat).flatten.length:Nat):Int)),(9,oS L),(10,.i L.length),(11,.i y)]) (λy=>[]) (λy=>0<=y/\y<=L.length) (λy=>(L.length-y).toNat) ?_ ?_
 .simp
 rintro i ⟨i0,r⟩;have s:=b i.toNat
 by_cases hi:i<L.length
 .have e:=Ck (l:=L) i0 hi;have q:=b (i+1).toNat;have c:(L.take (i+1).toNat).flatten.length=(L.take i.toNat).flatten.length+(gt L i).length:=by rw[e];simp
  simp only[hi];generalize (L.take i.toNat).flatten.length=a at *;simp[hi];(with_reducible repeat' first|refine Xk ?_<;>try simp|refine Xs ?_ ?_<;>intro h<;>(try intro w)<;>(try simp[h])<;>try omega|refine Xg ?_|omega);refine LJ.i (i+1) (by first|rfl|simp[c]) (by first|rfl|simp[c]) rfl rfl ?_;omega
 .have k:i=L.length:=by omega
  subst k;have p:L.take (L.length:Int).toNat=L:=af (by omega);rw[p,<-m];simp;refine Yn (aed n h0 u) ?_;simp;refine fZ.e ((0,zs n):Int×List Int) (λy=>[(6,.fM 0 y.1.toNat 1 0 (L.take y.1.toNat).flatten.length),(25,oS L),(26,.i L.length),(27,.i y.1)]) (λy=>[.row 5 y.1.toNat (cl fU y.2)]) (λy=>(0<=y.1/\y.1<=L.length)/\(y.1=0\/y.2=(L.take y.1.toNat).flatten)) (λy=>(L.length-y.1).toNat) ?_ ?_
  .simp
  rintro⟨i,R⟩ ⟨⟨i0,r⟩,f⟩;dsimp only at i0 r f ⊢;have s:=b i.toNat
  by_cases hi:i<L.length
  .have e:=Ck (l:=L) i0 hi;have q:=b (i+1).toNat;have c:(L.take (i+1).toNat).flatten=(L.take i.toNat).flatten++gt L i:=by rw[e];simp
   have g:R.take (L.take i.toNat).flatten.length=(L.take i.toNat).flatten:=by
    rcases f with rfl|rfl
    .simp
    .exact af (Nat.le_refl _)
   have o:(L.take i.toNat).flatten.length<=R.length:=by
    rcases f with rfl|rfl
    .simp
    .exact Nat.le_refl _
   have j:(L.take (i+1).toNat).flatten.length=(L.take i.toNat).flatten.length+(gt L i).length:=by rw[c,aj]
   rw[show(i+1).toNat=i.toNat+1 by omega]at q c j;obtain⟨a,t⟩:∃a,(L.take i.toNat).flatten=a:=⟨_,rfl⟩;rw[t]at s g o j c ⊢;simp[hi,o,g];refine kM o g ?_;refine LJ.i (i+1,a++gt L i) (by first|rfl|simp[-List.length_flatten,j,c,g,show(i+1).toNat=i.toNat+1 by omega]) (by first|rfl|simp[-List.length_flatten,j,c,g,show(i+1).toNat=i.toNat+1 by omega]) rfl rfl ?_;exact⟨by omega,im,.inr (by rw[show(i+1).toNat=i.toNat+1 by omega];exact c.symm)⟩
  .have k:i=L.length:=by omega
   subst k;rw[p]at f ⊢;rcases f with h|rfl
   .omega
   simp[<-m]
theorem adV:(List.range 65).all (λn=>Nat.ble n 1||decide (rI (run T [] 40 157 [.i n] [])=some (sC n)))=true:=by kernel_rfl
theorem adU(n:Nat)(h0:2<=n)(h1:n<=64):Wf T 157 [.i n] [] (Is (.i (sC n))):=by
 have h:=adV;rw[List.all_eq_true]at h;have h:=h n (bj.2 (by omega));rw[bM,decide_eq_true_eq]at h;rcases h with h|h
 .exact absurd (cW h) (by omega)
 .exact oL (Z3 h)
@[simp] theorem as8(l:List Int):tb (cl fU l)=true:=by
 rw[<-yW]
 induction l with
 | nil=>rfl
 | cons a r b=>exact b
theorem P8(ρ:Nat->Option Nat)(H:U)(k t:Nat)(a:D):mG ρ H k 1 0 1 (some (t,[a])) = .sl 1 [[gd ρ H k a]]:=by unfold mG;simp[chunks]
theorem Ww(ρ:Nat->Option Nat)(H:U)(k t:Nat)(a b:D):mG ρ H k 1 0 2 (some (t,[a,b])) = .sl 1 [[gd ρ H k a],[gd ρ H k b]]:=by unfold mG;simp[chunks]
theorem Wx(ρ:Nat->Option Nat)(H:U)(k t:Nat)(a b c:D):mG ρ H k 1 0 3 (some (t,[a,b,c])) = .sl 1 [[gd ρ H k a],[gd ρ H k b],[gd ρ H k c]]:=by unfold mG;simp[chunks]
theorem adT(b:List Int)(f:b.length<=3000000000):Wf T 156 [dU b] [] (Is (.agg (cl fU (km (0::b))))):=by have c:=VU (0::b) (by simp;omega);have a:=VZ [[0],b] (by simp) (by simp) (b.length+1) (by simp) (by omega) (by omega);have hl:=qt (0::b);obtain⟨r,e⟩:∃r,km (0::b)=r:=⟨_,rfl⟩;rw[e]at c hl ⊢;have d:r.take 32=r:=af (by omega);rw[show [[0],b].flatten=0::b by simp]at a;refine Yg Jn ?_;simp[Jn];refine gj.nr rfl rfl a (by simp[C2,xC,P8,Ww,Wx]) (by simp) (by simp) ?_;simp;refine gj.r rfl rfl c (by simp[xC]) (by simp[flat]) (by simp) ?_;simp[hl,d]
theorem wm.r{T:il}{f:FuncId}{fn:je}{args oq:List D}{dst:Option Nat}{s:St}{R:List Fp}{Q:Rc->St->Prop}{d:D}{ob:Ob}(b:T.fn f=some fn)(a:fn.full=false)(h:Wf T f oq [] λd' H'=>d'=d/\H' = [ob])
  (hs:args.map (gd (λ_=>none) s.H 40)=oq) (e:(oH d&&pn ob)=true) (c:(mL d&&nY ob)=true) (k:Q ⟨R,[(s.H.length,none)]⟩ { s with env:=put s.env dst (ku s.H.length d),H:=s.H ++ [ob] }):tY T f args R dst s Q .mk:=
 .inl (.inr ⟨fn,d,ob,b,a,by rw[hs];exact h,by split<;>assumption,k⟩)
theorem adW(a b:List Int)(e:a.length=32)(d:b.length=32):Wf T 158 [.agg (cl fU a),.agg (cl fU b)] [] (Is (.agg (cl fU (km (1::(a++b)))))):=by have c:=VU (1::(a++b)) (by simp;omega);have f:=VZ [[1],a,b] (by simp) (by simp) 65 (by simp;omega) (by omega) (by omega);rw[show [[1],a,b].flatten=1::(a++b)by simp]at f;have hl:=qt (1::(a++b));obtain⟨r,i⟩:∃r,km (1::(a++b))=r:=⟨_,rfl⟩;rw[i]at c hl ⊢;have h:r.take 32=r:=af (by omega);have g:a.take 32=a:=af (by omega);have j:b.take 32=b:=af (by omega);refine Yg Jo ?_;simp[Jo,e,d,g,j];refine wm.r rfl rfl f (by simp[C2,xC,P8,Ww,Wx,e,d]) (by simp) (by simp) ?_;simp;refine iW.r rfl rfl c (by simp only[List.map_cons,List.map_nil,AL.Th,aaz];simp only[amU];simp;rw[u6 (k:=38) (by simp;omega)];rfl) (by simp[flat]) (by simp) ?_;simp[hl,h]
theorem PS:∀(k:Nat) (l:List (List Int)),l.length<k->0<l.length->l.length<=64->(∀x∈l,x.length<=3000000000)->Wf T 97 [oS l] [] (Is (.agg (cl fU (oj k l))))
 | 0,l,h,_,_,_=>by omega
 | k+1,l,hk,h0,ze,hx=>by
  by_cases h1:l.length=1
  .obtain⟨x,rfl⟩:∃x,l = [x]:=by
    match l,h1 with
    | [x],_=>exact⟨x,rfl⟩
   rw[S5];have c:=adT x (hx x (by simp));have hl:=qt (0::x);obtain⟨r,b⟩:∃r,km (0::x)=r:=⟨_,rfl⟩;rw[b]at c hl ⊢;have a:r.take 32=r:=af (by omega);refine Yg yH ?_;simp[yH];refine Yc (c) ?_;simp[hl,a]
  .have o:=Vg (n:=l.length) (by omega);have cm:=adU l.length (by omega) ze;rw[S6 k (by omega)];obtain⟨m,j⟩:∃m,sC l.length=m:=⟨_,rfl⟩;rw[j]at o cm ⊢;have v:(l.take m).length=m:=by rw[aK];omega
   have t:(l.drop m).length=l.length-m:=by rw[aR]
   have i:=PS k (l.take m) (by omega) (by omega) (by omega) λx h=>hx x (aS h);have g:=PS k (l.drop m) (by omega) (by omega) (by omega) λx h=>hx x (bq h);have e:=H7 (k:=k) (l:=l.take m) (by omega);have d:=H7 (k:=k) (l:=l.drop m) (by omega);obtain⟨A,q⟩:∃A,oj k (l.take m)=A:=⟨_,rfl⟩;obtain⟨B,p⟩:∃B,oj k (l.drop m)=B:=⟨_,rfl⟩;rw[q]at i e ⊢;rw[p]at g d ⊢;have f:=adW A B e d;have hl:=qt (1::(A++B));obtain⟨r,b⟩:∃r,km (1::(A++B))=r:=⟨_,rfl⟩;rw[b]at f hl ⊢;have a:r.take 32=r:=af (by omega);have n0:¬l.length=0:=by omega
   have s:(l.drop m).take (l.length-m)=l.drop m:=af (by omega);refine Yg yH ?_;simp[yH,n0,h1];(with_reducible repeat' first|refine Xk ?_<;>try simp|refine Xs ?_ ?_<;>intro h<;>(try intro u)<;>(try simp[h])<;>try omega|refine Xg ?_|omega);refine Yc (cm) ?_;simp;refine fQ ?_;refine Yt (i) ?_;simp;refine jH s ?_;refine Yt (g) ?_;simp;refine Yt (f) ?_;simp[hl,a]
@[irreducible] def kj(v:List fO):List Int:=oj (v.length+1) (v.map q')
theorem Aa(v:List fO):(kj v).length=32:=by rw[kj];exact H7 (by simp)
theorem UK(r:fO):(q' r).length=5:=rfl
theorem Tm(a:Int):mj .i64 a 0=a:=by show a.fdiv (2 ^ (min (0:Int).toNat 64))=a;simp
theorem adB(r:fO):Wf T 87 [.agg [.i r.1,.i r.2]] [] (Is (dU (q' r))):=by refine Yg I6 ?_;simp[I6];unfold mG;simp[chunks,xC,q',Tm]
theorem adE(r:fO):Wf T 96 [.agg [.i r.1,.i r.2]] [] (Is (dU (q' r))):=by refine Yg I8 ?_;simp[I8];refine fZ.un ?_;refine kH.u ?_;simp;refine kH.s (by simp;rfl) ?_;refine kH.u ?_;simp;refine kH.s (by simp;rfl) ?_;refine kH.u ?_;simp;refine kH.s (by simp;rfl) ?_;refine kH.u ?_;simp;refine kH.s (by simp;rfl) ?_;refine kH.u ?_;simp[Tm];unfold mG;simp[chunks,xC,q',Tm]
theorem UU(x:List Int) : [dU x]=cl fB [x]:=by rw[iI,FV]
@[simp] theorem ab7(l:List (List Int))(x:List Int):cl fB l ++ [dU x]=cl fB (l ++ [x]):=by rw[<-pL,FV]
theorem VO(v:List fO)(h0:0<v.length)(s:v.length<=64):Wf T 49 [ie v] [] (Is (.agg (cl fU (kj v)))):=by
 have c:Wf T 97 [oS (v.map q')] [] (Is (.agg (cl fU (kj v)))):=by
  have:=PS (v.length+1) (v.map q') (by simp) (by simpa using h0) (by simpa using s) λx p=>by obtain⟨r,_,rfl⟩:=ao.1 p;rw[UK];omega
  rw[kj];exact this
 have hl:=Aa v;obtain⟨r,q⟩:∃r,kj v=r:=⟨_,rfl⟩;rw[q]at c hl ⊢;have k:r.take 32=r:=af (by omega);refine Yg yE ?_;simp[yE];refine fZ.e ((0,[]):Int×List (List Int)) (λy=>[(2,.ptr 0 0 0),(3,if y.2 = []then .fX else .fM 1 (y.2.length-1) 1 0 y.2.length),(6,ie v),(7,.i v.length),(8,.i y.1)]) (λy=>.row 70 0 (cl fU (zs 32))::(if y.2 = []then []else [.row 22 (y.2.length-1) (cl fB y.2)])) (λy=>(0<=y.1/\y.1<=v.length)/\y.2=(v.take y.1.toNat).map q') (λy=>(v.length-y.1).toNat) ?_ ?_
 .simp
 rintro⟨i,A⟩ ⟨⟨i0,n⟩,d⟩;dsimp only at i0 n d ⊢;have g:A.length=i.toNat:=by rw[d];simp;omega
 by_cases hi:i<v.length
 .have e:=Ck (l:=v) i0 hi;have f:=adE (gt v i);obtain⟨b,j⟩:∃b,q' (gt v i)=b:=⟨_,rfl⟩;rw[j]at f;have h:A ++ [b]=(v.take (i+1).toNat).map q':=by rw[e,List.map_append,<-d,<-j];rfl
  by_cases a:A = []
  .subst a;simp[hi];refine fQ ?_;refine Yc (f) ?_;simp;refine fQ ?_;refine LJ.i (i+1,[b]) (by first|rfl|simp[UU]) (by first|rfl|simp[UU]) rfl rfl ?_;exact⟨by omega,im,h⟩
  .have o:0<A.length:=ax.2 a;rw[if_neg a,if_neg a];simp[hi];refine fQ ?_;refine Yc (f) ?_;simp;refine fQ ?_;refine LJ.i (i+1,A ++ [b]) (by first|rfl|simp[show A.length-1+1=A.length by omega]) (by first|rfl|simp[show A.length-1+1=A.length by omega]) rfl rfl ?_;exact⟨by omega,im,h⟩
 .have m:i=v.length:=by omega
  subst m;rw[af (by omega)]at d;have a:A≠[]:=λe=>by rw[e]at g;simp at g;omega
  rw[<-d]at c;rw[if_neg a,if_neg a];simp[hi];refine fQ ?_;refine gj.r rfl rfl c (by simp[C2]) (by simp[flat]) (by simp) ?_;simp[hl,k]
theorem VN(v:List fO)(h0:0<v.length)(o:v.length<=64):Wf T 41 [ie v] [] (Is (.agg (cl fU (kj v)))):=by
 have c:Wf T 88 [oS (v.map q')] [] (Is (.agg (cl fU (kj v)))):=by
  have:=PR (v.length+1) (v.map q') (by simp) (by simpa using h0) (by simpa using o) λx k=>by obtain⟨r,_,rfl⟩:=ao.1 k;rw[UK];omega
  rw[kj];exact this
 have hl:=Aa v;obtain⟨r,m⟩:∃r,kj v=r:=⟨_,rfl⟩;rw[m]at c hl ⊢;have g:r.take 32=r:=af (by omega);refine Yg yD ?_;simp[yD];refine fZ.e ((0,[]):Int×List (List Int)) (λy=>[(0,ie v),(2,.ptr 0 0 0),(3,.fM 1 y.2.length 1 0 y.2.length),(4,.i y.1)]) (λy=>[.row 70 0 (cl fU (zs 32)),.row 22 y.2.length (cl fB y.2)]) (λy=>(0<=y.1/\y.1<=v.length)/\y.2=(v.take y.1.toNat).map q') (λy=>(v.length-y.1).toNat) ?_ ?_
 .simp
 rintro⟨i,A⟩ ⟨⟨i0,j⟩,a⟩;dsimp only at i0 j a ⊢;have p:A.length=i.toNat:=by rw[a];simp;omega
 by_cases hi:i<v.length
 .have e:=Ck (l:=v) i0 hi;have f:=adB (gt v i);obtain⟨b,d⟩:∃b,q' (gt v i)=b:=⟨_,rfl⟩;rw[d]at f;have n:A ++ [b]=(v.take (i+1).toNat).map q':=by rw[e,List.map_append,<-a,<-d];rfl
  simp[hi];refine fQ ?_;refine Yc (f) ?_;simp;refine fQ ?_;refine LJ.e (i+1,A ++ [b]) ?_;exact⟨by omega,im,n⟩
 .have h:i=v.length:=by omega
  subst h;rw[af (by omega)]at a;rw[<-a]at c;simp[hi];refine fQ ?_;refine gj.r rfl rfl c (by simp[C2]) (by simp[flat]) (by simp) ?_;simp[hl,g]
theorem VJ{f:FuncId}{args:List D}{d:D}(h:Wf T f args [] (Is d)):Ev T (.call f args []) (kS [(d,[])]):=by refine Ev.mono h λr a=>?_;obtain⟨d',H',a,rfl,rfl⟩:=a;exact⟨_,List.mem_singleton.2 rfl,a⟩
theorem Mu(v:List fO)(b:List Int){a d:D}(f:a=ie v)(c:d = .agg (b.map λn=>.val (.int .u8 n)))(e:kj v=b)(h0:0<v.length)(g:v.length<=64):Ev T (.call 49 [a] []) (kS [(d,[])]):=by subst f c;rw[yW,<-e];exact VJ (VO v h0 g)
theorem Mt(v:List fO)(b:List Int){a d:D}(f:a=ie v)(c:d = .agg (b.map λn=>.val (.int .u8 n)))(e:kj v=b)(h0:0<v.length)(g:v.length<=64):Ev T (.call 41 [a] []) (kS [(d,[])]):=by subst f c;rw[yW,<-e];exact VJ (VN v h0 g)
theorem ad1:Wf T 207 [.fX] [] (Is (dU (pad []))):=by
 obtain⟨B,c⟩:∃B,xq 0=B:=⟨_,rfl⟩;have A:B.length=8:=by rw[<-c];rfl
 have w:∀i:Int,0<=i->i<8->gt B i=IntKind.u8.wrap (mj .u64 0 (56-8*i)):=λi i0 d=>by rw[<-c];exact LI _ i0 d
 obtain⟨p,h⟩:∃p,zZ 0=p:=⟨_,rfl⟩;have z:p=63-(0+8) % 64:=by rw[<-h];rfl
 have hP:pad []=128::zs p++B:=by rw[pad];show []++128::(List.replicate (zZ 0) 0++xq 0)=_;rw[c,h,uO];simp
 obtain⟨C,n⟩:∃C,128::zs p=C:=⟨_,rfl⟩;rw[hP,n];clear hP c h;have m:IntKind.u64.wrap (0:Int)=0:=rfl;have j:IntKind.u64.wrap (0)=8*0:=rfl;refine Yg Cu ?_;simp[Cu];refine fQ ?_;refine fZ.e ((2,[128]):Nat×List Int) (λy=>[(0,.fX),(3,.fM 0 y.1 1 0 y.2.length)]) (λy=>[.row 5 y.1 (cl fU y.2),.row 5 0 [.val (.int .u8 128)]]) (λy=>∃k:Nat,k<=p/\y.2=128::zs k) (λy=>0+1+p-y.2.length) ?_ ?_
 .exact⟨0,by omega,by simp⟩
 rintro⟨g,q⟩ ⟨k,k0,a⟩;dsimp only at k0 a ⊢;have D:q.length=0+1+k:=by rw[a];simp;omega
 have f:gp ((q.length:Int)+8) 64=((q.length:Int)+8) % 64:=jt (by omega)
 by_cases t:k<p
 .have h1:¬((q.length:Int)+8) % 64=0:=by omega
  have s:q ++ [0]=128::zs (k+1):=by rw[a,<-OU];simp
  simp[f,h1];refine jH f ?_;refine LJ.e (g+1,q ++ [0]) ?_;exact⟨by simp;omega,k+1,t,s⟩
 .have o:k=p:=by omega
  subst o;have h1:((q.length:Int)+8) % 64=0:=by omega
  rw[n]at a;subst a;simp[f,h1,m,j];refine kM m j ?_;refine fZ.e ((0,g,q):Int×Nat×List Int) (λy=>[(3,.fM 0 y.2.1 1 0 y.2.2.length),(4,.val (.int .u64 0)),(5,.i y.1)]) (λy=>[.row 5 y.2.1 (cl fU y.2.2),.row 5 0 [.val (.int .u8 128)]]) (λy=>(0<=y.1/\y.1<=8)/\y.2.2=q++B.take y.1.toNat) (λy=>(8-y.1).toNat) ?_ ?_
  .simp
  rintro⟨i,v,u⟩ ⟨⟨i0,d⟩,b⟩;dsimp only at i0 d b ⊢;have x:u.length=q.length+i.toNat:=by rw[b];simp;omega
  by_cases hi:i<8
  .have e:=OI (l:=B) i0 (by omega);rw[w i i0 hi]at e;simp[hi];refine fQ ?_;refine LJ.e (i+1,v+1,u ++ [IntKind.u8.wrap (mj .u64 0 (56-8*i))]) ?_;exact⟨by omega,im,by rw[e,b,aJ]⟩
  .have r:i=8:=by omega
   subst r;have e:u=q++B:=by rw[b,af (by omega)]
   subst e;simp;refine fQ ?_;rw[xC,List.map_append]
theorem adO:Wf T 141 [.fX] [] (Is (.agg (cl fU (km [])))):=by
 have p:=ad1;have q:=VW;have z:=ZN [];simp only[cV]at z;obtain⟨P,hP⟩:∃P,pad []=P:=⟨_,rfl⟩;obtain⟨S,hS⟩:∃S,A1=S:=⟨_,rfl⟩;have v:S.length=8:=by rw[<-hS];rfl
 obtain⟨r,o⟩:∃r,km []=r:=⟨_,rfl⟩;have d:yp (pK P S (P.length / 64))=r:=by rw[<-o,km,hP,hS]
 rw[hP]at p z;rw[hS]at q;rw[o];clear hP hS o;refine Yg Cs ?_;simp[Cs];refine Yc (p) ?_;simp;refine Yc (q) ?_;simp[v];refine fZ.e ((0,S):Int×List Int) (λy=>[(2,.ptr 0 0 0),(3,dU P),(4,.ptr 1 0 0),(5,.i y.1)]) (λy=>[.row 70 0 (cl fU (zs 32)),.row 323 0 (cl fW y.2)]) (λy=>∃n:Nat,y.1=64*n/\y.1<=P.length/\y.2=pK P S n) (λy=>(P.length+64-y.1).toNat) ?_ ?_
 .exact⟨0,by simp,by simp,by simp[LL]⟩
 rintro⟨i,s⟩ ⟨n,gy,l,hs⟩;dsimp only at gy l hs ⊢;have a:s.length=8:=by rw[hs];exact CS P v n
 by_cases hi:i<P.length
 .have f:s.take 8=s:=af (by omega);have x:((P.drop i.toNat).take 64).length=64:=by rw[aK,aR];omega
  have e:=LN P S n;rw[<-hs,show 64*n=i.toNat by omega]at e;have G:(i+64).toNat-i.toNat=64:=by omega
  obtain⟨B,F⟩:∃B,(P.drop i.toNat).take 64=B:=⟨_,rfl⟩;rw[F]at x e;have c:=VX s B a x;have C:=LF (s:=s) (b:=B) a;obtain⟨A,I⟩:∃A,s0 s B=A:=⟨_,rfl⟩;rw[I]at c e C;simp[hi,a,f];refine qJ a f G ?_;rw[G,F];have w:s.drop 8 = []:=bR (by omega);refine Yt (c) ?_;simp[C,a,f];refine fQ ?_;refine LJ.i (i+64,A) (by first|rfl|simp[w]) (by first|rfl|simp[w]) rfl rfl ?_;exact⟨by omega,n+1,by omega,by omega,e.symm⟩
 .have k:n=P.length / 64:=by omega
  rw[<-k,<-hs]at d;have J:r.length=32:=by rw[<-d];exact Ea s
  have t:∀j:Int,0<=j->j<32->gt r j=IntKind.u8.wrap (mj .u32 (gt s (j / 4)) (24-8*(j % 4))):=λj j0 j1=>by rw[<-d];exact N1 s j0 j1
  clear d hs p q;simp[hi];refine fQ ?_;refine fZ.e ((0,zs 32):Int×List Int) (λy=>[(2,.ptr 0 0 0),(4,.ptr 1 0 0),(6,.ptr 2 0 0),(7,.i y.1)]) (λy=>[.row 70 0 (cl fU (zs 32)),.row 323 0 (cl fW s),.row 70 0 (cl fU y.2)]) (λy=>(0<=y.1/\y.1<=32)/\y.2.length=32/\∀j:Int,0<=j->j<y.1->gt y.2 j=gt r j) (λy=>(32-y.1).toNat) ?_ ?_
  .exact⟨by simp,by simp,λj j0 j1=>absurd j1 (by dsimp only;omega)⟩
  rintro⟨i,u⟩ ⟨⟨i0,l⟩,g,m⟩;dsimp only at i0 l g m ⊢
  by_cases hi:i<32
  .have D:uG i 4=i / 4:=uH i0 (by omega) (by omega);have E:gp i 4=i % 4:=jt i0;simp[hi,D,E];refine kM D E ?_;refine LJ.i (i+1,pt u i (gt r i)) (by first|rfl|simp[t i i0 hi]) (by first|rfl|simp[t i i0 hi]) rfl rfl ?_;refine⟨by omega,im,by rw[iH i0 (by omega)];exact g,λj j0 j1=>?_⟩;dsimp only at j1 ⊢;rw[pq i0 (by omega) j0]
   by_cases e:j=i
   .rw[if_pos e,e]
   .rw[if_neg e];exact m j j0 (by omega)
  .have k:i=32:=by omega
   subst k
   have e:u=r:=by refine bC (by omega) λj j0 j1=>?_;have h:=m j (by omega) (by omega);rw[jb (by omega) (by omega),jb (by omega) (by omega)]at h;exact h
   subst e;have H:u.take 32=u:=af (by omega);simp[g,H]
theorem adS:Wf T 155 [.fX] [] (Is (.agg (cl fU (km [])))):=by
 have Q:=ad5;obtain⟨B,t⟩:∃B,xq 0=B:=⟨_,rfl⟩;have X:B.length=8:=by rw[<-t];rfl
 have R:∀i:Int,0<=i->i<8->gt B i=IntKind.u8.wrap (mj .u64 0 (56-8*i)):=λi i0 n=>by rw[<-t];exact LI _ i0 n
 obtain⟨p,A⟩:∃p,zZ 0=p:=⟨_,rfl⟩;have U:p=63-(0+8) % 64:=by rw[<-A];rfl
 have hP:pad []=128::zs p++B:=by rw[pad];show []++128::(List.replicate (zZ 0) 0++xq 0)=_;rw[t,A,uO];simp
 obtain⟨C,D⟩:∃C,128::zs p=C:=⟨_,rfl⟩;rw[D]at hP;have Z:C.length=0+1+p:=by rw[<-D];simp;omega
 obtain⟨r,z⟩:∃r,km []=r:=⟨_,rfl⟩;obtain⟨S,hS⟩:∃S,A1=S:=⟨_,rfl⟩;have w:S.length=8:=by rw[<-hS];rfl
 have m:yp (pK (C++B) S ((C++B).length / 64))=r:=by rw[<-z,km,hP,hS]
 rw[z];clear hP t A z;have I:S.take 8=S:=af (by omega);have o:IntKind.u64.wrap (0:Int)=0:=rfl;have d:IntKind.u64.wrap (0)=8*0:=rfl;refine Yz yI (iO 36 [2] yI.body) ?_;simp[yI,iO,kh,mN,mQ,nf,lK,UG,hS];refine Yc (Q) ?_;simp;refine fQ ?_;refine fZ.e ((0,[128]):Nat×List Int) (λy=>[(0,.fX),(2,.ptr 0 0 0),(3,.fM 2 y.1 1 0 y.2.length)]) (λy=>[.row 70 0 (cl fU (zs 32)),.row 5 0 [.val (.int .u8 128)],.row 5 y.1 (cl fU y.2)]) (λy=>∃k:Nat,k<=p/\y.2=128::zs k) (λy=>0+1+p-y.2.length) ?_ ?_
 .exact⟨0,by omega,by simp⟩
 rintro⟨g,q⟩ ⟨k,k0,s⟩;dsimp only at k0 s ⊢;have DI:q.length=0+1+k:=by rw[s];simp;omega
 have b:gp ((q.length:Int)+8) 64=((q.length:Int)+8) % 64:=jt (by omega)
 by_cases M:k<p
 .have h1:¬((q.length:Int)+8) % 64=0:=by omega
  have L:q ++ [0]=128::zs (k+1):=by rw[s,<-OU];simp
  simp[b,h1];refine jH b ?_;refine LJ.e (g+1,q ++ [0]) ?_;exact⟨by simp;omega,k+1,M,L⟩
 .have H:k=p:=by omega
  subst H;have h1:((q.length:Int)+8) % 64=0:=by omega
  rw[D]at s;subst s;simp[b,h1,o,d];refine kM o d ?_;refine fZ.st (by simp;rfl) ?_;refine fZ.e ((0,g,q):Int×Nat×List Int) (λy=>[(0,.fX),(2,.ptr 0 0 0),(3,.fM 2 y.2.1 1 0 y.2.2.length),(4,.i (56-8*y.1))]) (λy=>[.row 70 0 (cl fU (zs 32)),.row 5 0 [.val (.int .u8 128)],.row 5 y.2.1 (cl fU y.2.2)]) (λy=>(0<=y.1/\y.1<=8)/\y.2.2=q++B.take y.1.toNat) (λy=>(8-y.1).toNat) ?_ ?_
  .simp
  rintro⟨i,O,u⟩ ⟨⟨i0,n⟩,a⟩;dsimp only at i0 n a ⊢;have c:u.length=q.length+i.toNat:=by rw[a];simp;omega
  by_cases hi:i<8
  .have e:=OI (l:=B) i0 (by omega);rw[R i i0 hi]at e;have J:0<=56-8*i:=by omega
   simp[J,d,o];(with_reducible repeat' first|refine Xk ?_<;>try simp[d,o]|refine Xs ?_ ?_<;>intro h<;>(try intro W)<;>(try simp[h,d,o])<;>try omega|refine Xg ?_|omega);refine LJ.i (i+1,O+1,u ++ [IntKind.u8.wrap (mj .u64 0 (56-8*i))]) (by first|rfl|simp[show 56-8*(i+1)=56-8*i-8 by omega]) (by first|rfl|simp[show 56-8*(i+1)=56-8*i-8 by omega]) rfl rfl ?_;exact⟨by omega,im,by rw[e,a,aJ]⟩
  .have x:i=8:=by omega
   subst x;obtain⟨P,hP⟩:∃P,q++B=P:=⟨_,rfl⟩;have Y:P.length=q.length+8:=by rw[<-hP];simp;omega
   have e:u=P:=by rw[a,af (by omega),hP]
   rw[hP]at m;clear c a hP;subst e;simp;refine fQ ?_;refine gj.n (by simp[w,I];rfl) ?_;rw[<-xC];refine Yc (VY u) ?_;simp;refine sZ.r (f:=274) (first:=[]) (cap:=[.gi [dU u],.gi [.i 64]]) rfl rfl rfl rfl ?_;simp;refine Wf.mono (V0 u S (by omega) (by omega) w) ?_;rintro _ H' rfl;have K:=CS u w (u.length / 64);obtain⟨v,F⟩:∃v,pK u S (u.length / 64)=v:=⟨_,rfl⟩;rw[F]at m K ⊢;clear F;have V:r.length=32:=by rw[<-m];exact Ea v
   have E:∀j:Int,0<=j->j<32->gt r j=IntKind.u8.wrap (mj .u32 (gt v (j / 4)) (24-8*(j % 4))):=λj j0 j1=>by rw[<-m];exact N1 v j0 j1
   clear m;refine⟨[(5,.ptr 3 0 0)],.ready,by simp,?_⟩;simp;refine fZ.st (by simp;rfl) ?_;refine fZ.kg [4] false ((0,zs 32):Int×List Int) (λy=>[(2,.ptr 0 0 0),(5,.ptr 3 0 0),(7,.ptr 5 0 0),(42,.i y.1)]) (λy=>[.row 70 0 (cl fU (zs 32)),.row 5 0 [.val (.int .u8 128)],.dead,.row 323 0 (cl fW v),.jv,.row 70 0 (cl fU y.2)]) (λy=>(0<=y.1/\y.1<=32)/\y.2.length=32/\∀j:Int,0<=j->j<y.1->gt y.2 j=gt r j) (λy=>(32-y.1).toNat) ?_ (by simp) (by first|rfl|(simp[iI];done)|(simp[*];done)) rfl rfl rfl ?_
   .exact⟨by simp,by simp,λj j0 j1=>absurd j1 (by dsimp only;omega)⟩
   rintro⟨i,u⟩ ⟨⟨i0,n⟩,c,a⟩;dsimp only at i0 n c a ⊢
   by_cases hi:i<32
   .have b:uG i 4=i / 4:=uH i0 (by omega) (by omega);have G:gp i 4=i % 4:=jt i0;simp[hi,b,G];refine kM b G ?_;refine LJ.i (i+1,pt u i (gt r i)) (by first|rfl|simp[E i i0 hi]) (by first|rfl|simp[E i i0 hi]) rfl rfl ?_;refine⟨by omega,im,by rw[iH i0 (by omega)];exact c,λj j0 j1=>?_⟩;dsimp only at j1 ⊢;rw[pq i0 (by omega) j0]
    by_cases e:j=i
    .rw[if_pos e,e]
    .rw[if_neg e];exact a j j0 (by omega)
   .have x:i=32:=by omega
    subst x
    have e:u=r:=by refine bC (by omega) λj j0 j1=>?_;have h:=a j (by omega) (by omega);rw[jb (by omega) (by omega),jb (by omega) (by omega)]at h;exact h
    subst e;have N:u.take 32=u:=af (by omega);simp[c,N]
theorem Oc:kj []=km []:=by rw[kj];exact aap 0
theorem VQ:Wf T 88 [oS []] [] (Is (.agg (cl fU (km [])))):=by have c:=adO;have hl:=qt [];obtain⟨r,b⟩:∃r,km []=r:=⟨_,rfl⟩;rw[b]at c hl ⊢;have a:r.take 32=r:=af (by omega);refine Yg yF ?_;simp[yF];refine Yc (c) ?_;simp[hl,a]
theorem VR:Wf T 97 [.fX] [] (Is (.agg (cl fU (km [])))):=by have c:=adS;have hl:=qt [];obtain⟨r,b⟩:∃r,km []=r:=⟨_,rfl⟩;rw[b]at c hl ⊢;have a:r.take 32=r:=af (by omega);refine Yg yH ?_;simp[yH];refine Yc (c) ?_;simp[hl,a]
def dV(v:List fO)(d:D):Prop:=d=ie v\/(v = []/\d = .fX)
theorem adp:Wf T 41 [ie []] [] (Is (.agg (cl fU (kj [])))):=by
 rw[Oc];have c:=VQ;have hl:=qt [];obtain⟨r,b⟩:∃r,km []=r:=⟨_,rfl⟩;rw[b]at c hl ⊢;have a:r.take 32=r:=af (by omega);refine Yg yD ?_;simp[yD];refine fZ.un ?_;refine kH.u ?_;simp
 trace_state
 refine gj.r rfl rfl c (by simp[C2]) (by simp[flat]) (by simp) ?_;simp[hl,a]
theorem ado:Wf T 41 [.fX] [] (Is (.agg (cl fU (kj [])))):=by rw[Oc];have c:=VQ;have hl:=qt [];obtain⟨r,b⟩:∃r,km []=r:=⟨_,rfl⟩;rw[b]at c hl ⊢;have a:r.take 32=r:=af (by omega);refine Yg yD ?_;simp[yD];refine fZ.un ?_;refine kH.u ?_;simp;refine gj.r rfl rfl c (by simp[C2]) (by simp[flat]) (by simp) ?_;simp[hl,a]
theorem adt:Wf T 49 [ie []] [] (Is (.agg (cl fU (kj [])))):=by rw[Oc];have c:=VR;have hl:=qt [];obtain⟨r,b⟩:∃r,km []=r:=⟨_,rfl⟩;rw[b]at c hl ⊢;have a:r.take 32=r:=af (by omega);refine Yg yE ?_;simp[yE];refine fZ.un ?_;refine kH.u ?_;simp;refine Yc (c) ?_;simp[hl,a]
theorem ads:Wf T 49 [.fX] [] (Is (.agg (cl fU (kj [])))):=by rw[Oc];have c:=VR;have hl:=qt [];obtain⟨r,b⟩:∃r,km []=r:=⟨_,rfl⟩;rw[b]at c hl ⊢;have a:r.take 32=r:=af (by omega);refine Yg yE ?_;simp[yE];refine fZ.un ?_;refine kH.u ?_;simp;refine Yc (c) ?_;simp[hl,a]
theorem PQ{v:List fO}{d:D}(a:dV v d)(b:v.length<=64):Wf T 41 [d] [] (Is (.agg (cl fU (kj v)))):=by
 rcases a with rfl|⟨rfl,rfl⟩
 .by_cases h:v = []
  .subst h;exact adp
  .exact VN v (ax.2 h) b
 .exact ado
theorem adu{v:List fO}{d:D}(a:dV v d)(b:v.length<=64):Wf T 49 [d] [] (Is (.agg (cl fU (kj v)))):=by
 rcases a with rfl|⟨rfl,rfl⟩
 .by_cases h:v = []
  .subst h;exact adt
  .exact VO v (ax.2 h) b
 .exact ads
end Go.Proofs.YtmehofoficaelaaGreatDoor
namespace Go.Proofs.YtmehofoficaelaaGreatDoor
open Go Go.AL Classical
set_option maxRecDepth 10000
set_option maxHeartbeats 8000000
structure rO(g:fY)(m:List Int):Prop where
 len:m.length=g.kinds.length
 num:∀a∈m,1<=a/\a<=6
def lvC(m:List Int)(x:Int):Int:=if 0<=gC x then gt m (gC x)else 0
def Sd(m cs:List Int):Nat->Int
 | 0=>0
 | i+1=>Sd m cs i+lvC m (gt cs (i:Int))
def Se(m a b:List Int):Nat->Int
 | 0=>0
 | i+1=>Se m a b i+gt m (i:Int)*(gt a (i:Int)+gt b (i:Int))
def amf(r:Int):Int:=if r=0 then 0 else if r=3 then 2 else 1
def Ht(m:List Int)(p:Pos):Int:=Sd m p.cs p.cs.length+Se m p.h0 p.h1 m.length+amf p.gD
@[simp] theorem avp(m cs:List Int):Sd m cs 0=0:=rfl
@[simp] theorem avq(m a b:List Int):Se m a b 0=0:=rfl
section
variable{g:fY}{m:List Int}{p:Pos}
end
end Go.Proofs.YtmehofoficaelaaGreatDoor
namespace Go.AL
open Go
def PM:Nat->List (Int×List Int)->List (Value×D)
 | _,[]=>[]
 | k,e::r=>(.int .i64 e.1,.fM k (e.2.length-1) 1 0 e.2.length)::PM (k+1) r
def rwF(ls:List (Int×List Int)):U:=ls.map λe=>.row 3 (e.2.length-1) (cl f1 e.2)
def LH(m:List Int)(ls:List (Int×List Int)):U:=.row 56 0 [dI m] :: .map (.int .i64) (PM 2 ls)::rwF ls
end Go.AL
namespace Go.Proofs.YtmehofoficaelaaGreatDoor
open Go Go.AL Classical
noncomputable def aeD(m:List Int)(l:List Pos)(n:Int)(k:Nat):List Int:=(upto k).filter λi=>decide (Ht m (gt l i)=n)
structure GI(m:List Int)(l:List Pos)(i:Int)(ls:List (Int×List Int)):Prop where
 nd:(ls.map (·.1)).Nodup
 mem:∀n,n∈ls.map (·.1)↔∃j:Int,0<=j/\j<i/\Ht m (gt l j)=n
 prt:∀e∈ls,e.2=aeD m l e.1 i.toNat
section
variable{m:List Int}{l:List Pos}{i:Int}{ls:List (Int×List Int)}
end
end Go.Proofs.YtmehofoficaelaaGreatDoor
namespace Go.Proofs.YtmehofoficaelaaGreatDoor
open Go Go.AL Classical
section
variable{g:fY}{l:List Pos}{nx:List (List Int)}{part:List Int}
end
structure Chn(L:Nat)(v:List fO)(b:List Bool):Prop where
 vl:v.length=L
 bl:b.length=L
 n:∀i:Int,0<=i->i<L->gt b i=false->(gt v i).1≠2->0<=(gt v i).2/\(0<(gt v i).2->∃j:Int,0<=j/\j<L/\gt b j=false/\(gt v j).1≠2/\(gt v j).2=(gt v i).2-1)
theorem TC(v:List fO)(b:List Bool)(x:List Int):∀k:Nat,k<=x.length->(lF v b x k).2 = -1\/∃j∈x,gt b j=false/\(gt v j).1=1/\(gt v j).2=(lF v b x k).2
 | 0,_=>.inl rfl
 | k+1,hk=>by
  have c:=TC v b x k (by omega);have d:gt x (k:Int)∈x:=gq (by omega) (by omega);rw[lF];split
  .rename_i h;dsimp only;rcases Int.le_total (lF v b x k).2 (gt v (gt x (k:Int))).2 with a|a
   .rw[Int.max_eq_right a];exact .inr ⟨_,d,h.1,h.2,rfl⟩
   .rw[Int.max_eq_left a];exact c
  .exact c
section
variable{g:fY}{l:List Pos}{nx:List (List Int)}{part:List Int}{bu:Int}
theorem Me(o:xf g l nx part bu){v:List fO}{b:List Bool}(a:b.length=l.length){n:Int}:∀i∈rR g l nx part v b n,0<=i/\i<b.length:=λi hi=>by rw[a];exact o.prt i (acQ hi)
theorem amq(o:xf g l nx part bu){v:List fO}{b:List Bool}(a:v.length=l.length)(c:b.length=l.length){n:Int}:(rV g l nx part v b n).length=l.length:=by unfold rV;rw[HQ _ _ _ (by rw[a,<-c];exact Me o c),a]
theorem amp(o:xf g l nx part bu){v:List fO}{b:List Bool}(a:b.length=l.length){n:Int}:(rB g l nx part v b n).length=l.length:=by unfold rB;rw[HQ _ _ _ (Me o a),a]
theorem WH(o:xf g l nx part bu){v:List fO}{b:List Bool}(c:v.length=l.length)(a:b.length=l.length){n j:Int}(j0:0<=j)(j1:j<l.length):gt (rV g l nx part v b n) j=if j∈rR g l nx part v b n then Mm g l nx v b n j else gt v j:=
 F9 _ _ _ (by rw[c,<-a];exact Me o a) j j0 (by omega)
theorem Qf(o:xf g l nx part bu){v:List fO}{b:List Bool}(a:b.length=l.length){n j:Int}(j0:0<=j)(j1:j<l.length):gt (rB g l nx part v b n) j=if j∈rR g l nx part v b n then false else gt b j:=
 F9 _ _ _ (Me o a) j j0 (by omega)
theorem V9(o:xf g l nx part bu){v:List fO}{b:List Bool}(a:v.length=l.length)(c:b.length=l.length):((wC part v b).1.length=l.length/\(wC part v b).2.length=l.length) /\
  ∀j:Int,0<=j->j<l.length->gt (wC part v b).1 j=(if j∈part/\gt b j=true then(2,0)else gt v j)/\gt (wC part v b).2 j=(if j∈part then false else gt b j):=by
 have hi:∀i∈part.filter (λi=>gt b i),0<=i/\i<l.length:=λi hi=>o.prt i (aM.1 hi).1;unfold wC;dsimp only;refine⟨⟨by rw[HQ _ _ _ (by rw[a];exact hi),a],by rw[HQ _ _ _ (by rw[c];exact hi),c]⟩,λj j0 j1=>?_⟩;rw[F9 _ _ _ (by rw[a];exact hi) j j0 (by omega),F9 _ _ _ (by rw[c];exact hi) j j0 (by omega)];simp only[aM];refine⟨trivial,?_⟩
 by_cases h1:j∈part
 .by_cases d:gt b j=true
  .simp[h1,d]
  .simp[h1,d]
 .simp[h1]
end
section
variable{g:fY}{l:List Pos}{nx:List (List Int)}
end
end Go.Proofs.YtmehofoficaelaaGreatDoor
namespace Go.Proofs.YtmehofoficaelaaGreatDoor
open Go Go.AL Classical
noncomputable def NU(m:List Int)(l:List Pos)(last:Int):Nat->Int
 | 0 => -1
 | i+1=>if last<Ht m (gt l (i:Int))/\(NU m l last i<0\/Ht m (gt l (i:Int))<NU m l last i)then Ht m (gt l (i:Int))else NU m l last i
@[simp] theorem avH(m:List Int)(l:List Pos)(last:Int):NU m l last 0 = -1:=rfl
set_option maxRecDepth 10000
set_option maxHeartbeats 8000000
def abM(b:Int)(l:List fO):Bool:=l.any λs=>s.1 == 8&&s.2 == b
def bec(g:fY)(a b:Int):Bool:=(gt g.kinds a).jh.any (abM b)
structure aol(g:fY)(m:List Int):Prop where
 ok:rO g m
 le:∀a b:Int,0<=a->a<g.kinds.length->0<=b->b<g.kinds.length->bec g a b=true->gt m b<=gt m a
theorem aeU{α:Type}[Inhabited α]{l a:List α}{n:Int}(h0:0<=n)(h:n<l.length):gt (l++a) n=gt l n:=by unfold gt;rw[List.getD_eq_getElem?_getD,List.getD_eq_getElem?_getD,ah (by omega)]
end Go.Proofs.YtmehofoficaelaaGreatDoor
namespace Go.Proofs.YtmehofoficaelaaGreatDoor
open Go Go.AL Classical
section
variable{g:fY}{l:List Pos}{nx:List (List Int)}{part:List Int}{bu:Int}
structure Agr(L:Nat)(S:Int->Prop)(v:List fO)(b:List Bool)(v':List fO)(b':List Bool):Prop where
 vl:v.length=L
 bl:b.length=L
 vl':v'.length=L
 bl':b'.length=L
 eb:∀k:Int,0<=k->k<L->S k->gt b k=gt b' k
 ev:∀k:Int,0<=k->k<L->S k->gt b k=false->gt v k=gt v' k
structure aom(l:List Pos)(nx:List (List Int))(part:List Int)(S:Int->Prop):Prop where
 own:∀i∈part,S i
 next:∀i∈part,∀k∈gt nx i,S k
def rep(n:Nat):List Bool:=List.replicate n false
end
section
variable{g:fY}{l:List Pos}{m:List Int}
end
end Go.Proofs.YtmehofoficaelaaGreatDoor
namespace Go.Proofs.YtmehofoficaelaaGreatDoor
open Go Go.AL Classical
structure l6 where
 ov:Int->Bool
 rs:Int->Int
 nx:List (List Int)
def kn(A:l6)(v:List fO)(i:Int):Prop:=
 (A.ov i=true/\gt v i=(A.rs i,0))\/(A.ov i=false/\(
  (∃n,1<=n/\gt v i=(1,n)/\(∃k∈gt A.nx i,gt v k=(3,n-1))/\∀k∈gt A.nx i,(gt v k).1=3->n-1<=(gt v k).2) \/
  (∃n,1<=n/\gt v i=(3,n)/\(∀k∈gt A.nx i,(gt v k).1=1/\(gt v k).2<=n-1)/\∃k∈gt A.nx i,(gt v k).2=n-1) \/
  (gt v i=(2,0)/\(∀k∈gt A.nx i,(gt v k).1≠3)/\¬(gt A.nx i≠[]/\∀k∈gt A.nx i,(gt v k).1=1))))
theorem kn.n0{A:l6}{v:List fO}{i:Int}(h:kn A v i):0<=(gt v i).2:=by rcases h with⟨_,e⟩|⟨_,⟨n,h,e,_⟩|⟨n,h,e,_⟩|⟨e,_⟩⟩<;>rw[e]<;>simp<;>omega
theorem kn.congr{A:l6}{v v':List fO}{i:Int}(h:kn A v i)(hi:gt v' i=gt v i)(b:∀k∈gt A.nx i,gt v' k=gt v k):kn A v' i:=by
 rcases h with⟨f,c2⟩|⟨f,⟨q,q1,c2,⟨k,c,e⟩,d⟩|⟨q,q1,c2,e,k,c,d⟩|⟨c2,e,d⟩⟩
 .exact .inl ⟨f,by rw[hi];exact c2⟩
 .exact .inr ⟨f,.inl ⟨q,q1,by rw[hi];exact c2,⟨k,c,by rw[b k c];exact e⟩,λp a=>by rw[b p a];exact d p a⟩⟩
 .exact .inr ⟨f,.inr (.inl ⟨q,q1,by rw[hi];exact c2,λp a=>by rw[b p a];exact e p a,k,c,by rw[b k c];exact d⟩)⟩
 .exact .inr ⟨f,.inr (.inr ⟨by rw[hi];exact c2,λp a=>by rw[b p a];exact e p a,λ⟨j,g⟩=>d ⟨j,λp a=>by rw[<-b p a];exact g p a⟩⟩)⟩
section
variable{A:l6}{S:Int->Prop}{v v':List fO}
theorem YR(hS:∀i,S i->∀k∈gt A.nx i,S k)(h:∀i,S i->kn A v i)(f:∀i,S i->kn A v' i){n:Int}
  (j:∀m:Int,0<=m->m<n->∀i,S i->(gt v i).1≠2->(gt v i).2=m->gt v' i=gt v i) (z:∀m:Int,0<=m->m<n->∀i,S i->(gt v' i).1≠2->(gt v' i).2=m->gt v i=gt v' i) :
  ∀i,S i->(gt v i).1≠2->(gt v i).2=n->gt v' i=gt v i:=λi hi y b=>by
 rcases h i hi with⟨o,e⟩|⟨o,⟨m,h1,e,⟨k,l,c⟩,_⟩|⟨m,h1,e,p,k,l,c⟩|⟨e,_⟩⟩
 .rcases f i hi with⟨_,g⟩|⟨o',_⟩
  .rw[e,g]
  .grind
 .rw[e]at b;dsimp only at b;subst b;have u:=j (m-1) (by omega) (by omega) k (hS i hi k l) (by rw[c];simp) (by rw[c]);rw[c]at u;rcases f i hi with⟨o',_⟩|⟨_,⟨d,r,g,_,B⟩|⟨d,_,_,t,_⟩|⟨_,s,_⟩⟩
  .grind
  .grind
  .grind
  .grind
 .rw[e]at b;dsimp only at b;subst b;have x:∀q∈gt A.nx i,gt v' q=gt v q:=λq a=>j _ (h q (hS i hi q a)).n0 (by have:=(p q a).2;omega) q (hS i hi q a) (by rw[(p q a).1];simp) rfl;rcases f i hi with⟨o',_⟩|⟨_,⟨d,_,_,⟨q,a,w⟩,_⟩|⟨d,r,g,t,q,a,w⟩|⟨_,_,s⟩⟩
  .grind
  .grind
  .grind
  .grind
 .grind
theorem agO(hS:∀i,S i->∀k∈gt A.nx i,S k)(h:∀i,S i->kn A v i)(b:∀i,S i->kn A v' i):∀i,S i->gt v i=gt v' i:=by
 have key:∀N:Nat,(∀m:Int,0<=m->m<N->∀i,S i->(gt v i).1≠2->(gt v i).2=m->gt v' i=gt v i)/\(∀m:Int,0<=m->m<N->∀i,S i->(gt v' i).1≠2->(gt v' i).2=m->gt v i=gt v' i):=by
  intro N
  induction N with
  | zero=>exact⟨λm _ _=>by omega,λm _ _=>by omega⟩
  | succ N a=>
   refine⟨λm m0 m1=>?_,λm m0 m1=>?_⟩
   .exact YR hS h b (λq q0 q1=>a.1 q q0 (by omega)) (λq q0 q1=>a.2 q q0 (by omega))
   .exact YR hS b h (λq q0 q1=>a.2 q q0 (by omega)) (λq q0 q1=>a.1 q q0 (by omega))
 intro i hi;have n0:=(h i hi).n0;have c:=(b i hi).n0
 by_cases e:(gt v i).1=2
 .by_cases d:(gt v' i).1=2
  .refine cO (by rw[e,d]) ?_
   have z:∀ {w:List fO},kn A w i->(gt w i).1=2->(gt w i).2=0:=λ{w} f g=>by
    rcases f with⟨_,e⟩|⟨_,⟨n,_,e,_⟩|⟨n,_,e,_⟩|⟨e,_⟩⟩
    .rw[e]
    .grind
    .grind
    .rw[e]
   rw[z (h i hi) e,z (b i hi) d]
  .exact(key ((gt v' i).2.toNat+1)).2 _ c (by omega) i hi d rfl
 .exact((key ((gt v i).2.toNat+1)).1 _ n0 (by omega) i hi e rfl).symm
end
noncomputable def jM(g:fY)(l:List Pos)(nx:List (List Int)):l6:=⟨λi=>(stat g (gt l i)).2,λi=>(stat g (gt l i)).1,nx⟩
end Go.Proofs.YtmehofoficaelaaGreatDoor
namespace Go.Proofs.YtmehofoficaelaaGreatDoor
open Go Go.AL Classical
structure gA where
 who:Int
 lo:Int
 hi:Int
 es:List fO
 root:List Int
 deriving Inhabited
def jC(c:gA)(i:Int):Bool:=decide (c.lo<=i/\i<c.hi)
def ky(c:gA)(i:Int):fO:=gt c.es (i-c.lo)
def sd(cl:List gA)(i:Int):List fO:=(cl.filter λc=>jC c i).map λc=>ky c i
theorem sf{cl:List gA}{i:Int}{r:fO}:r∈sd cl i↔∃c∈cl,jC c i=true/\ky c i=r:=by
 unfold sd;rw[ao];constructor
 .grind
 .grind
def sT:List Int->Int
 | [] => -1
 | a::r=>r.foldl min a
def yi:List Int->Int
 | [] => -1
 | a::r=>r.foldl max a
theorem foldl_min:∀(r:List Int) (a:Int),(r.foldl min a=a\/r.foldl min a∈r)/\r.foldl min a<=a/\∀y∈r,r.foldl min a<=y
 | [],a=>⟨.inl rfl,dS _,by simp⟩
 | b::r,a=>by
  obtain⟨h1,e,d⟩:=foldl_min r (min a b);rw[b7];refine⟨?_,by omega,λy c=>?_⟩
  .grind
  .grind
theorem foldl_max:∀(r:List Int) (a:Int),(r.foldl max a=a\/r.foldl max a∈r)/\a<=r.foldl max a/\∀y∈r,y<=r.foldl max a
 | [],a=>⟨.inl rfl,dS _,by simp⟩
 | b::r,a=>by
  obtain⟨h1,e,d⟩:=foldl_max r (max a b);rw[b7];refine⟨?_,by omega,λy c=>?_⟩
  .grind
  .grind
theorem zT{l:List Int}(h:l≠[]):sT l∈l:=by
 cases l with
 | nil=>exact absurd rfl h
 | cons a r=>
  rcases(foldl_min r a).1 with e|e
  .exact aw.2 (.inl e)
  .exact a8 _ e
theorem BN{l:List Int}{y:Int}(h:y∈l):sT l<=y:=by
 cases l with
 | nil=>cases h
 | cons a r=>
  rcases aw.1 h with rfl|h
  .exact(foldl_min r y).2.1
  .exact(foldl_min r a).2.2 y h
theorem NM{l:List Int}(h:l≠[]):yi l∈l:=by
 cases l with
 | nil=>exact absurd rfl h
 | cons a r=>
  rcases(foldl_max r a).1 with e|e
  .exact aw.2 (.inl e)
  .exact a8 _ e
theorem NF{l:List Int}{y:Int}(h:y∈l):y<=yi l:=by
 cases l with
 | nil=>cases h
 | cons a r=>
  rcases aw.1 h with rfl|h
  .exact(foldl_max r y).2.1
  .exact(foldl_max r a).2.2 y h
def lZ(l:List fO):Int:=sT ((l.filter λr=>decide (r.1≠2)).map λr=>r.2)
def nc(l:List fO):fO:=l.headD default
def mu(l:List fO):Bool:=l.any λr=>decide (r≠nc l)
theorem Vp{l:List fO}:mu l=true↔∃r∈l,r≠nc l:=by simp[mu]
theorem Mj{l:List fO}:mu l=false↔∀r∈l,r=nc l:=by simp[mu]
theorem C'{l:List fO}(h:l≠[]):nc l∈l:=by
 cases l with
 | nil=>exact absurd rfl h
 | cons a r=>exact List.mem_cons_self
theorem agV{l:List fO}{r:fO}(h:r∈l)(a:r.1≠2):lZ l<=r.2:=
 BN (ao.2 ⟨r,aM.2 ⟨h,by simpa using a⟩,rfl⟩)
theorem agW{l:List fO}(h:∃r∈l,r.1≠2):∃r∈l,r.1≠2/\r.2=lZ l:=by
 obtain⟨r,b,c⟩:=h
 have:=zT (l:=(l.filter λr=>decide (r.1≠2)).map λr=>r.2) λe=>by have:r.2∈(l.filter λr=>decide (r.1≠2)).map λr=>r.2:=ao.2 ⟨r,aM.2 ⟨b,by simpa using c⟩,rfl⟩;rw[e]at this;cases this
 obtain⟨q,a,e⟩:=ao.1 this;rw[aM]at a;exact⟨q,a.1,by simpa using a.2,e⟩
def jq(l:List fO)(o:Int):List Int:=(l.filter λr=>decide (r.1=o)).map λr=>r.2
theorem sR{l:List fO}{o n:Int}:n∈jq l o↔(o,n)∈l:=by
 unfold jq;rw[ao];constructor
 .grind
 .simp_all
theorem D8{l:List fO}{o:Int}:(jq l o).length=l.length↔∀r∈l,r.1=o:=by unfold jq;rw[List.length_map,eo];simp
def nu(l:List fO):fO:=
 if jq l 3≠[]then(1,sT (jq l 3)+1)else if l≠[]/\(jq l 1).length=l.length then(3,yi (jq l 1)+1)else(2,0)
def HC(A:l6)(cl:List gA)(i n:Int):List fO:=(gt A.nx i).map λj=>if mu (sd cl j)=false/\(nc (sd cl j)).2<n then nc (sd cl j)else(2,0)
def qw(A:l6)(cl:List gA)(i:Int)(c:gA):Bool:=
 jC c i&&(if A.ov i=true then decide (ky c i≠(A.rs i,0))else
  if (nu (HC A cl i (lZ (sd cl i)))).1≠2 then decide (ky c i≠nu (HC A cl i (lZ (sd cl i))))else decide ((ky c i).1≠2/\(ky c i).2=lZ (sd cl i)))
def ln(r:fO):Bool:=decide (r=(2,0)\/((r.1=1\/r.1=3)/\0<=r.2))
theorem kn.dr{A:l6}{v:List fO}{i:Int}(h:kn A v i)(a:(gt v i).1=2):gt v i=(2,0):=by
 rcases h with⟨_,e⟩|⟨_,⟨n,_,e,_⟩|⟨n,_,e,_⟩|⟨e,_⟩⟩
 .grind
 .grind
 .grind
 .exact e
section
variable{A:l6}{V:List fO}{cl:List gA}{N:Int}
theorem acU{i:Int}(c:∀r∈sd cl i,ln r=true)(f:mu (sd cl i)=true):∃r∈sd cl i,r.1≠2:=by
 obtain⟨r,b,g⟩:=Vp.1 f;have h0:=C' (l:=sd cl i) λe=>by rw[e]at b;cases b
 have a:=c r b;have d:=c _ h0;simp only[ln,decide_eq_true_eq]at a d;rcases a with a|a
 .grind
 .grind
theorem aoc(gy:∀i,0<=i->i<N->∀k∈gt A.nx i,0<=k/\k<N)(hV:∀i,0<=i->i<N->kn A V i)(H:∀i,0<=i->i<N->gt V i∈sd cl i)
  {i:Int} (i0:0<=i) (G:i<N) (J:∀j,0<=j->j<N->mu (sd cl j)=true->lZ (sd cl i)<=lZ (sd cl j)) {c:gA} (hs:ky c i=gt V i):qw A cl i c=false:=by
 have F:∀j∈gt A.nx i,(if mu (sd cl j)=false/\(nc (sd cl j)).2<lZ (sd cl i)then nc (sd cl j)else(2,0))=if (gt V j).1≠2/\(gt V j).2<lZ (sd cl i)then gt V j else(2,0):=λj a=>by
  obtain⟨j0,j1⟩:=gy i i0 G j a;have b:=H j j0 j1
  by_cases q:mu (sd cl j)=true
  .rw[if_neg (λh=>by rw[q]at h;cases h.1)];rw[if_neg];rintro⟨h1,v⟩;have:=agV b h1;have:=J j j0 j1 q;omega
  .have q:mu (sd cl j)=false:=by simpa using q
   have e:=Mj.1 q _ b;rw[<-e]
   by_cases v:(gt V j).1=2
   .rw[(hV j j0 j1).dr v];simp
   .simp[q,v]
 have E:HC A cl i (lZ (sd cl i))=(gt A.nx i).map λj=>if (gt V j).1≠2/\(gt V j).2<lZ (sd cl i)then gt V j else(2,0):=au F
 unfold qw;rw[hs,E];generalize lZ (sd cl i)=n;clear F E J hs H;have b:∀(o p:Int),o≠2->((o,p)∈((gt A.nx i).map λj=>if (gt V j).1≠2/\(gt V j).2<n then gt V j else(2,0))↔∃j∈gt A.nx i,gt V j=(o,p)/\p<n):=λo p P=>by grind
 have hM:∀j∈gt A.nx i,(if (gt V j).1≠2/\(gt V j).2<n then gt V j else(2,0))∈(gt A.nx i).map λj=>if (gt V j).1≠2/\(gt V j).2<n then gt V j else(2,0):=λj a=>ao.2 ⟨j,a,rfl⟩
 have B:∀r∈(gt A.nx i).map (λj=>if (gt V j).1≠2/\(gt V j).2<n then gt V j else(2,0)),∃j∈gt A.nx i,(if (gt V j).1≠2/\(gt V j).2<n then gt V j else(2,0))=r:=λr u=>ao.1 u;generalize ((gt A.nx i).map λj=>if (gt V j).1≠2/\(gt V j).2<n then gt V j else(2,0))=M at *;rw[Bool.and_eq_false_iff];right;rcases hV i i0 G with⟨o,e⟩|⟨o,⟨m,m1,e,⟨k,d,t⟩,w⟩|⟨m,m1,e,y,k,d,t⟩|⟨e,K,C⟩⟩
 .grind
 .rw[if_neg (by rw[o];simp),e]
  by_cases g:jq M 3 = []
  .have L:n<=m-1:=by refine eW.1 λh=>?_;have:=sR.2 ((b 3 (m-1) (by decide)).2 ⟨k,d,t,h⟩);rw[g]at this;cases this
   have f:nu M=(2,0):=by unfold nu;rw[if_neg (λh=>h g),if_neg];rintro⟨_,s⟩;have:=D8.1 s _ (hM k d);rw[t,if_neg (by simp;omega)]at this;simp at this
   rw[f];simp;omega
  .obtain⟨j,a,l,O⟩:=(b 3 _ (by decide)).1 (sR.1 (zT g));have h1:=w j a (by rw[l]);rw[l]at h1;dsimp only at h1;have v:=BN (sR.2 ((b 3 (m-1) (by decide)).2 ⟨k,d,t,by omega⟩))
   have f:nu M=(1,m):=by unfold nu;rw[if_pos g,show sT (jq M 3)+1=m by omega]
   rw[f];simp
 .rw[if_neg (by rw[o];simp),e]
  have g:jq M 3 = []:=by refine aT.2 λp z=>?_;obtain⟨j,a,l,_⟩:=(b 3 _ (by decide)).1 (sR.1 z);have:=(y j a).1;rw[l]at this;simp at this
  by_cases w:m-1<n
  .have D:∀r∈M,r.1=1:=λr u=>by grind
   have x:m-1∈jq M 1:=sR.2 ((b 1 (m-1) (by decide)).2 ⟨k,d,cO (y k d).1 t,w⟩);have Q:=NF x;obtain⟨j,a,l,_⟩:=(b 1 _ (by decide)).1 (sR.1 (NM λh=>by rw[h]at x;cases x));have I:=(y j a).2;rw[l]at I;dsimp only at I
   have f:nu M=(3,m):=by unfold nu;rw[if_neg (λh=>h g),if_pos ⟨λh=>(by have:=hM k d;rw[h]at this;cases this),D8.2 D⟩,show yi (jq M 1)+1=m by omega]
   rw[f];simp
  .have f:nu M=(2,0):=by unfold nu;rw[if_neg (λh=>h g),if_neg];rintro⟨_,s⟩;have:=D8.1 s _ (hM k d);rw[if_neg (by omega)]at this;simp at this
   rw[f];simp;omega
 .rw[if_neg (by rw[o];simp),e]
  have g:jq M 3 = []:=by refine aT.2 λp z=>?_;obtain⟨j,a,l,_⟩:=(b 3 _ (by decide)).1 (sR.1 z);exact K j a (by rw[l])
  have f:nu M=(2,0):=by
   unfold nu;rw[if_neg (λh=>h g),if_neg];rintro⟨h0,s⟩;obtain⟨r,u⟩:=cI _ h0;obtain⟨j,a,_⟩:=B r u;refine C ⟨λh=>(by rw[h]at a;cases a),λk d=>?_⟩;have:=D8.1 s _ (hM k d);split at this
   .exact this
   .simp at this
  rw[f];simp
theorem abb{i:Int}(j:∀r∈sd cl i,ln r=true)(f:mu (sd cl i)=true):∃c∈cl,qw A cl i c=true:=by
 have two:∀w:fO,∃c∈cl,jC c i=true/\ky c i≠w:=λw=>by
  obtain⟨r,a,m⟩:=Vp.1 f;have h0:=C' (l:=sd cl i) λe=>by rw[e]at a;cases a
  by_cases h:r=w
  .obtain⟨c,h1,d,b⟩:=sf.1 h0;exact⟨c,h1,d,by rw[b,<-h];exactλe=>m e.symm⟩
  .obtain⟨c,h1,d,b⟩:=sf.1 a;exact⟨c,h1,d,by rw[b];exact h⟩
 unfold qw
 by_cases k:A.ov i=true
 .simp_all
 .by_cases g:(nu (HC A cl i (lZ (sd cl i)))).1≠2
  .simp_all
  .obtain⟨r,a,d,e⟩:=agW (acU j f);obtain⟨c,h1,b,rfl⟩:=sf.1 a;exact⟨c,h1,by rw[b,if_neg k,if_neg g];simpa using ⟨d,e⟩⟩
