/- Part 36 of DisputeWorkers. -/
import Derived.Test.YtmehofoficaelaaGreatDoorW35
set_option linter.all false
namespace Go.Proofs.YtmehofoficaelaaGreatDoor
open Go Go.AL Classical
set_option maxRecDepth 10000
set_option maxHeartbeats 4000000
theorem E8{α:Type}[Inhabited α]{l:List α}{i:Int}(i0:0<=i)(a:i<l.length):l.take (i+1).toNat=l.take i.toNat ++ [gt l i]:=by rw[show(i+1).toNat=i.toNat+1 by omega,dp,List.getElem?_eq_getElem (by omega),dT,<-jg i0 a]
theorem aeG(n:Nat)(h0:0<n)(a:n<=4000000000):Wf T 277 [.gg,.i n] [] λd H=>d = .fY 0 0 1 0 0/\H = [.row 5 0 (cl fU (zs n))]:=by refine Yg Kf ?_;simp[Kf];(with_reducible repeat' first|refine Xk ?_<;>try simp|refine Xs ?_ ?_<;>intro h<;>(try intro b)<;>(try simp[h])<;>try omega|refine Xg ?_|omega);rw[<-zr,vb,dS]
theorem Wl(L:List (List Int))(hl:0<L.length)(v:L.length<=1000)(n:Nat)(o:n=L.flatten.length)(h0:0<n)(u:n<=4000000000):Wf T 224 [pd L] [] λd H=>d = .fY 0 L.length 1 0 n/\H = [.row 5 L.length (cl fU L.flatten)]:=by
 have b:∀i:Nat,(L.take i).flatten.length<=n:=λi=>by
  have:L.flatten=(L.take i).flatten++(L.drop i).flatten:=by rw[<-eO,bX]
  rw[o,this,ak];omega
 refine Yg J7 ?_;simp[J7];refine gj.e (0:Int) (λy=>[(0,pd L),(3,.i (((L.take y.toNat).flatten.length:Nat):Int)),(9,pd L),(10,.i L.length),(11,.i y)]) (λy=>[]) (λy=>0<=y/\y<=L.length) (λy=>(L.length-y).toNat) ?_ ?_
 .simp
 rintro i ⟨i0,q⟩;have r:=b i.toNat
 by_cases hi:i<L.length
 .have e:=E8 (l:=L) i0 hi;have p:=b (i+1).toNat;have c:(L.take (i+1).toNat).flatten.length=(L.take i.toNat).flatten.length+(gt L i).length:=by rw[e];simp
  simp only[hi];generalize (L.take i.toNat).flatten.length=a at *;simp[hi];(with_reducible repeat' first|refine Xk ?_<;>try simp|refine Xs ?_ ?_<;>intro h<;>(try intro w)<;>(try simp[h])<;>try omega|refine Xg ?_|omega);refine LJ.i (i+1) (by first|rfl|simp[c]) (by first|rfl|simp[c]) rfl rfl ?_;omega
 .have m:i=L.length:=by omega
  subst m;have s:L.take (L.length:Int).toNat=L:=af (by omega);rw[s,<-o];simp;refine Yn (aeG n h0 u) ?_;simp;refine gj.e ((0,zs n):Int×List Int) (λy=>[(6,.fY 0 y.1.toNat 1 0 (L.take y.1.toNat).flatten.length),(25,pd L),(26,.i L.length),(27,.i y.1)]) (λy=>[.row 5 y.1.toNat (cl fU y.2)]) (λy=>(0<=y.1/\y.1<=L.length)/\(y.1=0\/y.2=(L.take y.1.toNat).flatten)) (λy=>(L.length-y.1).toNat) ?_ ?_
  .simp
  rintro⟨i,R⟩ ⟨⟨i0,q⟩,f⟩;dsimp only at i0 q f ⊢;have r:=b i.toNat
  by_cases hi:i<L.length
  .have e:=E8 (l:=L) i0 hi;have p:=b (i+1).toNat;have c:(L.take (i+1).toNat).flatten=(L.take i.toNat).flatten++gt L i:=by rw[e];simp
   have g:R.take (L.take i.toNat).flatten.length=(L.take i.toNat).flatten:=by
    rcases f with rfl|rfl
    .simp
    .exact af (Nat.le_refl _)
   have k:(L.take i.toNat).flatten.length<=R.length:=by
    rcases f with rfl|rfl
    .simp
    .exact Nat.le_refl _
   have j:(L.take (i+1).toNat).flatten.length=(L.take i.toNat).flatten.length+(gt L i).length:=by rw[c,ak]
   rw[show(i+1).toNat=i.toNat+1 by omega]at p c j;obtain⟨a,t⟩:∃a,(L.take i.toNat).flatten=a:=⟨_,rfl⟩;rw[t]at r g k j c ⊢;simp[hi,k,g];refine lh k g ?_;refine LJ.i (i+1,a++gt L i) (by first|rfl|simp[-List.length_flatten,j,c,g,show(i+1).toNat=i.toNat+1 by omega]) (by first|rfl|simp[-List.length_flatten,j,c,g,show(i+1).toNat=i.toNat+1 by omega]) rfl rfl ?_;exact⟨by omega,iy,.inr (by rw[show(i+1).toNat=i.toNat+1 by omega];exact c.symm)⟩
  .have m:i=L.length:=by omega
   subst m;rw[s]at f ⊢;rcases f with h|rfl
   .omega
   simp[<-o]
theorem aem:(List.range 65).all (λn=>Nat.ble n 1||decide (rI (run T [] 40 157 [.i n] [])=some (sY n)))=true:=by kernel_rfl
theorem ael(n:Nat)(h0:2<=n)(h1:n<=64):Wf T 157 [.i n] [] (Is (.i (sY n))):=by
 have h:=aem;rw[List.all_eq_true]at h;have h:=h n (bj.2 (by omega));rw[bQ,decide_eq_true_eq]at h;rcases h with h|h
 .exact absurd (cZ h) (by omega)
 .exact o5 (aak h)
@[simp] theorem atU(l:List Int):tF (cl fU l)=true:=by
 rw[<-zr]
 induction l with
 | nil=>rfl
 | cons a r b=>exact b
theorem Qz(ρ:Nat->Option Nat)(H:U)(k t:Nat)(a:D):mS ρ H k 1 0 1 (some (t,[a])) = .sl 1 [[gq ρ H k a]]:=by unfold mS;simp[chunks]
theorem WU(ρ:Nat->Option Nat)(H:U)(k t:Nat)(a b:D):mS ρ H k 1 0 2 (some (t,[a,b])) = .sl 1 [[gq ρ H k a],[gq ρ H k b]]:=by unfold mS;simp[chunks]
theorem WV(ρ:Nat->Option Nat)(H:U)(k t:Nat)(a b c:D):mS ρ H k 1 0 3 (some (t,[a,b,c])) = .sl 1 [[gq ρ H k a],[gq ρ H k b],[gq ρ H k c]]:=by unfold mS;simp[chunks]
theorem aek(b:List Int)(f:b.length<=3000000000):Wf T 156 [dU b] [] (Is (.agg (cl fU (kz (0::b))))):=by have c:=We (0::b) (by simp;omega);have a:=Wl [[0],b] (by simp) (by simp) (b.length+1) (by simp) (by omega) (by omega);have hl:=rD (0::b);obtain⟨r,e⟩:∃r,kz (0::b)=r:=⟨_,rfl⟩;rw[e]at c hl ⊢;have d:r.take 32=r:=af (by omega);rw[show [[0],b].flatten=0::b by simp]at a;refine Yg JV ?_;simp[JV];refine gx.nr rfl rfl a (by simp[Dx,xZ,Qz,WU,WV]) (by simp) (by simp) ?_;simp;refine gx.r rfl rfl c (by simp[xZ]) (by simp[flat]) (by simp) ?_;simp[hl,d]
theorem pK.r{T:iB}{f:FuncId}{fn:jw}{args oN:List D}{dst:Option Nat}{s:St}{R:List Fp}{Q:Rc->St->Prop}{d:D}{ob:Ob}(b:T.fn f=some fn)(a:fn.full=false)(h:Wf T f oN [] λd' H'=>d'=d/\H' = [ob])
  (hs:args.map (gq (λ_=>none) s.H 40)=oN) (e:(o3 d&&pP ob)=true) (c:(mO d&&n5 ob)=true) (k:Q ⟨R,[(s.H.length,none)]⟩ { s with env:=put s.env dst (kE s.H.length d),H:=s.H ++ [ob] }):uF T f args R dst s Q .mk:=
 .inl (.inr ⟨fn,d,ob,b,a,by rw[hs];exact h,by split<;>assumption,k⟩)
theorem aen(a b:List Int)(e:a.length=32)(d:b.length=32):Wf T 158 [.agg (cl fU a),.agg (cl fU b)] [] (Is (.agg (cl fU (kz (1::(a++b)))))):=by have c:=We (1::(a++b)) (by simp;omega);have f:=Wl [[1],a,b] (by simp) (by simp) 65 (by simp;omega) (by omega) (by omega);rw[show [[1],a,b].flatten=1::(a++b)by simp]at f;have hl:=rD (1::(a++b));obtain⟨r,i⟩:∃r,kz (1::(a++b))=r:=⟨_,rfl⟩;rw[i]at c hl ⊢;have h:r.take 32=r:=af (by omega);have g:a.take 32=a:=af (by omega);have j:b.take 32=b:=af (by omega);refine Yg JW ?_;simp[JW,e,d,g,j];refine pK.r rfl rfl f (by simp[Dx,xZ,Qz,WU,WV,e,d]) (by simp) (by simp) ?_;simp;refine je.r rfl rfl c (by simp only[List.map_cons,List.map_nil,AL.TE,aaP];simp only[anA];simp;rw[vu (k:=38) (by simp;omega)];rfl) (by simp[flat]) (by simp) ?_;simp[hl,h]
theorem Qj:∀(k:Nat) (l:List (List Int)),l.length<k->0<l.length->l.length<=64->(∀x∈l,x.length<=3000000000)->Wf T 97 [pd l] [] (Is (.agg (cl fU (oL k l))))
 | 0,l,h,_,_,_=>by omega
 | k+1,l,hk,h0,zK,hx=>by
  by_cases h1:l.length=1
  .obtain⟨x,rfl⟩:∃x,l = [x]:=by
    match l,h1 with
    | [x],_=>exact⟨x,rfl⟩
   rw[Ts];have c:=aek x (hx x (by simp));have hl:=rD (0::x);obtain⟨r,b⟩:∃r,kz (0::x)=r:=⟨_,rfl⟩;rw[b]at c hl ⊢;have a:r.take 32=r:=af (by omega);refine Yg za ?_;simp[za];refine Yc (c) ?_;simp[hl,a]
  .have o:=VA (n:=l.length) (by omega);have cm:=ael l.length (by omega) zK;rw[Tt k (by omega)];obtain⟨m,j⟩:∃m,sY l.length=m:=⟨_,rfl⟩;rw[j]at o cm ⊢;have v:(l.take m).length=m:=by rw[aK];omega
   have t:(l.drop m).length=l.length-m:=by rw[aR]
   have i:=Qj k (l.take m) (by omega) (by omega) (by omega) λx h=>hx x (aW h);have g:=Qj k (l.drop m) (by omega) (by omega) (by omega) λx h=>hx x (bw h);have e:=IJ (k:=k) (l:=l.take m) (by omega);have d:=IJ (k:=k) (l:=l.drop m) (by omega);obtain⟨A,q⟩:∃A,oL k (l.take m)=A:=⟨_,rfl⟩;obtain⟨B,p⟩:∃B,oL k (l.drop m)=B:=⟨_,rfl⟩;rw[q]at i e ⊢;rw[p]at g d ⊢;have f:=aen A B e d;have hl:=rD (1::(A++B));obtain⟨r,b⟩:∃r,kz (1::(A++B))=r:=⟨_,rfl⟩;rw[b]at f hl ⊢;have a:r.take 32=r:=af (by omega);have n0:¬l.length=0:=by omega
   have s:(l.drop m).take (l.length-m)=l.drop m:=af (by omega);refine Yg za ?_;simp[za,n0,h1];(with_reducible repeat' first|refine Xk ?_<;>try simp|refine Xs ?_ ?_<;>intro h<;>(try intro u)<;>(try simp[h])<;>try omega|refine Xg ?_|omega);refine Yc (cm) ?_;simp;refine gd ?_;refine Yt (i) ?_;simp;refine jP s ?_;refine Yt (g) ?_;simp;refine Yt (f) ?_;simp[hl,a]
@[irreducible] def ki(v:List fZ):List Int:=oL (v.length+1) (v.map rM)
theorem xv(v:List fZ):(ki v).length=32:=by rw[ki];exact IJ (by simp)
theorem U3(r:fZ):(rM r).length=5:=rfl
theorem TJ(a:Int):my .i64 a 0=a:=by show a.fdiv (2 ^ (min (0:Int).toNat 64))=a;simp
theorem adZ(r:fZ):Wf T 87 [.agg [.i r.1,.i r.2]] [] (Is (dU (rM r))):=by refine Yg JB ?_;simp[JB];unfold mS;simp[chunks,xZ,rM,TJ]
theorem ad3(r:fZ):Wf T 96 [.agg [.i r.1,.i r.2]] [] (Is (dU (rM r))):=by refine Yg JE ?_;simp[JE];refine gj.un ?_;refine kP.u ?_;simp;refine kP.s (by simp;rfl) ?_;refine kP.u ?_;simp;refine kP.s (by simp;rfl) ?_;refine kP.u ?_;simp;refine kP.s (by simp;rfl) ?_;refine kP.u ?_;simp;refine kP.s (by simp;rfl) ?_;refine kP.u ?_;simp[TJ];unfold mS;simp[chunks,xZ,rM,TJ]
theorem Vc(x:List Int) : [dU x]=cl fB [x]:=by rw[iQ,Gt]
@[simp] theorem acq(l:List (List Int))(x:List Int):cl fB l ++ [dU x]=cl fB (l ++ [x]):=by rw[<-q',Gt]
theorem V9(v:List fZ)(h0:0<v.length)(q:v.length<=64):Wf T 49 [gY v] [] (Is (.agg (cl fU (ki v)))):=by
 have c:Wf T 97 [pd (v.map rM)] [] (Is (.agg (cl fU (ki v)))):=by
  have:=Qj (v.length+1) (v.map rM) (by simp) (by simpa using h0) (by simpa using q) λx o=>by obtain⟨r,_,rfl⟩:=ar.1 o;rw[U3];omega
  rw[ki];exact this
 have hl:=xv v;obtain⟨r,p⟩:∃r,ki v=r:=⟨_,rfl⟩;rw[p]at c hl ⊢;have k:r.take 32=r:=af (by omega);refine Yg y7 ?_;simp[y7];refine gj.e ((0,[]):Int×List (List Int)) (λy=>[(2,.ptr 0 0 0),(3,if y.2 = []then .gg else .fY 1 (y.2.length-1) 1 0 y.2.length),(6,gY v),(7,.i v.length),(8,.i y.1)]) (λy=>.row 70 0 (cl fU (zs 32))::(if y.2 = []then []else [.row 22 (y.2.length-1) (cl fB y.2)])) (λy=>(0<=y.1/\y.1<=v.length)/\y.2=(v.take y.1.toNat).map rM) (λy=>(v.length-y.1).toNat) ?_ ?_
 .simp
 rintro⟨i,A⟩ ⟨⟨i0,n⟩,d⟩;dsimp only at i0 n d ⊢;have g:A.length=i.toNat:=by rw[d];simp;omega
 by_cases hi:i<v.length
 .have e:=E8 (l:=v) i0 hi;have f:=ad3 (gt v i);obtain⟨b,j⟩:∃b,rM (gt v i)=b:=⟨_,rfl⟩;rw[j]at f;have h:A ++ [b]=(v.take (i+1).toNat).map rM:=by rw[e,List.map_append,<-d,<-j];rfl
  by_cases a:A = []
  .subst a;simp[hi];refine gd ?_;refine Yc (f) ?_;simp;refine gd ?_;refine LJ.i (i+1,[b]) (by first|rfl|simp[Vc]) (by first|rfl|simp[Vc]) rfl rfl ?_;exact⟨by omega,iy,h⟩
  .have s:0<A.length:=ax.2 a;rw[if_neg a,if_neg a];simp[hi];refine gd ?_;refine Yc (f) ?_;simp;refine gd ?_;refine LJ.i (i+1,A ++ [b]) (by first|rfl|simp[show A.length-1+1=A.length by omega]) (by first|rfl|simp[show A.length-1+1=A.length by omega]) rfl rfl ?_;exact⟨by omega,iy,h⟩
 .have m:i=v.length:=by omega
  subst m;rw[af (by omega)]at d;have a:A≠[]:=λe=>by rw[e]at g;simp at g;omega
  rw[<-d]at c;rw[if_neg a,if_neg a];simp[hi];refine gd ?_;refine gx.r rfl rfl c (by simp[Dx]) (by simp[flat]) (by simp) ?_;simp[hl,k]
theorem V7(v:List fZ)(h0:0<v.length)(o:v.length<=64):Wf T 41 [gY v] [] (Is (.agg (cl fU (ki v)))):=by
 have c:Wf T 88 [pd (v.map rM)] [] (Is (.agg (cl fU (ki v)))):=by
  have:=Qi (v.length+1) (v.map rM) (by simp) (by simpa using h0) (by simpa using o) λx k=>by obtain⟨r,_,rfl⟩:=ar.1 k;rw[U3];omega
  rw[ki];exact this
 have hl:=xv v;obtain⟨r,m⟩:∃r,ki v=r:=⟨_,rfl⟩;rw[m]at c hl ⊢;have g:r.take 32=r:=af (by omega);refine Yg y6 ?_;simp[y6];refine gj.e ((0,[]):Int×List (List Int)) (λy=>[(0,gY v),(2,.ptr 0 0 0),(3,.fY 1 y.2.length 1 0 y.2.length),(4,.i y.1)]) (λy=>[.row 70 0 (cl fU (zs 32)),.row 22 y.2.length (cl fB y.2)]) (λy=>(0<=y.1/\y.1<=v.length)/\y.2=(v.take y.1.toNat).map rM) (λy=>(v.length-y.1).toNat) ?_ ?_
 .simp
 rintro⟨i,A⟩ ⟨⟨i0,j⟩,a⟩;dsimp only at i0 j a ⊢;have p:A.length=i.toNat:=by rw[a];simp;omega
 by_cases hi:i<v.length
 .have e:=E8 (l:=v) i0 hi;have f:=adZ (gt v i);obtain⟨b,d⟩:∃b,rM (gt v i)=b:=⟨_,rfl⟩;rw[d]at f;have n:A ++ [b]=(v.take (i+1).toNat).map rM:=by rw[e,List.map_append,<-a,<-d];rfl
  simp[hi];refine gd ?_;refine Yc (f) ?_;simp;refine gd ?_;refine LJ.e (i+1,A ++ [b]) ?_;exact⟨by omega,iy,n⟩
 .have h:i=v.length:=by omega
  subst h;rw[af (by omega)]at a;rw[<-a]at c;simp[hi];refine gd ?_;refine gx.r rfl rfl c (by simp[Dx]) (by simp[flat]) (by simp) ?_;simp[hl,g]
theorem V4{f:FuncId}{args:List D}{d:D}(h:Wf T f args [] (Is d)):Ev T (.call f args []) (lg [(d,[])]):=by refine Ev.mono h λr a=>?_;obtain⟨d',H',a,rfl,rfl⟩:=a;exact⟨_,List.mem_singleton.2 rfl,a⟩
theorem M9(v:List fZ)(b:List Int){a d:D}(f:a=gY v)(c:d = .agg (b.map λn=>.val (.int .u8 n)))(e:ki v=b)(h0:0<v.length)(g:v.length<=64):Ev T (.call 49 [a] []) (lg [(d,[])]):=by subst f c;rw[zr,<-e];exact V4 (V9 v h0 g)
theorem M8(v:List fZ)(b:List Int){a d:D}(f:a=gY v)(c:d = .agg (b.map λn=>.val (.int .u8 n)))(e:ki v=b)(h0:0<v.length)(g:v.length<=64):Ev T (.call 41 [a] []) (lg [(d,[])]):=by subst f c;rw[zr,<-e];exact V4 (V7 v h0 g)
theorem aes:Wf T 207 [.gg] [] (Is (dU (pad []))):=by
 obtain⟨B,c⟩:∃B,xR 0=B:=⟨_,rfl⟩;have A:B.length=8:=by rw[<-c];rfl
 have w:∀i:Int,0<=i->i<8->gt B i=IntKind.u8.wrap (my .u64 0 (56-8*i)):=λi i0 d=>by rw[<-c];exact Mr _ i0 d
 obtain⟨p,h⟩:∃p,Az 0=p:=⟨_,rfl⟩;have z:p=63-(0+8) % 64:=by rw[<-h];rfl
 have hP:pad []=128::zs p++B:=by rw[pad];show []++128::(List.replicate (Az 0) 0++xR 0)=_;rw[c,h,vb];simp
 obtain⟨C,n⟩:∃C,128::zs p=C:=⟨_,rfl⟩;rw[hP,n];clear hP c h;have m:IntKind.u64.wrap (0:Int)=0:=rfl;have j:IntKind.u64.wrap (0)=8*0:=rfl;refine Yg C5 ?_;simp[C5];refine gd ?_;refine gj.e ((2,[128]):Nat×List Int) (λy=>[(0,.gg),(3,.fY 0 y.1 1 0 y.2.length)]) (λy=>[.row 5 y.1 (cl fU y.2),.row 5 0 [.val (.int .u8 128)]]) (λy=>∃k:Nat,k<=p/\y.2=128::zs k) (λy=>0+1+p-y.2.length) ?_ ?_
 .exact⟨0,by omega,by simp⟩
 rintro⟨g,q⟩ ⟨k,k0,a⟩;dsimp only at k0 a ⊢;have D:q.length=0+1+k:=by rw[a];simp;omega
 have f:gA ((q.length:Int)+8) 64=((q.length:Int)+8) % 64:=jH (by omega)
 by_cases t:k<p
 .have h1:¬((q.length:Int)+8) % 64=0:=by omega
  have s:q ++ [0]=128::zs (k+1):=by rw[a,<-Pw];simp
  simp[f,h1];refine jP f ?_;refine LJ.e (g+1,q ++ [0]) ?_;exact⟨by simp;omega,k+1,t,s⟩
 .have o:k=p:=by omega
  subst o;have h1:((q.length:Int)+8) % 64=0:=by omega
  rw[n]at a;subst a;simp[f,h1,m,j];refine lh m j ?_;refine gj.e ((0,g,q):Int×Nat×List Int) (λy=>[(3,.fY 0 y.2.1 1 0 y.2.2.length),(4,.val (.int .u64 0)),(5,.i y.1)]) (λy=>[.row 5 y.2.1 (cl fU y.2.2),.row 5 0 [.val (.int .u8 128)]]) (λy=>(0<=y.1/\y.1<=8)/\y.2.2=q++B.take y.1.toNat) (λy=>(8-y.1).toNat) ?_ ?_
  .simp
  rintro⟨i,v,u⟩ ⟨⟨i0,d⟩,b⟩;dsimp only at i0 d b ⊢;have x:u.length=q.length+i.toNat:=by rw[b];simp;omega
  by_cases hi:i<8
  .have e:=Pm (l:=B) i0 (by omega);rw[w i i0 hi]at e;simp[hi];refine gd ?_;refine LJ.e (i+1,v+1,u ++ [IntKind.u8.wrap (my .u64 0 (56-8*i))]) ?_;exact⟨by omega,iy,by rw[e,b,aL]⟩
  .have r:i=8:=by omega
   subst r;have e:u=q++B:=by rw[b,af (by omega)]
   subst e;simp;refine gd ?_;rw[xZ,List.map_append]
theorem aef:Wf T 141 [.gg] [] (Is (.agg (cl fU (kz [])))):=by
 have p:=aes;have q:=Wh;have C:=aac [];simp only[cW]at C;obtain⟨P,hP⟩:∃P,pad []=P:=⟨_,rfl⟩;obtain⟨S,hS⟩:∃S,Br=S:=⟨_,rfl⟩;have v:S.length=8:=by rw[<-hS];rfl
 obtain⟨r,o⟩:∃r,kz []=r:=⟨_,rfl⟩;have d:yP (qc P S (P.length / 64))=r:=by rw[<-o,kz,hP,hS]
 rw[hP]at p C;rw[hS]at q;rw[o];clear hP hS o;refine Yg C3 ?_;simp[C3];refine Yc (p) ?_;simp;refine Yc (q) ?_;simp[v];refine gj.e ((0,S):Int×List Int) (λy=>[(2,.ptr 0 0 0),(3,dU P),(4,.ptr 1 0 0),(5,.i y.1)]) (λy=>[.row 70 0 (cl fU (zs 32)),.row 323 0 (cl fW y.2)]) (λy=>∃n:Nat,y.1=64*n/\y.1<=P.length/\y.2=qc P S n) (λy=>(P.length+64-y.1).toNat) ?_ ?_
 .exact⟨0,by simp,by simp,by simp[Mt]⟩
 rintro⟨i,s⟩ ⟨n,gH,l,hs⟩;dsimp only at gH l hs ⊢;have a:s.length=8:=by rw[hs];exact Dp P v n
 by_cases hi:i<P.length
 .have f:s.take 8=s:=af (by omega);have x:((P.drop i.toNat).take 64).length=64:=by rw[aK,aR];omega
  have e:=Mu P S n;rw[<-hs,show 64*n=i.toNat by omega]at e;have G:(i+64).toNat-i.toNat=64:=by omega
  obtain⟨B,F⟩:∃B,(P.drop i.toNat).take 64=B:=⟨_,rfl⟩;rw[F]at x e;have c:=Wi s B a x;have z:=Mp (s:=s) (b:=B) a;obtain⟨A,I⟩:∃A,tA s B=A:=⟨_,rfl⟩;rw[I]at c e z;simp[hi,a,f];refine qz a f G ?_;rw[G,F];have w:s.drop 8 = []:=bV (by omega);refine Yt (c) ?_;simp[z,a,f];refine gd ?_;refine LJ.i (i+64,A) (by first|rfl|simp[w]) (by first|rfl|simp[w]) rfl rfl ?_;exact⟨by omega,n+1,by omega,by omega,e.symm⟩
 .have k:n=P.length / 64:=by omega
  rw[<-k,<-hs]at d;have J:r.length=32:=by rw[<-d];exact EG s
  have t:∀j:Int,0<=j->j<32->gt r j=IntKind.u8.wrap (my .u32 (gt s (j / 4)) (24-8*(j % 4))):=λj j0 j1=>by rw[<-d];exact OG s j0 j1
  clear d hs p q;simp[hi];refine gd ?_;refine gj.e ((0,zs 32):Int×List Int) (λy=>[(2,.ptr 0 0 0),(4,.ptr 1 0 0),(6,.ptr 2 0 0),(7,.i y.1)]) (λy=>[.row 70 0 (cl fU (zs 32)),.row 323 0 (cl fW s),.row 70 0 (cl fU y.2)]) (λy=>(0<=y.1/\y.1<=32)/\y.2.length=32/\∀j:Int,0<=j->j<y.1->gt y.2 j=gt r j) (λy=>(32-y.1).toNat) ?_ ?_
  .exact⟨by simp,by simp,λj j0 j1=>absurd j1 (by dsimp only;omega)⟩
  rintro⟨i,u⟩ ⟨⟨i0,l⟩,g,m⟩;dsimp only at i0 l g m ⊢
  by_cases hi:i<32
  .have D:uq i 4=i / 4:=uu i0 (by omega) (by omega);have E:gA i 4=i % 4:=jH i0;simp[hi,D,E];refine lh D E ?_;refine LJ.i (i+1,pt u i (gt r i)) (by first|rfl|simp[t i i0 hi]) (by first|rfl|simp[t i i0 hi]) rfl rfl ?_;refine⟨by omega,iy,by rw[iP i0 (by omega)];exact g,λj j0 j1=>?_⟩;dsimp only at j1 ⊢;rw[pR i0 (by omega) j0]
   by_cases e:j=i
   .rw[if_pos e,e]
   .rw[if_neg e];exact m j j0 (by omega)
  .have k:i=32:=by omega
   subst k
   have e:u=r:=by refine br (by omega) λj j0 j1=>?_;have h:=m j (by omega) (by omega);rw[jg (by omega) (by omega),jg (by omega) (by omega)]at h;exact h
   subst e;have H:u.take 32=u:=af (by omega);simp[g,H]
theorem aej:Wf T 155 [.gg] [] (Is (.agg (cl fU (kz [])))):=by
 have Q:=aew;obtain⟨B,t⟩:∃B,xR 0=B:=⟨_,rfl⟩;have Y:B.length=8:=by rw[<-t];rfl
 have R:∀i:Int,0<=i->i<8->gt B i=IntKind.u8.wrap (my .u64 0 (56-8*i)):=λi i0 n=>by rw[<-t];exact Mr _ i0 n
 obtain⟨p,A⟩:∃p,Az 0=p:=⟨_,rfl⟩;have W:p=63-(0+8) % 64:=by rw[<-A];rfl
 have hP:pad []=128::zs p++B:=by rw[pad];show []++128::(List.replicate (Az 0) 0++xR 0)=_;rw[t,A,vb];simp
 obtain⟨C,D⟩:∃C,128::zs p=C:=⟨_,rfl⟩;rw[D]at hP;have U:C.length=0+1+p:=by rw[<-D];simp;omega
 obtain⟨r,z⟩:∃r,kz []=r:=⟨_,rfl⟩;obtain⟨S,hS⟩:∃S,Br=S:=⟨_,rfl⟩;have w:S.length=8:=by rw[<-hS];rfl
 have m:yP (qc (C++B) S ((C++B).length / 64))=r:=by rw[<-z,kz,hP,hS]
 rw[z];clear hP t A z;have I:S.take 8=S:=af (by omega);have o:IntKind.u64.wrap (0:Int)=0:=rfl;have d:IntKind.u64.wrap (0)=8*0:=rfl;refine Yz zb (iZ 36 [2] zb.body) ?_;simp[zb,iZ,kD,np,nz,nP,ma,UZ,hS];refine Yc (Q) ?_;simp;refine gd ?_;refine gj.e ((0,[128]):Nat×List Int) (λy=>[(0,.gg),(2,.ptr 0 0 0),(3,.fY 2 y.1 1 0 y.2.length)]) (λy=>[.row 70 0 (cl fU (zs 32)),.row 5 0 [.val (.int .u8 128)],.row 5 y.1 (cl fU y.2)]) (λy=>∃k:Nat,k<=p/\y.2=128::zs k) (λy=>0+1+p-y.2.length) ?_ ?_
 .exact⟨0,by omega,by simp⟩
 rintro⟨g,q⟩ ⟨k,k0,s⟩;dsimp only at k0 s ⊢;have Z:q.length=0+1+k:=by rw[s];simp;omega
 have b:gA ((q.length:Int)+8) 64=((q.length:Int)+8) % 64:=jH (by omega)
 by_cases M:k<p
 .have h1:¬((q.length:Int)+8) % 64=0:=by omega
  have L:q ++ [0]=128::zs (k+1):=by rw[s,<-Pw];simp
  simp[b,h1];refine jP b ?_;refine LJ.e (g+1,q ++ [0]) ?_;exact⟨by simp;omega,k+1,M,L⟩
 .have H:k=p:=by omega
  subst H;have h1:((q.length:Int)+8) % 64=0:=by omega
  rw[D]at s;subst s;simp[b,h1,o,d];refine lh o d ?_;refine gj.st (by simp;rfl) ?_;refine gj.e ((0,g,q):Int×Nat×List Int) (λy=>[(0,.gg),(2,.ptr 0 0 0),(3,.fY 2 y.2.1 1 0 y.2.2.length),(4,.i (56-8*y.1))]) (λy=>[.row 70 0 (cl fU (zs 32)),.row 5 0 [.val (.int .u8 128)],.row 5 y.2.1 (cl fU y.2.2)]) (λy=>(0<=y.1/\y.1<=8)/\y.2.2=q++B.take y.1.toNat) (λy=>(8-y.1).toNat) ?_ ?_
  .simp
  rintro⟨i,O,u⟩ ⟨⟨i0,n⟩,a⟩;dsimp only at i0 n a ⊢;have c:u.length=q.length+i.toNat:=by rw[a];simp;omega
  by_cases hi:i<8
  .have e:=Pm (l:=B) i0 (by omega);rw[R i i0 hi]at e;have J:0<=56-8*i:=by omega
   simp[J,d,o];(with_reducible repeat' first|refine Xk ?_<;>try simp[d,o]|refine Xs ?_ ?_<;>intro h<;>(try intro X)<;>(try simp[h,d,o])<;>try omega|refine Xg ?_|omega);refine LJ.i (i+1,O+1,u ++ [IntKind.u8.wrap (my .u64 0 (56-8*i))]) (by first|rfl|simp[show 56-8*(i+1)=56-8*i-8 by omega]) (by first|rfl|simp[show 56-8*(i+1)=56-8*i-8 by omega]) rfl rfl ?_;exact⟨by omega,iy,by rw[e,a,aL]⟩
  .have x:i=8:=by omega
   subst x;obtain⟨P,hP⟩:∃P,q++B=P:=⟨_,rfl⟩;have Bw:P.length=q.length+8:=by rw[<-hP];simp;omega
   have e:u=P:=by rw[a,af (by omega),hP]
   rw[hP]at m;clear c a hP;subst e;simp;refine gd ?_;refine gx.n (by simp[w,I];rfl) ?_;rw[<-xZ];refine Yc (Wj u) ?_;simp;refine sT.r (f:=274) (first:=[]) (cap:=[.gu [dU u],.gu [.i 64]]) rfl rfl rfl rfl ?_;simp;refine Wf.mono (Wn u S (by omega) (by omega) w) ?_;rintro _ H' rfl;have K:=Dp u w (u.length / 64);obtain⟨v,F⟩:∃v,qc u S (u.length / 64)=v:=⟨_,rfl⟩;rw[F]at m K ⊢;clear F;have V:r.length=32:=by rw[<-m];exact EG v
   have E:∀j:Int,0<=j->j<32->gt r j=IntKind.u8.wrap (my .u32 (gt v (j / 4)) (24-8*(j % 4))):=λj j0 j1=>by rw[<-m];exact OG v j0 j1
   clear m;refine⟨[(5,.ptr 3 0 0)],.ready,by simp,?_⟩;simp;refine gj.st (by simp;rfl) ?_;refine gj.kg [4] false ((0,zs 32):Int×List Int) (λy=>[(2,.ptr 0 0 0),(5,.ptr 3 0 0),(7,.ptr 5 0 0),(42,.i y.1)]) (λy=>[.row 70 0 (cl fU (zs 32)),.row 5 0 [.val (.int .u8 128)],.dead,.row 323 0 (cl fW v),.ja,.row 70 0 (cl fU y.2)]) (λy=>(0<=y.1/\y.1<=32)/\y.2.length=32/\∀j:Int,0<=j->j<y.1->gt y.2 j=gt r j) (λy=>(32-y.1).toNat) ?_ (by simp) (by first|rfl|(simp[iQ];done)|(simp[*];done)) rfl rfl rfl ?_
   .exact⟨by simp,by simp,λj j0 j1=>absurd j1 (by dsimp only;omega)⟩
   rintro⟨i,u⟩ ⟨⟨i0,n⟩,c,a⟩;dsimp only at i0 n c a ⊢
   by_cases hi:i<32
   .have b:uq i 4=i / 4:=uu i0 (by omega) (by omega);have G:gA i 4=i % 4:=jH i0;simp[hi,b,G];refine lh b G ?_;refine LJ.i (i+1,pt u i (gt r i)) (by first|rfl|simp[E i i0 hi]) (by first|rfl|simp[E i i0 hi]) rfl rfl ?_;refine⟨by omega,iy,by rw[iP i0 (by omega)];exact c,λj j0 j1=>?_⟩;dsimp only at j1 ⊢;rw[pR i0 (by omega) j0]
    by_cases e:j=i
    .rw[if_pos e,e]
    .rw[if_neg e];exact a j j0 (by omega)
   .have x:i=32:=by omega
    subst x
    have e:u=r:=by refine br (by omega) λj j0 j1=>?_;have h:=a j (by omega) (by omega);rw[jg (by omega) (by omega),jg (by omega) (by omega)]at h;exact h
    subst e;have N:u.take 32=u:=af (by omega);simp[c,N]
theorem OT:ki []=kz []:=by rw[ki];exact aaF 0
theorem Wa:Wf T 88 [pd []] [] (Is (.agg (cl fU (kz [])))):=by have c:=aef;have hl:=rD [];obtain⟨r,b⟩:∃r,kz []=r:=⟨_,rfl⟩;rw[b]at c hl ⊢;have a:r.take 32=r:=af (by omega);refine Yg y8 ?_;simp[y8];refine Yc (c) ?_;simp[hl,a]
theorem Wb:Wf T 97 [.gg] [] (Is (.agg (cl fU (kz [])))):=by have c:=aej;have hl:=rD [];obtain⟨r,b⟩:∃r,kz []=r:=⟨_,rfl⟩;rw[b]at c hl ⊢;have a:r.take 32=r:=af (by omega);refine Yg za ?_;simp[za];refine Yc (c) ?_;simp[hl,a]
def dV(v:List fZ)(d:D):Prop:=d=gY v\/(v = []/\d = .gg)
theorem adL:Wf T 41 [gY []] [] (Is (.agg (cl fU (ki [])))):=by
 rw[OT];have c:=Wa;have hl:=rD [];obtain⟨r,b⟩:∃r,kz []=r:=⟨_,rfl⟩;rw[b]at c hl ⊢;have a:r.take 32=r:=af (by omega);refine Yg y6 ?_;simp[y6];refine gj.un ?_;refine kP.u ?_;simp
 trace_state
 refine gx.r rfl rfl c (by simp[Dx]) (by simp[flat]) (by simp) ?_;simp[hl,a]
theorem adK:Wf T 41 [.gg] [] (Is (.agg (cl fU (ki [])))):=by rw[OT];have c:=Wa;have hl:=rD [];obtain⟨r,b⟩:∃r,kz []=r:=⟨_,rfl⟩;rw[b]at c hl ⊢;have a:r.take 32=r:=af (by omega);refine Yg y6 ?_;simp[y6];refine gj.un ?_;refine kP.u ?_;simp;refine gx.r rfl rfl c (by simp[Dx]) (by simp[flat]) (by simp) ?_;simp[hl,a]
theorem adQ:Wf T 49 [gY []] [] (Is (.agg (cl fU (ki [])))):=by rw[OT];have c:=Wb;have hl:=rD [];obtain⟨r,b⟩:∃r,kz []=r:=⟨_,rfl⟩;rw[b]at c hl ⊢;have a:r.take 32=r:=af (by omega);refine Yg y7 ?_;simp[y7];refine gj.un ?_;refine kP.u ?_;simp;refine Yc (c) ?_;simp[hl,a]
theorem adP:Wf T 49 [.gg] [] (Is (.agg (cl fU (ki [])))):=by rw[OT];have c:=Wb;have hl:=rD [];obtain⟨r,b⟩:∃r,kz []=r:=⟨_,rfl⟩;rw[b]at c hl ⊢;have a:r.take 32=r:=af (by omega);refine Yg y7 ?_;simp[y7];refine gj.un ?_;refine kP.u ?_;simp;refine Yc (c) ?_;simp[hl,a]
theorem V8{v:List fZ}{d:D}(a:dV v d)(b:v.length<=64):Wf T 41 [d] [] (Is (.agg (cl fU (ki v)))):=by
 rcases a with rfl|⟨rfl,rfl⟩
 .by_cases h:v = []
  .subst h;exact adL
  .exact V7 v (ax.2 h) b
 .exact adK
theorem Gq{v:List fZ}{d:D}(a:dV v d)(b:v.length<=64):Wf T 49 [d] [] (Is (.agg (cl fU (ki v)))):=by
 rcases a with rfl|⟨rfl,rfl⟩
 .by_cases h:v = []
  .subst h;exact adQ
  .exact V9 v (ax.2 h) b
 .exact adP
end Go.Proofs.YtmehofoficaelaaGreatDoor
namespace Go.Proofs.YtmehofoficaelaaGreatDoor
open Go Go.AL Classical
set_option maxRecDepth 10000
set_option maxHeartbeats 8000000
structure sq(g:gi)(m:List Int):Prop where
 len:m.length=g.kinds.length
 num:∀a∈m,1<=a/\a<=6
def lvC(m:List Int)(x:Int):Int:=if 0<=gJ x then gt m (gJ x)else 0
def SC(m cs:List Int):Nat->Int
 | 0=>0
 | i+1=>SC m cs i+lvC m (gt cs (i:Int))
def SD(m a b:List Int):Nat->Int
 | 0=>0
 | i+1=>SD m a b i+gt m (i:Int)*(gt a (i:Int)+gt b (i:Int))
def amU(r:Int):Int:=if r=0 then 0 else if r=3 then 2 else 1
def H9(m:List Int)(p:Pos):Int:=SC m p.cs p.cs.length+SD m p.h0 p.h1 m.length+amU p.gL
@[simp] theorem av7(m cs:List Int):SC m cs 0=0:=rfl
@[simp] theorem av8(m a b:List Int):SD m a b 0=0:=rfl
section
variable{g:gi}{m:List Int}{p:Pos}
end
end Go.Proofs.YtmehofoficaelaaGreatDoor
namespace Go.AL
open Go
def Qg:Nat->List (Int×List Int)->List (Value×D)
 | _,[]=>[]
 | k,e::r=>(.int .i64 e.1,.fY k (e.2.length-1) 1 0 e.2.length)::Qg (k+1) r
def rwF(ls:List (Int×List Int)):U:=ls.map λe=>.row 3 (e.2.length-1) (cl f1 e.2)
def LH(m:List Int)(ls:List (Int×List Int)):U:=.row 56 0 [dI m] :: .map (.int .i64) (Qg 2 ls)::rwF ls
end Go.AL
namespace Go.Proofs.YtmehofoficaelaaGreatDoor
open Go Go.AL Classical
noncomputable def ae6(m:List Int)(l:List Pos)(n:Int)(k:Nat):List Int:=(upto k).filter λi=>decide (H9 m (gt l i)=n)
structure GI(m:List Int)(l:List Pos)(i:Int)(ls:List (Int×List Int)):Prop where
 nd:(ls.map (·.1)).Nodup
 mem:∀n,n∈ls.map (·.1)↔∃j:Int,0<=j/\j<i/\H9 m (gt l j)=n
 prt:∀e∈ls,e.2=ae6 m l e.1 i.toNat
section
variable{m:List Int}{l:List Pos}{i:Int}{ls:List (Int×List Int)}
end
end Go.Proofs.YtmehofoficaelaaGreatDoor
namespace Go.Proofs.YtmehofoficaelaaGreatDoor
open Go Go.AL Classical
section
variable{g:gi}{l:List Pos}{nx:List (List Int)}{part:List Int}
end
structure Chn(L:Nat)(v:List fZ)(b:List Bool):Prop where
 vl:v.length=L
 bl:b.length=L
 n:∀i:Int,0<=i->i<L->gt b i=false->(gt v i).1≠2->0<=(gt v i).2/\(0<(gt v i).2->∃j:Int,0<=j/\j<L/\gt b j=false/\(gt v j).1≠2/\(gt v j).2=(gt v i).2-1)
theorem TW(v:List fZ)(b:List Bool)(x:List Int):∀k:Nat,k<=x.length->(lO v b x k).2 = -1\/∃j∈x,gt b j=false/\(gt v j).1=1/\(gt v j).2=(lO v b x k).2
 | 0,_=>.inl rfl
 | k+1,hk=>by
  have c:=TW v b x k (by omega);have d:gt x (k:Int)∈x:=gy (by omega) (by omega);rw[lO];split
  .rename_i h;dsimp only;rcases Int.le_total (lO v b x k).2 (gt v (gt x (k:Int))).2 with a|a
   .rw[Int.max_eq_right a];exact .inr ⟨_,d,h.1,h.2,rfl⟩
   .rw[Int.max_eq_left a];exact c
  .exact c
section
variable{g:gi}{l:List Pos}{nx:List (List Int)}{part:List Int}{bu:Int}
theorem MS(o:xH g l nx part bu){v:List fZ}{b:List Bool}(a:b.length=l.length){n:Int}:∀i∈sv g l nx part v b n,0<=i/\i<b.length:=λi hi=>by rw[a];exact o.prt i (ada hi)
theorem am5(o:xH g l nx part bu){v:List fZ}{b:List Bool}(a:v.length=l.length)(c:b.length=l.length){n:Int}:(rV g l nx part v b n).length=l.length:=by unfold rV;rw[Iy _ _ _ (by rw[a,<-c];exact MS o c),a]
theorem am4(o:xH g l nx part bu){v:List fZ}{b:List Bool}(a:b.length=l.length){n:Int}:(rB g l nx part v b n).length=l.length:=by unfold rB;rw[Iy _ _ _ (MS o a),a]
theorem W4(o:xH g l nx part bu){v:List fZ}{b:List Bool}(c:v.length=l.length)(a:b.length=l.length){n j:Int}(j0:0<=j)(j1:j<l.length):gt (rV g l nx part v b n) j=if j∈sv g l nx part v b n then M0 g l nx v b n j else gt v j:=
 GJ _ _ _ (by rw[c,<-a];exact MS o a) j j0 (by omega)
theorem QH(o:xH g l nx part bu){v:List fZ}{b:List Bool}(a:b.length=l.length){n j:Int}(j0:0<=j)(j1:j<l.length):gt (rB g l nx part v b n) j=if j∈sv g l nx part v b n then false else gt b j:=
 GJ _ _ _ (MS o a) j j0 (by omega)
theorem Wy(o:xH g l nx part bu){v:List fZ}{b:List Bool}(a:v.length=l.length)(c:b.length=l.length):((wV part v b).1.length=l.length/\(wV part v b).2.length=l.length) /\
  ∀j:Int,0<=j->j<l.length->gt (wV part v b).1 j=(if j∈part/\gt b j=true then(2,0)else gt v j)/\gt (wV part v b).2 j=(if j∈part then false else gt b j):=by
 have hi:∀i∈part.filter (λi=>gt b i),0<=i/\i<l.length:=λi hi=>o.prt i (aN.1 hi).1;unfold wV;dsimp only;refine⟨⟨by rw[Iy _ _ _ (by rw[a];exact hi),a],by rw[Iy _ _ _ (by rw[c];exact hi),c]⟩,λj j0 j1=>?_⟩;rw[GJ _ _ _ (by rw[a];exact hi) j j0 (by omega),GJ _ _ _ (by rw[c];exact hi) j j0 (by omega)];simp only[aN];refine⟨trivial,?_⟩
 by_cases h1:j∈part
 .by_cases d:gt b j=true
  .simp[h1,d]
  .simp[h1,d]
 .simp[h1]
end
section
variable{g:gi}{l:List Pos}{nx:List (List Int)}
end
end Go.Proofs.YtmehofoficaelaaGreatDoor
namespace Go.Proofs.YtmehofoficaelaaGreatDoor
open Go Go.AL Classical
noncomputable def Oz(m:List Int)(l:List Pos)(last:Int):Nat->Int
 | 0 => -1
 | i+1=>if last<H9 m (gt l (i:Int))/\(Oz m l last i<0\/H9 m (gt l (i:Int))<Oz m l last i)then H9 m (gt l (i:Int))else Oz m l last i
@[simp] theorem awp(m:List Int)(l:List Pos)(last:Int):Oz m l last 0 = -1:=rfl
set_option maxRecDepth 10000
set_option maxHeartbeats 8000000
def ab3(b:Int)(l:List fZ):Bool:=l.any λs=>s.1 == 8&&s.2 == b
def bec(g:gi)(a b:Int):Bool:=(gt g.kinds a).jt.any (ab3 b)
structure ao4(g:gi)(m:List Int):Prop where
 ok:sq g m
 le:∀a b:Int,0<=a->a<g.kinds.length->0<=b->b<g.kinds.length->bec g a b=true->gt m b<=gt m a
theorem afn{α:Type}[Inhabited α]{l a:List α}{n:Int}(h0:0<=n)(h:n<l.length):gt (l++a) n=gt l n:=by unfold gt;rw[List.getD_eq_getElem?_getD,List.getD_eq_getElem?_getD,ah (by omega)]
end Go.Proofs.YtmehofoficaelaaGreatDoor
namespace Go.Proofs.YtmehofoficaelaaGreatDoor
open Go Go.AL Classical
section
variable{g:gi}{l:List Pos}{nx:List (List Int)}{part:List Int}{bu:Int}
structure Agr(L:Nat)(S:Int->Prop)(v:List fZ)(b:List Bool)(v':List fZ)(b':List Bool):Prop where
 vl:v.length=L
 bl:b.length=L
 vl':v'.length=L
 bl':b'.length=L
 eb:∀k:Int,0<=k->k<L->S k->gt b k=gt b' k
 ev:∀k:Int,0<=k->k<L->S k->gt b k=false->gt v k=gt v' k
structure ao5(l:List Pos)(nx:List (List Int))(part:List Int)(S:Int->Prop):Prop where
 own:∀i∈part,S i
 next:∀i∈part,∀k∈gt nx i,S k
def rep(n:Nat):List Bool:=List.replicate n false
end
section
variable{g:gi}{l:List Pos}{m:List Int}
end
end Go.Proofs.YtmehofoficaelaaGreatDoor
namespace Go.Proofs.YtmehofoficaelaaGreatDoor
open Go Go.AL Classical
structure mg where
 ov:Int->Bool
 rs:Int->Int
 nx:List (List Int)
def kA(A:mg)(v:List fZ)(i:Int):Prop:=
 (A.ov i=true/\gt v i=(A.rs i,0))\/(A.ov i=false/\(
  (∃n,1<=n/\gt v i=(1,n)/\(∃k∈gt A.nx i,gt v k=(3,n-1))/\∀k∈gt A.nx i,(gt v k).1=3->n-1<=(gt v k).2) \/
  (∃n,1<=n/\gt v i=(3,n)/\(∀k∈gt A.nx i,(gt v k).1=1/\(gt v k).2<=n-1)/\∃k∈gt A.nx i,(gt v k).2=n-1) \/
  (gt v i=(2,0)/\(∀k∈gt A.nx i,(gt v k).1≠3)/\¬(gt A.nx i≠[]/\∀k∈gt A.nx i,(gt v k).1=1))))
theorem kA.n0{A:mg}{v:List fZ}{i:Int}(h:kA A v i):0<=(gt v i).2:=by rcases h with⟨_,e⟩|⟨_,⟨n,h,e,_⟩|⟨n,h,e,_⟩|⟨e,_⟩⟩<;>rw[e]<;>simp<;>omega
theorem kA.congr{A:mg}{v v':List fZ}{i:Int}(h:kA A v i)(hi:gt v' i=gt v i)(b:∀k∈gt A.nx i,gt v' k=gt v k):kA A v' i:=by
 rcases h with⟨f,c2⟩|⟨f,⟨q,q1,c2,⟨k,c,e⟩,d⟩|⟨q,q1,c2,e,k,c,d⟩|⟨c2,e,d⟩⟩
 .exact .inl ⟨f,by rw[hi];exact c2⟩
 .exact .inr ⟨f,.inl ⟨q,q1,by rw[hi];exact c2,⟨k,c,by rw[b k c];exact e⟩,λp a=>by rw[b p a];exact d p a⟩⟩
 .exact .inr ⟨f,.inr (.inl ⟨q,q1,by rw[hi];exact c2,λp a=>by rw[b p a];exact e p a,k,c,by rw[b k c];exact d⟩)⟩
 .exact .inr ⟨f,.inr (.inr ⟨by rw[hi];exact c2,λp a=>by rw[b p a];exact e p a,λ⟨j,g⟩=>d ⟨j,λp a=>by rw[<-b p a];exact g p a⟩⟩)⟩
section
variable{A:mg}{S:Int->Prop}{v v':List fZ}
theorem Zh(hS:∀i,S i->∀k∈gt A.nx i,S k)(h:∀i,S i->kA A v i)(f:∀i,S i->kA A v' i){n:Int}
  (j:∀m:Int,0<=m->m<n->∀i,S i->(gt v i).1≠2->(gt v i).2=m->gt v' i=gt v i) (z:∀m:Int,0<=m->m<n->∀i,S i->(gt v' i).1≠2->(gt v' i).2=m->gt v i=gt v' i) :
  ∀i,S i->(gt v i).1≠2->(gt v i).2=n->gt v' i=gt v i:=λi hi y b=>by
 rcases h i hi with⟨o,e⟩|⟨o,⟨m,h1,e,⟨k,l,c⟩,_⟩|⟨m,h1,e,p,k,l,c⟩|⟨e,_⟩⟩
 .rcases f i hi with⟨_,g⟩|⟨o',_⟩
  .rw[e,g]
  .grind
 .rw[e]at b;dsimp only at b;subst b;have u:=j (m-1) (by omega) (by omega) k (hS i hi k l) (by rw[c];simp) (by rw[c]);rw[c]at u;rcases f i hi with⟨o',_⟩|⟨_,⟨d,r,g,_,B⟩|⟨d,_,_,t,_⟩|⟨_,s,_⟩⟩
  .grind
  .grind
  .grind
  .grind
 .rw[e]at b;dsimp only at b;subst b;have x:∀q∈gt A.nx i,gt v' q=gt v q:=λq a=>j _ (h q (hS i hi q a)).n0 (by have:=(p q a).2;omega) q (hS i hi q a) (by rw[(p q a).1];simp) rfl;rcases f i hi with⟨o',_⟩|⟨_,⟨d,_,_,⟨q,a,w⟩,_⟩|⟨d,r,g,t,q,a,w⟩|⟨_,_,s⟩⟩
  .grind
  .grind
  .grind
  .grind
 .grind
theorem ahk(hS:∀i,S i->∀k∈gt A.nx i,S k)(h:∀i,S i->kA A v i)(b:∀i,S i->kA A v' i):∀i,S i->gt v i=gt v' i:=by
 have key:∀N:Nat,(∀m:Int,0<=m->m<N->∀i,S i->(gt v i).1≠2->(gt v i).2=m->gt v' i=gt v i)/\(∀m:Int,0<=m->m<N->∀i,S i->(gt v' i).1≠2->(gt v' i).2=m->gt v i=gt v' i):=by
  intro N
  induction N with
  | zero=>exact⟨λm _ _=>by omega,λm _ _=>by omega⟩
  | succ N a=>
   refine⟨λm m0 m1=>?_,λm m0 m1=>?_⟩
   .exact Zh hS h b (λq q0 q1=>a.1 q q0 (by omega)) (λq q0 q1=>a.2 q q0 (by omega))
   .exact Zh hS b h (λq q0 q1=>a.2 q q0 (by omega)) (λq q0 q1=>a.1 q q0 (by omega))
 intro i hi;have n0:=(h i hi).n0;have c:=(b i hi).n0
 by_cases e:(gt v i).1=2
 .by_cases d:(gt v' i).1=2
  .refine cL (by rw[e,d]) ?_
   have z:∀ {w:List fZ},kA A w i->(gt w i).1=2->(gt w i).2=0:=λ{w} f g=>by
    rcases f with⟨_,e⟩|⟨_,⟨n,_,e,_⟩|⟨n,_,e,_⟩|⟨e,_⟩⟩
    .rw[e]
    .grind
    .grind
    .rw[e]
   rw[z (h i hi) e,z (b i hi) d]
  .exact(key ((gt v' i).2.toNat+1)).2 _ c (by omega) i hi d rfl
 .exact((key ((gt v i).2.toNat+1)).1 _ n0 (by omega) i hi e rfl).symm
end
noncomputable def jT(g:gi)(l:List Pos)(nx:List (List Int)):mg:=⟨λi=>(stat g (gt l i)).2,λi=>(stat g (gt l i)).1,nx⟩
end Go.Proofs.YtmehofoficaelaaGreatDoor
namespace Go.Proofs.YtmehofoficaelaaGreatDoor
open Go Go.AL Classical
structure gK where
 who:Int
 lo:Int
 hi:Int
 es:List fZ
 root:List Int
 deriving Inhabited
def jK(c:gK)(i:Int):Bool:=decide (c.lo<=i/\i<c.hi)
def kI(c:gK)(i:Int):fZ:=gt c.es (i-c.lo)
def sd(cl:List gK)(i:Int):List fZ:=(cl.filter λc=>jK c i).map λc=>kI c i
theorem sK{cl:List gK}{i:Int}{r:fZ}:r∈sd cl i↔∃c∈cl,jK c i=true/\kI c i=r:=by
 unfold sd;rw[ar];constructor
 .grind
 .grind
def tj:List Int->Int
 | [] => -1
 | a::r=>r.foldl min a
def yJ:List Int->Int
 | [] => -1
 | a::r=>r.foldl max a
theorem foldl_min:∀(r:List Int) (a:Int),(r.foldl min a=a\/r.foldl min a∈r)/\r.foldl min a<=a/\∀y∈r,r.foldl min a<=y
 | [],a=>⟨.inl rfl,dX _,by simp⟩
 | b::r,a=>by
  obtain⟨h1,e,d⟩:=foldl_min r (min a b);rw[b9];refine⟨?_,by omega,λy c=>?_⟩
  .grind
  .grind
theorem foldl_max:∀(r:List Int) (a:Int),(r.foldl max a=a\/r.foldl max a∈r)/\a<=r.foldl max a/\∀y∈r,y<=r.foldl max a
 | [],a=>⟨.inl rfl,dX _,by simp⟩
 | b::r,a=>by
  obtain⟨h1,e,d⟩:=foldl_max r (max a b);rw[b9];refine⟨?_,by omega,λy c=>?_⟩
  .grind
  .grind
theorem As{l:List Int}(h:l≠[]):tj l∈l:=by
 cases l with
 | nil=>exact absurd rfl h
 | cons a r=>
  rcases(foldl_min r a).1 with e|e
  .exact av.2 (.inl e)
  .exact aX _ e
theorem Cf{l:List Int}{y:Int}(h:y∈l):tj l<=y:=by
 cases l with
 | nil=>cases h
 | cons a r=>
  rcases av.1 h with rfl|h
  .exact(foldl_min r y).2.1
  .exact(foldl_min r a).2.2 y h
theorem Oo{l:List Int}(h:l≠[]):yJ l∈l:=by
 cases l with
 | nil=>exact absurd rfl h
 | cons a r=>
  rcases(foldl_max r a).1 with e|e
  .exact av.2 (.inl e)
  .exact aX _ e
theorem Of{l:List Int}{y:Int}(h:y∈l):y<=yJ l:=by
 cases l with
 | nil=>cases h
 | cons a r=>
  rcases av.1 h with rfl|h
  .exact(foldl_max r y).2.1
  .exact(foldl_max r a).2.2 y h
def me(l:List fZ):Int:=tj ((l.filter λr=>decide (r.1≠2)).map λr=>r.2)
def nA(l:List fZ):fZ:=l.headD default
def mM(l:List fZ):Bool:=l.any λr=>decide (r≠nA l)
theorem VL{l:List fZ}:mM l=true↔∃r∈l,r≠nA l:=by simp[mM]
theorem MX{l:List fZ}:mM l=false↔∀r∈l,r=nA l:=by simp[mM]
theorem DF{l:List fZ}(h:l≠[]):nA l∈l:=by
 cases l with
 | nil=>exact absurd rfl h
 | cons a r=>exact List.mem_cons_self
theorem ahr{l:List fZ}{r:fZ}(h:r∈l)(a:r.1≠2):me l<=r.2:=
 Cf (ar.2 ⟨r,aN.2 ⟨h,by simpa using a⟩,rfl⟩)
theorem ahs{l:List fZ}(h:∃r∈l,r.1≠2):∃r∈l,r.1≠2/\r.2=me l:=by
 obtain⟨r,b,c⟩:=h
 have:=As (l:=(l.filter λr=>decide (r.1≠2)).map λr=>r.2) λe=>by have:r.2∈(l.filter λr=>decide (r.1≠2)).map λr=>r.2:=ar.2 ⟨r,aN.2 ⟨b,by simpa using c⟩,rfl⟩;rw[e]at this;cases this
 obtain⟨q,a,e⟩:=ar.1 this;rw[aN]at a;exact⟨q,a.1,by simpa using a.2,e⟩
def jA(l:List fZ)(o:Int):List Int:=(l.filter λr=>decide (r.1=o)).map λr=>r.2
theorem ti{l:List fZ}{o n:Int}:n∈jA l o↔(o,n)∈l:=by
 unfold jA;rw[ar];constructor
 .grind
 .simp_all
theorem ED{l:List fZ}{o:Int}:(jA l o).length=l.length↔∀r∈l,r.1=o:=by unfold jA;rw[List.length_map,ey];simp
def nI(l:List fZ):fZ:=
 if jA l 3≠[]then(1,tj (jA l 3)+1)else if l≠[]/\(jA l 1).length=l.length then(3,yJ (jA l 1)+1)else(2,0)
def Ik(A:mg)(cl:List gK)(i n:Int):List fZ:=(gt A.nx i).map λj=>if mM (sd cl j)=false/\(nA (sd cl j)).2<n then nA (sd cl j)else(2,0)
def rF(A:mg)(cl:List gK)(i:Int)(c:gK):Bool:=
 jK c i&&(if A.ov i=true then decide (kI c i≠(A.rs i,0))else
  if (nI (Ik A cl i (me (sd cl i)))).1≠2 then decide (kI c i≠nI (Ik A cl i (me (sd cl i))))else decide ((kI c i).1≠2/\(kI c i).2=me (sd cl i)))
def lC(r:fZ):Bool:=decide (r=(2,0)\/((r.1=1\/r.1=3)/\0<=r.2))
theorem kA.dr{A:mg}{v:List fZ}{i:Int}(h:kA A v i)(a:(gt v i).1=2):gt v i=(2,0):=by
 rcases h with⟨_,e⟩|⟨_,⟨n,_,e,_⟩|⟨n,_,e,_⟩|⟨e,_⟩⟩
 .grind
 .grind
 .grind
 .exact e
section
variable{A:mg}{V:List fZ}{cl:List gK}{N:Int}
theorem adg{i:Int}(c:∀r∈sd cl i,lC r=true)(f:mM (sd cl i)=true):∃r∈sd cl i,r.1≠2:=by
 obtain⟨r,b,g⟩:=VL.1 f;have h0:=DF (l:=sd cl i) λe=>by rw[e]at b;cases b
 have a:=c r b;have d:=c _ h0;simp only[lC,decide_eq_true_eq]at a d;rcases a with a|a
 .grind
 .grind
theorem aoS(gH:∀i,0<=i->i<N->∀k∈gt A.nx i,0<=k/\k<N)(hV:∀i,0<=i->i<N->kA A V i)(H:∀i,0<=i->i<N->gt V i∈sd cl i)
  {i:Int} (i0:0<=i) (G:i<N) (J:∀j,0<=j->j<N->mM (sd cl j)=true->me (sd cl i)<=me (sd cl j)) {c:gK} (hs:kI c i=gt V i):rF A cl i c=false:=by
 have F:∀j∈gt A.nx i,(if mM (sd cl j)=false/\(nA (sd cl j)).2<me (sd cl i)then nA (sd cl j)else(2,0))=if (gt V j).1≠2/\(gt V j).2<me (sd cl i)then gt V j else(2,0):=λj a=>by
  obtain⟨j0,j1⟩:=gH i i0 G j a;have b:=H j j0 j1
  by_cases q:mM (sd cl j)=true
  .rw[if_neg (λh=>by rw[q]at h;cases h.1)];rw[if_neg];rintro⟨h1,v⟩;have:=ahr b h1;have:=J j j0 j1 q;omega
  .have q:mM (sd cl j)=false:=by simpa using q
   have e:=MX.1 q _ b;rw[<-e]
   by_cases v:(gt V j).1=2
   .rw[(hV j j0 j1).dr v];simp
   .simp[q,v]
 have E:Ik A cl i (me (sd cl i))=(gt A.nx i).map λj=>if (gt V j).1≠2/\(gt V j).2<me (sd cl i)then gt V j else(2,0):=aw F
 unfold rF;rw[hs,E];generalize me (sd cl i)=n;clear F E J hs H;have b:∀(o p:Int),o≠2->((o,p)∈((gt A.nx i).map λj=>if (gt V j).1≠2/\(gt V j).2<n then gt V j else(2,0))↔∃j∈gt A.nx i,gt V j=(o,p)/\p<n):=λo p P=>by grind
 have hM:∀j∈gt A.nx i,(if (gt V j).1≠2/\(gt V j).2<n then gt V j else(2,0))∈(gt A.nx i).map λj=>if (gt V j).1≠2/\(gt V j).2<n then gt V j else(2,0):=λj a=>ar.2 ⟨j,a,rfl⟩
 have B:∀r∈(gt A.nx i).map (λj=>if (gt V j).1≠2/\(gt V j).2<n then gt V j else(2,0)),∃j∈gt A.nx i,(if (gt V j).1≠2/\(gt V j).2<n then gt V j else(2,0))=r:=λr u=>ar.1 u;generalize ((gt A.nx i).map λj=>if (gt V j).1≠2/\(gt V j).2<n then gt V j else(2,0))=M at *;rw[Bool.and_eq_false_iff];right;rcases hV i i0 G with⟨o,e⟩|⟨o,⟨m,m1,e,⟨k,d,t⟩,w⟩|⟨m,m1,e,y,k,d,t⟩|⟨e,K,D⟩⟩
 .grind
 .rw[if_neg (by rw[o];simp),e]
  by_cases g:jA M 3 = []
  .have L:n<=m-1:=by refine e7.1 λh=>?_;have:=ti.2 ((b 3 (m-1) (by decide)).2 ⟨k,d,t,h⟩);rw[g]at this;cases this
   have f:nI M=(2,0):=by unfold nI;rw[if_neg (λh=>h g),if_neg];rintro⟨_,s⟩;have:=ED.1 s _ (hM k d);rw[t,if_neg (by simp;omega)]at this;simp at this
   rw[f];simp;omega
  .obtain⟨j,a,l,O⟩:=(b 3 _ (by decide)).1 (ti.1 (As g));have h1:=w j a (by rw[l]);rw[l]at h1;dsimp only at h1;have v:=Cf (ti.2 ((b 3 (m-1) (by decide)).2 ⟨k,d,t,by omega⟩))
   have f:nI M=(1,m):=by unfold nI;rw[if_pos g,show tj (jA M 3)+1=m by omega]
   rw[f];simp
 .rw[if_neg (by rw[o];simp),e]
  have g:jA M 3 = []:=by refine aT.2 λp z=>?_;obtain⟨j,a,l,_⟩:=(b 3 _ (by decide)).1 (ti.1 z);have:=(y j a).1;rw[l]at this;simp at this
  by_cases w:m-1<n
  .have C:∀r∈M,r.1=1:=λr u=>by grind
   have x:m-1∈jA M 1:=ti.2 ((b 1 (m-1) (by decide)).2 ⟨k,d,cL (y k d).1 t,w⟩);have Q:=Of x;obtain⟨j,a,l,_⟩:=(b 1 _ (by decide)).1 (ti.1 (Oo λh=>by rw[h]at x;cases x));have I:=(y j a).2;rw[l]at I;dsimp only at I
   have f:nI M=(3,m):=by unfold nI;rw[if_neg (λh=>h g),if_pos ⟨λh=>(by have:=hM k d;rw[h]at this;cases this),ED.2 C⟩,show yJ (jA M 1)+1=m by omega]
   rw[f];simp
  .have f:nI M=(2,0):=by unfold nI;rw[if_neg (λh=>h g),if_neg];rintro⟨_,s⟩;have:=ED.1 s _ (hM k d);rw[if_neg (by omega)]at this;simp at this
   rw[f];simp;omega
 .rw[if_neg (by rw[o];simp),e]
  have g:jA M 3 = []:=by refine aT.2 λp z=>?_;obtain⟨j,a,l,_⟩:=(b 3 _ (by decide)).1 (ti.1 z);exact K j a (by rw[l])
  have f:nI M=(2,0):=by
   unfold nI;rw[if_neg (λh=>h g),if_neg];rintro⟨h0,s⟩;obtain⟨r,u⟩:=cI _ h0;obtain⟨j,a,_⟩:=B r u;refine D ⟨λh=>(by rw[h]at a;cases a),λk d=>?_⟩;have:=ED.1 s _ (hM k d);split at this
   .exact this
   .simp at this
  rw[f];simp
theorem abv{i:Int}(k:∀r∈sd cl i,lC r=true)(f:mM (sd cl i)=true):∃c∈cl,rF A cl i c=true:=by
 have two:∀w:fZ,∃c∈cl,jK c i=true/\kI c i≠w:=λw=>by
  obtain⟨r,a,g⟩:=VL.1 f;have h0:=DF (l:=sd cl i) λe=>by rw[e]at a;cases a
  by_cases h:r=w
  .obtain⟨c,h1,d,b⟩:=sK.1 h0;exact⟨c,h1,d,by rw[b,<-h];exactλe=>g e.symm⟩
  .obtain⟨c,h1,d,b⟩:=sK.1 a;exact⟨c,h1,d,by rw[b];exact h⟩
 unfold rF
 by_cases m:A.ov i=true
 .simp_all
 .by_cases j:(nI (Ik A cl i (me (sd cl i)))).1≠2
  .simp_all
  .obtain⟨r,a,d,e⟩:=ahs (adg k f);obtain⟨c,h1,b,rfl⟩:=sK.1 a;exact⟨c,h1,by rw[b,if_neg m,if_neg j];simpa using ⟨d,e⟩⟩
end
end Go.Proofs.YtmehofoficaelaaGreatDoor
namespace Go.Proofs.YtmehofoficaelaaGreatDoor
open Go Go.AL Classical
set_option maxRecDepth 10000
set_option maxHeartbeats 4000000
theorem MD:∀(n:Nat) (a b:List Int),a.length=n->b.length=n->mL (List.replicate n mB.int) (cl fU a) (cl fU b)=some (decide (a=b))
 | 0,[],[],_,_=>by simp[oC,mL]
 | n+1,x::a,y::b,ha,hb=>by
  have c:=MD n a b (by simpa using ha) (by simpa using hb);rw[nM,nM,zD,zD,bp]
  show(match uI .int (.val (.int .u8 x)) (.val (.int .u8 y)),mL (List.replicate n mB.int) (cl fU a) (cl fU b)with
   | some a,some b=>some (a&&b)
   | _,_=>none)=_
  rw[c];show some (decide (x=y)&&decide (a=b))=_;rw[<-dJ];congr 1;exact decide_eq_decide.2 (by simp)
def Mk:List mB:=List.replicate 32 mB.int
theorem Px:Mk = [.int,.int,.int,.int,.int,.int,.int,.int,.int,.int,.int,.int,.int,.int,.int,.int,.int,.int,.int,.int,.int,.int,.int,.int,.int,.int,.int,.int,.int,.int,.int,.int]:=rfl
def dE(em:Bool)(es:List fZ):D:=if em then .gg else gY es
structure Cw where
 c:gK
 em:Bool
 deriving Inhabited
def Cw.cells(x:Cw):List D:=[.i x.c.who,.i x.c.lo,.i x.c.hi,dE x.em x.c.es]++cl fU x.c.root
structure Cw.ok(x:Cw):Prop where
 em:x.em=true->x.c.es = []
 es:x.c.es.length<=64
 root:x.c.root.length=32
 lo : -1000000<=x.c.lo/\x.c.lo<=1000000
 hi : -1000000<=x.c.hi/\x.c.hi<=1000000
theorem VF{em:Bool}{es:List fZ}(h:em=true->es = []):dV es (dE em es):=by
 unfold dE;cases em
 .exact .inl rfl
 .exact .inr ⟨h rfl,rfl⟩
theorem P5{em:Bool}{es:List fZ}(h:em=true->es = [])(H:U):mX .slice (dE em es) H=some (.i es.length):=by
 unfold dE;cases em
 .simp
 .rw[h rfl];simp
@[simp] theorem as2(em:Bool)(es:List fZ):closed (dE em es)=true:=by unfold dE;cases em<;>simp
def snd(c:gK):Bool:=decide (0<=c.lo/\c.lo<=c.hi/\(c.es.length:Int)=c.hi-c.lo/\c.root=ki c.es)
theorem adO(x:Cw)(b:x.ok):Wf T 48 [.agg x.cells] [] (Is (.b (snd x.c))):=by
 have e:=Gq (VF b.em) b.es;have f:=xv x.c.es;have i:=b.root;have n:=b.lo;have o:=b.hi;have m:=b.es;have a:=P5 b.em;obtain⟨⟨who,lo,hi,es,root⟩,em⟩:=x;unfold Cw.cells snd;dsimp only at *;obtain⟨r,l⟩:∃r,ki es=r:=⟨_,rfl⟩;rw[l]at e f ⊢;obtain⟨E,g⟩:∃E,dE em es=E:=⟨_,rfl⟩;have j:closed E=true:=by rw[<-g];simp
 rw[g]at e a ⊢;have k:root.take 32=root:=af (by omega);have c:=MD 32 root r i f;rw[show List.replicate 32 mB.int=Mk from rfl,Px]at c
 by_cases h1:0<=lo
 .by_cases d:lo<=hi
  .by_cases h:(es.length:Int)=hi-lo
   .refine Yg wE ?_;simp[wE,h1,d,a];refine jP a ?_;refine je.c rfl rfl e (by simp[j]) (by simp) ?_;simp[k,c,h]
   .refine Yg wE ?_;simp[wE,h1,d,a];refine jP a ?_;simp[h]
  .refine Yg wE ?_;simp[wE,h1,d]
 .refine Yg wE ?_;simp[wE,h1]
theorem aed(x:Cw)(b:x.ok):Wf T 127 [.agg x.cells] [] (Is (.b (snd x.c))):=by
 have e:=V8 (VF b.em) b.es;have f:=xv x.c.es;have i:=b.root;have n:=b.lo;have o:=b.hi;have m:=b.es;have a:=P5 b.em;obtain⟨⟨who,lo,hi,es,root⟩,em⟩:=x;unfold Cw.cells snd;dsimp only at *;obtain⟨r,l⟩:∃r,ki es=r:=⟨_,rfl⟩;rw[l]at e f ⊢;obtain⟨E,g⟩:∃E,dE em es=E:=⟨_,rfl⟩;have j:closed E=true:=by rw[<-g];simp
 rw[g]at e a ⊢;have k:root.take 32=root:=af (by omega);have c:=MD 32 root r i f;rw[show List.replicate 32 mB.int=Mk from rfl,Px]at c
 by_cases h1:0<=lo
 .by_cases d:lo<=hi
  .by_cases h:(es.length:Int)=hi-lo
   .refine Yg wF ?_;simp[wF,h1,d,a];refine jP a ?_;refine je.c rfl rfl e (by simp[j]) (by simp) ?_;simp[k,c,h]
   .refine Yg wF ?_;simp[wF,h1,d,a];refine jP a ?_;simp[h]
  .refine Yg wF ?_;simp[wF,h1,d]
 .refine Yg wF ?_;simp[wF,h1]
structure Wk where
 kind:Int
 pos:Int
 n:Int
 lr:Int
 lk:Int
 deriving Inhabited
def Wk.cells(w:Wk):List D:=[.i w.kind,.i w.pos,.i w.n,.i w.lr,.i w.lk]
structure Wk.ok(w:Wk):Prop where
 kind:1<=w.kind/\w.kind<=4
 pos:0<=w.pos/\w.pos<=31
 n:0<=w.n/\w.n<=5
 lr:1<=w.lr/\w.lr<=3
 lk:0<=w.lk/\w.lk<=8
def xD(x:List Int):Wk:=⟨1+gt x 0 % 4,gt x 1 % 32,gt x 2 % 6,1+gt x 3 % 3,gt x 4 % 9⟩
theorem aoJ(x:List Int):(xD x).ok:=⟨by unfold xD;dsimp only;omega,by unfold xD;dsimp only;omega,by unfold xD;dsimp only;omega,by unfold xD;dsimp only;omega,by unfold xD;dsimp only;omega⟩
def xF(w:Wk)(v:List fZ)(i:Int):fZ:=if w.kind=4/\i=w.pos then(w.lr,w.lk)else gt v i
def mA(w:Wk)(v:List fZ)(lo:Int):Nat->List fZ
 | 0=>[]
 | n+1=>mA w v lo n ++ [xF w v (lo+n)]
theorem yY(w:Wk)(v:List fZ)(lo:Int):∀n,(mA w v lo n).length=n
 | 0=>rfl
 | n+1=>by rw[mA,ak,yY w v lo n];rfl
def yX(w:Wk)(t:Int):Bool:=decide (w.kind=1\/w.kind=4\/(w.kind=3/\w.n<=t))
theorem adR(a b c d e:Int)(r:0<=a/\a<256)(q:0<=b/\b<256)(p:0<=c/\c<256)(o:0<=d/\d<256)(n:0<=e/\e<256):Wf T 60 [.agg [.val (.int .u8 a),.val (.int .u8 b),.val (.int .u8 c),.val (.int .u8 d),.val (.int .u8 e)]] [] (Is (.agg (xD [a,b,c,d,e]).cells)):=by have h:(xD [a,b,c,d,e]).cells = [.i (1+a % 4),.i (b % 32),.i (c % 6),.i (1+d % 3),.i (e % 9)]:=rfl;have m:gA a 4=a % 4:=jH r.1;have l:gA b 32=b % 32:=jH q.1;have rc:gA c 6=c % 6:=jH p.1;have rd:gA d 3=d % 3:=jH o.1;have k:gA e 9=e % 9:=jH n.1;have j:IntKind.i64.wrap (a % 4)=a % 4:=o9 iy;have i:IntKind.i64.wrap (b % 32)=b % 32:=o9 iy;have wc:IntKind.i64.wrap (c % 6)=c % 6:=o9 iy;have g:IntKind.i64.wrap (d % 3)=d % 3:=o9 iy;have f:IntKind.i64.wrap (e % 9)=e % 9:=o9 iy;refine Yg Ju ?_;simp[Ju,m,l,rc,rd,k,j,i,wc,g,f,h];omega
structure B5 where
 a:Int
 b:Int
 c:Int
 d:Int
 e:Int
 deriving Inhabited
structure B5.ok(x:B5):Prop where
 a:0<=x.a/\x.a<256
 b:0<=x.b/\x.b<256
 c:0<=x.c/\x.c<256
 d:0<=x.d/\x.d<256
 e:0<=x.e/\x.e<256
@[irreducible] def f5(x:B5):List D:=[.val (.int .u8 x.a),.val (.int .u8 x.b),.val (.int .u8 x.c),.val (.int .u8 x.d),.val (.int .u8 x.e)]
@[simp] theorem atE(x:B5):f5 x = [.val (.int .u8 x.a),.val (.int .u8 x.b),.val (.int .u8 x.c),.val (.int .u8 x.d),.val (.int .u8 x.e)]:=by unfold f5;rfl
instance:Fl f5 5:=⟨λ_=>by simp,λ_=>by simp[gF]⟩
@[irreducible] def oP(w:Wk):List D:=w.cells
theorem rP(w:Wk):oP w = [.i w.kind,.i w.pos,.i w.n,.i w.lr,.i w.lk]:=by unfold oP;rfl
instance:Fl oP 5:=⟨λ_=>by rw[rP];rfl,λ_=>by rw[rP];simp[gF]⟩
def B5.wk(x:B5):Wk:=xD [x.a,x.b,x.c,x.d,x.e]
theorem adB(l:List B5)(hl:∀x∈l,x.ok):Wf T 18 [.sl 5 (l.map f5)] [] (Is (.sl 5 (((l.take 8).map B5.wk).map oP))):=by
 obtain⟨R,f⟩:∃R,(l.take 8).map B5.wk=R:=⟨_,rfl⟩;rw[f];refine Yg Jm ?_;simp[Jm];refine gj.e ((0,[]):Int×List Wk) (λy=>[(0,.sl 5 (l.map f5)),(3,.fY 0 y.2.length 5 0 y.2.length),(4,.i y.1)]) (λy=>[.row 149 y.2.length (cl oP y.2)]) (λy=>(0<=y.1/\y.1<=l.length/\y.1<=8)/\y.2=(l.take y.1.toNat).map B5.wk) (λy=>(l.length-y.1).toNat) ?_ ?_
 .simp
 rintro⟨i,A⟩ ⟨⟨i0,k,j⟩,b⟩;dsimp only at i0 k j b ⊢;have p:A.length=i.toNat:=by rw[b];simp;omega
 by_cases hi:i<l.length/\i<8
 .have e:=E8 (l:=l) i0 hi.1;have a:=hl _ (gy i0 hi.1);have c:=adR (gt l i).a (gt l i).b (gt l i).c (gt l i).d (gt l i).e a.a a.b a.c a.d a.e;have g:A ++ [(gt l i).wk]=(l.take (i+1).toNat).map B5.wk:=by rw[e,List.map_append,<-b];rfl
  rw[show xD [(gt l i).a,(gt l i).b,(gt l i).c,(gt l i).d,(gt l i).e]=(gt l i).wk from rfl]at c;obtain⟨w,m⟩:∃w,(gt l i).wk=w:=⟨_,rfl⟩;rw[m]at c g;rw[show w.cells=cl oP [w]by rw[iQ];unfold oP;rfl]at c;have o:(cl oP [w]).length=5:=by rw[qJ];rfl
  have d:(cl oP [w]).take 5=cl oP [w]:=af (by omega);simp[hi.1,hi.2];refine gd ?_;refine Yc (c) ?_;simp[d];refine jP d ?_;refine LJ.i (i+1,A ++ [w]) (by first|rfl|simp[d]) (by first|rfl|simp[d]) rfl rfl ?_;exact p9 g
 .have e:l.take i.toNat=l.take 8:=by
   by_cases h:i=8
   .rw[h];rfl
   .rw[af (by omega),af (by omega)]
  rw[e,f]at b;subst b;clear f e
  by_cases h:i<l.length
  .have n:i=8:=by omega
   subst n;simp[h]
  .simp[h]
@[irreducible] def EK(l:List Int):List Int:=(l++zs 32).take 32
theorem am3(l:List Int):(EK l).length=32:=by unfold EK;simp
theorem EL{l:List Int}(h:l.length=32):EK l=l:=by unfold EK;rw[aV (by omega),af (by omega)]
@[irreducible] def gR(x:Cw):List D:=[.i x.c.who,.i x.c.lo,.i x.c.hi,dE x.em x.c.es]++cl fU (EK x.c.root)
theorem zC(x:Cw):gR x = [.i x.c.who,.i x.c.lo,.i x.c.hi,dE x.em x.c.es]++cl fU (EK x.c.root):=by unfold gR;rfl
theorem Qo{x:Cw}(h:x.ok):gR x=x.cells:=by rw[zC,EL h.root];rfl
instance:Fl gR 36:=⟨λx=>by rw[zC];simp[am3],λx=>by rw[zC];simp[gF]⟩
set_option maxHeartbeats 8000000
theorem aoU(w:Wk)(v:List fZ){lo i:Int}(h:lo<=i):mA w v lo (i+1-lo).toNat=mA w v lo (i-lo).toNat ++ [xF w v i]:=by rw[show(i+1-lo).toNat=(i-lo).toNat+1 by omega,mA,show lo+((i-lo).toNat:Int)=i by omega]
theorem zr(l:List Int):cl fU l=l.map λx=>.val (.int .u8 x):=by
 unfold cl
 induction l with
 | nil=>rfl
 | cons a l b=>simp[b,fU]
theorem CH(ρ:Nat->Option Nat)(H:U)(k:Nat)(l:List Int):(cl fU l).map (gq ρ H (k+1))=cl fU l:=by rw[zr,cz];rfl
theorem A8(l:List Int)(h:l.length=32)(b:D):(cl fU l ++ [b]).drop 33 = []:=by rw[List.drop_eq_nil_iff];simp[h,qJ]
theorem ad2(w:Wk)(D:w.ok)(who t lo hi:Int)(v:List fZ)(h0:0<=lo)(h1:lo<hi)(J:hi<=v.length)(I:v.length<=64)(H:0<=who/\who<=1000) :
  Wf T 92 [.agg w.cells,.agg [.i who,.i t,.i lo,.i hi],gY v] [] (Is (if yX w t=true then .agg (gR ⟨⟨who,lo,hi,mA w v lo (hi-lo).toNat,ki (mA w v lo (hi-lo).toNat)⟩,false⟩ ++ [.b true])else .agg ([.i 0,.i 0,.i 0,.gg]++cl fU (zs 32) ++ [.b false]))):=by
 obtain⟨kind,pos,n,lr,lk⟩:=w;have E:=D.kind;unfold Wk.cells yX;dsimp only at E ⊢
 by_cases h:kind=1\/kind=4\/(kind=3/\n<=t)
 .rw[decide_eq_true h,if_pos rfl];have n1:¬lo<0:=by omega
  have n2:¬hi<lo:=by omega
  have g:¬(v.length:Int)<hi:=by omega
  obtain⟨W,j⟩:∃W,(⟨kind,pos,n,lr,lk⟩:Wk)=W:=⟨_,rfl⟩;have x:∀i,xF W v i=if kind=4/\i=pos then(lr,lk)else gt v i:=λi=>by rw[<-j];rfl
  have q:∀m,(mA W v lo m).length=m:=yY W v lo;have F:(mA W v lo (hi-lo).toNat).length<=64:=by rw[q];omega
  have c:=V8 (v:=mA W v lo (hi-lo).toNat) (.inl rfl) F;have hl:=xv (mA W v lo (hi-lo).toNat);rw[j,zC,EL hl];obtain⟨r,o⟩:∃r,ki (mA W v lo (hi-lo).toNat)=r:=⟨_,rfl⟩;rw[o]at c hl ⊢;clear o;have z:r.take 32=r:=af (by omega)
  have G:((kind=1)=True/\(kind=4)=False)\/((kind=1)=False/\(kind=4)=True)\/((kind=1)=False/\(kind=4)=False/\(kind=3)=True/\(n<=t)=True):=by simp;omega
  clear j h;rcases G with e|e|e
  all_goals
   refine Yg y9 ?_;simp[y9,n1,n2,g,e];refine gj.e ((lo,[]):Int×List fZ) (λy=>[(2,gY v),(3,.ptr 0 0 0),(4,.ptr 1 0 0),(6,.ptr 2 0 0),(7,.ptr 3 0 0),(8,.i y.1)]) (λy=>.row 149 0 [.i kind,.i pos,.i n,.i lr,.i lk] :: .row 209 0 [.i who,.i t,.i lo,.i hi] :: .row 206 0 (.i 0 :: .i 0 :: .i 0 :: .gg::(cl fU (zs 32) ++ [.b false])) :: .row 72 0 (.i who :: .i lo :: .i hi::(if y.2 = []then .gg else .fY 4 (y.2.length-1) 2 0 y.2.length)::cl fU (zs 32))::(if y.2 = []then []else [.row 86 (y.2.length-1) (cl fS y.2)])) (λy=>(lo<=y.1/\y.1<=hi)/\y.2=mA W v lo (y.1-lo).toNat) (λy=>(hi-y.1).toNat) ?_ ?_
   .simp[mA];omega
   rintro⟨i,A⟩ ⟨⟨i0,C⟩,f⟩;dsimp only at i0 C f ⊢;have l:A.length=(i-lo).toNat:=by rw[f,q]
   by_cases k:i<hi
   .have p:A ++ [xF W v i]=mA W v lo (i+1-lo).toNat:=by rw[aoU W v i0,<-f]
    have s:i<v.length:=by omega
    have u:0<=i:=by omega
    have d:=x i
    by_cases a:A = []
    .subst a;rcases(show(i=pos)=True\/(i=pos)=False by simp;omega)with b|b
     all_goals
      simp[e,b]at d;simp[e,k,b,s,u];refine gd ?_;refine LJ.i (i+1,[xF W v i]) (by first|rfl|simp[d,iQ]) (by first|rfl|simp[d,iQ]) rfl rfl ?_;exact⟨by omega,iy,p⟩
    .have K:0<A.length:=ax.2 a;rw[if_neg a,if_neg a];rcases(show(i=pos)=True\/(i=pos)=False by simp;omega)with b|b
     all_goals
      simp[e,b]at d;simp[e,k,b,s,u];refine gd ?_;refine LJ.i (i+1,A ++ [xF W v i]) (by first|rfl|simp[d,show A.length-1+1=A.length by omega]) (by first|rfl|simp[d,show A.length-1+1=A.length by omega]) rfl rfl ?_;exact⟨by omega,iy,p⟩
   .have B:i=hi:=by omega
    subst B;have a:A≠[]:=λe=>by rw[e]at l;simp at l;omega
    rw[<-f]at c;rw[<-f];rw[if_neg a,if_neg a];simp[k];refine gd ?_;refine gx.r rfl rfl c (by simp) (by simp[flat]) (by simp) ?_;simp[hl,z,CH,A8];rfl
 .rw[decide_eq_false h,if_neg (by simp)];have n1:¬lo<0:=by omega
  have n2:¬hi<lo:=by omega
  have g:¬(v.length:Int)<hi:=by omega
  have m1:¬kind=1:=by omega
  have m2:¬kind=4:=by omega
  by_cases m3:kind=3
  .have m4:¬n<=t:=by omega
   refine Yg y9 ?_;simp[y9,n1,n2,g,m1,m2,m3,m4,CH,A8]
  .refine Yg y9 ?_;simp[y9,n1,n2,g,m1,m2,m3,CH,A8]
