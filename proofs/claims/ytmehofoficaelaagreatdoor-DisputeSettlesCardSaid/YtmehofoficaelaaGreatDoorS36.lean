/- Part 36 of DisputeSettles. -/
import Derived.Test.YtmehofoficaelaaGreatDoorS35
set_option linter.all false
namespace Go.Proofs.YtmehofoficaelaaGreatDoor
open Go Go.AL Classical
set_option maxRecDepth 10000
set_option maxHeartbeats 4000000
def Fw{α:Type}[Inhabited α]{l:List α}{i:Int}(i0:0<=i)(a:i<l.length):l.take (i+1).toNat=l.take i.toNat ++ [gt l i]:=by rw[show(i+1).toNat=i.toNat+1 by omega,cU,List.getElem?_eq_getElem (by omega),c9,<-iZ i0 a]
def afy(n:Nat)(h0:0<n)(a:n<=4000000000):Wf T 277 [.gg,.i n] [] λd H=>d = .fZ 0 0 1 0 0/\H = [.row 5 0 (cl fU (zs n))]:=by refine Yg KF ?_;simp[KF];(with_reducible repeat' first|refine Xk ?_<;>try simp|refine Xs ?_ ?_<;>intro h<;>(try intro b)<;>(try simp[h])<;>try omega|refine Xg ?_|omega);rw[<-zF,vu,dX]
def Xd(L:List (List Int))(hl:0<L.length)(v:L.length<=1000)(n:Nat)(m:n=L.flatten.length)(h0:0<n)(u:n<=4000000000):Wf T 224 [pc L] [] λd H=>d = .fZ 0 L.length 1 0 n/\H = [.row 5 L.length (cl fU L.flatten)]:=by
 have b:∀i:Nat,(L.take i).flatten.length<=n:=λi=>by
  have:L.flatten=(L.take i).flatten++(L.drop i).flatten:=by rw[<-eT,bY]
  rw[m,this,aj];omega
 refine Yg Kx ?_;simp[Kx];refine gp.e (0:Int) (λy=>[(0,pc L),(3,.i (((L.take y.toNat).flatten.length:Nat):Int)),(9,pc L),(10,.i L.length),(11,.i y)]) (λy=>[]) (λy=>0<=y/\y<=L.length) (λy=>(L.length-y).toNat) ?_ ?_
 .simp
 rintro i ⟨i0,q⟩;have r:=b i.toNat
 by_cases hi:i<L.length
 .have e:=Fw (l:=L) i0 hi;have p:=b (i+1).toNat;have c:(L.take (i+1).toNat).flatten.length=(L.take i.toNat).flatten.length+(gt L i).length:=by rw[e];simp
  simp only[hi];generalize (L.take i.toNat).flatten.length=a at *;simp[hi];(with_reducible repeat' first|refine Xk ?_<;>try simp|refine Xs ?_ ?_<;>intro h<;>(try intro w)<;>(try simp[h])<;>try omega|refine Xg ?_|omega);refine LJ.i (i+1) (by first|rfl|simp[c]) (by first|rfl|simp[c]) rfl rfl ?_;omega
 .have k:i=L.length:=by omega
  subst k;have s:L.take (L.length:Int).toNat=L:=af (by omega);rw[s,<-m];simp;refine Yn (afy n h0 u) ?_;simp;refine gp.e ((0,zs n):Int×List Int) (λy=>[(6,.fZ 0 y.1.toNat 1 0 (L.take y.1.toNat).flatten.length),(25,pc L),(26,.i L.length),(27,.i y.1)]) (λy=>[.row 5 y.1.toNat (cl fU y.2)]) (λy=>(0<=y.1/\y.1<=L.length)/\(y.1=0\/y.2=(L.take y.1.toNat).flatten)) (λy=>(L.length-y.1).toNat) ?_ ?_
  .simp
  rintro⟨i,R⟩ ⟨⟨i0,q⟩,g⟩;dsimp only at i0 q g ⊢;have r:=b i.toNat
  by_cases hi:i<L.length
  .have e:=Fw (l:=L) i0 hi;have p:=b (i+1).toNat;have c:(L.take (i+1).toNat).flatten=(L.take i.toNat).flatten++gt L i:=by rw[e];simp
   have f:R.take (L.take i.toNat).flatten.length=(L.take i.toNat).flatten:=by
    rcases g with rfl|rfl
    .simp
    .exact af (Nat.le_refl _)
   have o:(L.take i.toNat).flatten.length<=R.length:=by
    rcases g with rfl|rfl
    .simp
    .exact Nat.le_refl _
   have j:(L.take (i+1).toNat).flatten.length=(L.take i.toNat).flatten.length+(gt L i).length:=by rw[c,aj]
   rw[show(i+1).toNat=i.toNat+1 by omega]at p c j;obtain⟨a,t⟩:∃a,(L.take i.toNat).flatten=a:=⟨_,rfl⟩;rw[t]at r f o j c ⊢;simp[hi,o,f];refine kJ o f ?_;refine LJ.i (i+1,a++gt L i) (by first|rfl|simp[-List.length_flatten,j,c,f,show(i+1).toNat=i.toNat+1 by omega]) (by first|rfl|simp[-List.length_flatten,j,c,f,show(i+1).toNat=i.toNat+1 by omega]) rfl rfl ?_;exact⟨by omega,iE,.inr (by rw[show(i+1).toNat=i.toNat+1 by omega];exact c.symm)⟩
  .have k:i=L.length:=by omega
   subst k;rw[s]at g ⊢;rcases g with h|rfl
   .omega
   simp[<-m]
def aff:(List.range 65).all (λn=>Nat.ble n 1||decide (rI (run T [] 40 157 [.i n] [])=some (sY n)))=true:=by kernel_rfl
def afe(n:Nat)(h0:2<=n)(h1:n<=64):Wf T 157 [.i n] [] (Is (.i (sY n))):=by
 have h:=aff;rw[List.all_eq_true]at h;have h:=h n (a8.2 (by omega));rw[b7,decide_eq_true_eq]at h;rcases h with h|h
 .exact absurd (db h) (by omega)
 .exact o6 (aa7 h)
@[simp] theorem auN(l:List Int):tL (cl fU l)=true:=by
 rw[<-zF]
 induction l with
 | nil=>rfl
 | cons a r b=>exact b
def Rm(ρ:Nat->Option Nat)(H:U)(k t:Nat)(a:D):mK ρ H k 1 0 1 (some (t,[a])) = .sl 1 [[gq ρ H k a]]:=by unfold mK;simp[chunks]
def XP(ρ:Nat->Option Nat)(H:U)(k t:Nat)(a b:D):mK ρ H k 1 0 2 (some (t,[a,b])) = .sl 1 [[gq ρ H k a],[gq ρ H k b]]:=by unfold mK;simp[chunks]
def XQ(ρ:Nat->Option Nat)(H:U)(k t:Nat)(a b c:D):mK ρ H k 1 0 3 (some (t,[a,b,c])) = .sl 1 [[gq ρ H k a],[gq ρ H k b],[gq ρ H k c]]:=by unfold mK;simp[chunks]
def afd(b:List Int)(f:b.length<=3000000000):Wf T 156 [dU b] [] (Is (.agg (cl fU (kz (0::b))))):=by have c:=W8 (0::b) (by simp;omega);have a:=Xd [[0],b] (by simp) (by simp) (b.length+1) (by simp) (by omega) (by omega);have hl:=rA (0::b);obtain⟨r,e⟩:∃r,kz (0::b)=r:=⟨_,rfl⟩;rw[e]at c hl ⊢;have d:r.take 32=r:=af (by omega);rw[show [[0],b].flatten=0::b by simp]at a;refine Yg Kl ?_;simp[Kl];refine gx.nr rfl rfl a (by simp[DN,ye,Rm,XP,XQ]) (by simp) (by simp) ?_;simp;refine gx.r rfl rfl c (by simp[ye]) (by simp[flat]) (by simp) ?_;simp[hl,d]
def wZ.r{T:iD}{f:FuncId}{fn:jo}{args oN:List D}{dst:Option Nat}{s:St}{R:List Fp}{Q:Rc->St->Prop}{d:D}{ob:Ob}(b:T.fn f=some fn)(a:fn.full=false)(h:Wf T f oN [] λd' H'=>d'=d/\H' = [ob])
  (hs:args.map (gq (λ_=>none) s.H 40)=oN) (e:(o3 d&&pO ob)=true) (c:(mY d&&oy ob)=true) (k:Q ⟨R,[(s.H.length,none)]⟩ { s with env:=put s.env dst (kH s.H.length d),H:=s.H ++ [ob] }):uK T f args R dst s Q .mk:=
 .inl (.inr ⟨fn,d,ob,b,a,by rw[hs];exact h,by split<;>assumption,k⟩)
def afg(a b:List Int)(e:a.length=32)(d:b.length=32):Wf T 158 [.agg (cl fU a),.agg (cl fU b)] [] (Is (.agg (cl fU (kz (1::(a++b)))))):=by have c:=W8 (1::(a++b)) (by simp;omega);have f:=Xd [[1],a,b] (by simp) (by simp) 65 (by simp;omega) (by omega) (by omega);rw[show [[1],a,b].flatten=1::(a++b)by simp]at f;have hl:=rA (1::(a++b));obtain⟨r,i⟩:∃r,kz (1::(a++b))=r:=⟨_,rfl⟩;rw[i]at c hl ⊢;have h:r.take 32=r:=af (by omega);have g:a.take 32=a:=af (by omega);have j:b.take 32=b:=af (by omega);refine Yg Km ?_;simp[Km,e,d,g,j];refine wZ.r rfl rfl f (by simp[DN,ye,Rm,XP,XQ,e,d]) (by simp) (by simp) ?_;simp;refine jh.r rfl rfl c (by simp only[List.map_cons,List.map_nil,AL.Fg,PG];simp only[aor];simp;rw[tM (k:=38) (by simp;omega)];rfl) (by simp[flat]) (by simp) ?_;simp[hl,h]
theorem Q2:∀(k:Nat) (l:List (List Int)),l.length<k->0<l.length->l.length<=64->(∀x∈l,x.length<=3000000000)->Wf T 97 [pc l] [] (Is (.agg (cl fU (oK k l))))
 | 0,l,h,_,_,_=>by omega
 | k+1,l,hk,h0,zX,hx=>by
  by_cases h1:l.length=1
  .obtain⟨x,rfl⟩:∃x,l = [x]:=by
    match l,h1 with
    | [x],_=>exact⟨x,rfl⟩
   rw[Uf];have c:=afd x (hx x (by simp));have hl:=rA (0::x);obtain⟨r,b⟩:∃r,kz (0::x)=r:=⟨_,rfl⟩;rw[b]at c hl ⊢;have a:r.take 32=r:=af (by omega);refine Yg zl ?_;simp[zl];refine Yc (c) ?_;simp[hl,a]
  .have o:=Ww (n:=l.length) (by omega);have cm:=afe l.length (by omega) zX;rw[Ug k (by omega)];obtain⟨m,j⟩:∃m,sY l.length=m:=⟨_,rfl⟩;rw[j]at o cm ⊢;have v:(l.take m).length=m:=by rw[aJ];omega
   have t:(l.drop m).length=l.length-m:=by rw[aQ]
   have i:=Q2 k (l.take m) (by omega) (by omega) (by omega) λx h=>hx x (aN h);have g:=Q2 k (l.drop m) (by omega) (by omega) (by omega) λx h=>hx x (bC h);have e:=Jc (k:=k) (l:=l.take m) (by omega);have d:=Jc (k:=k) (l:=l.drop m) (by omega);obtain⟨A,q⟩:∃A,oK k (l.take m)=A:=⟨_,rfl⟩;obtain⟨B,p⟩:∃B,oK k (l.drop m)=B:=⟨_,rfl⟩;rw[q]at i e ⊢;rw[p]at g d ⊢;have f:=afg A B e d;have hl:=rA (1::(A++B));obtain⟨r,b⟩:∃r,kz (1::(A++B))=r:=⟨_,rfl⟩;rw[b]at f hl ⊢;have a:r.take 32=r:=af (by omega);have n0:¬l.length=0:=by omega
   have s:(l.drop m).take (l.length-m)=l.drop m:=af (by omega);refine Yg zl ?_;simp[zl,n0,h1];(with_reducible repeat' first|refine Xk ?_<;>try simp|refine Xs ?_ ?_<;>intro h<;>(try intro u)<;>(try simp[h])<;>try omega|refine Xg ?_|omega);refine Yc (cm) ?_;simp;refine gf ?_;refine Yt (i) ?_;simp;refine jD s ?_;refine Yt (g) ?_;simp;refine Yt (f) ?_;simp[hl,a]
@[irreducible] def ku(v:List gd):List Int:=oK (v.length+1) (v.map rM)
theorem AT(v:List gd):(ku v).length=32:=by rw[ku];exact Jc (by simp)
def VT(r:gd):(rM r).length=5:=rfl
def Uu(a:Int):mB .i64 a 0=a:=by show a.fdiv (2 ^ (min (0:Int).toNat 64))=a;simp
def aeU(r:gd):Wf T 87 [.agg [.i r.1,.i r.2]] [] (Is (dU (rM r))):=by refine Yg J4 ?_;simp[J4];unfold mK;simp[chunks,ye,rM,Uu]
def aeX(r:gd):Wf T 96 [.agg [.i r.1,.i r.2]] [] (Is (dU (rM r))):=by refine Yg J6 ?_;simp[J6];refine gp.un ?_;refine kS.u ?_;simp;refine kS.s (by simp;rfl) ?_;refine kS.u ?_;simp;refine kS.s (by simp;rfl) ?_;refine kS.u ?_;simp;refine kS.s (by simp;rfl) ?_;refine kS.u ?_;simp;refine kS.s (by simp;rfl) ?_;refine kS.u ?_;simp[Uu];unfold mK;simp[chunks,ye,rM,Uu]
def V5(x:List Int) : [dU x]=cl fB [x]:=by rw[iM,GX]
@[simp] theorem ads(l:List (List Int))(x:List Int):cl fB l ++ [dU x]=cl fB (l ++ [x]):=by rw[<-p9,GX]
theorem W3(v:List gd)(h0:0<v.length)(s:v.length<=64):Wf T 49 [iw v] [] (Is (.agg (cl fU (ku v)))):=by
 have c:Wf T 97 [pc (v.map rM)] [] (Is (.agg (cl fU (ku v)))):=by
  have:=Q2 (v.length+1) (v.map rM) (by simp) (by simpa using h0) (by simpa using s) λx p=>by obtain⟨r,_,rfl⟩:=List.mem_map.1 p;rw[VT];omega
  rw[ku];exact this
 have hl:=AT v;obtain⟨r,q⟩:∃r,ku v=r:=⟨_,rfl⟩;rw[q]at c hl ⊢;have m:r.take 32=r:=af (by omega);refine Yg zi ?_;simp[zi];refine gp.e ((0,[]):Int×List (List Int)) (λy=>[(2,.ptr 0 0 0),(3,if y.2 = []then .gg else .fZ 1 (y.2.length-1) 1 0 y.2.length),(6,iw v),(7,.i v.length),(8,.i y.1)]) (λy=>.row 70 0 (cl fU (zs 32))::(if y.2 = []then []else [.row 22 (y.2.length-1) (cl fB y.2)])) (λy=>(0<=y.1/\y.1<=v.length)/\y.2=(v.take y.1.toNat).map rM) (λy=>(v.length-y.1).toNat) ?_ ?_
 .simp
 rintro⟨i,A⟩ ⟨⟨i0,n⟩,d⟩;dsimp only at i0 n d ⊢;have g:A.length=i.toNat:=by rw[d];simp;omega
 by_cases hi:i<v.length
 .have e:=Fw (l:=v) i0 hi;have f:=aeX (gt v i);obtain⟨b,j⟩:∃b,rM (gt v i)=b:=⟨_,rfl⟩;rw[j]at f;have h:A ++ [b]=(v.take (i+1).toNat).map rM:=by rw[e,List.map_append,<-d,<-j];rfl
  by_cases a:A = []
  .subst a;simp[hi];refine gf ?_;refine Yc (f) ?_;simp;refine gf ?_;refine LJ.i (i+1,[b]) (by first|rfl|simp[V5]) (by first|rfl|simp[V5]) rfl rfl ?_;exact⟨by omega,iE,h⟩
  .have o:0<A.length:=aw.2 a;rw[if_neg a,if_neg a];simp[hi];refine gf ?_;refine Yc (f) ?_;simp;refine gf ?_;refine LJ.i (i+1,A ++ [b]) (by first|rfl|simp[show A.length-1+1=A.length by omega]) (by first|rfl|simp[show A.length-1+1=A.length by omega]) rfl rfl ?_;exact⟨by omega,iE,h⟩
 .have k:i=v.length:=by omega
  subst k;rw[af (by omega)]at d;have a:A≠[]:=λe=>by rw[e]at g;simp at g;omega
  rw[<-d]at c;rw[if_neg a,if_neg a];simp[hi];refine gf ?_;refine gx.r rfl rfl c (by simp[DN]) (by simp[flat]) (by simp) ?_;simp[hl,m]
def W2(v:List gd)(h0:0<v.length)(o:v.length<=64):Wf T 41 [iw v] [] (Is (.agg (cl fU (ku v)))):=by
 have c:Wf T 88 [pc (v.map rM)] [] (Is (.agg (cl fU (ku v)))):=by
  have:=Q1 (v.length+1) (v.map rM) (by simp) (by simpa using h0) (by simpa using o) λx k=>by obtain⟨r,_,rfl⟩:=List.mem_map.1 k;rw[VT];omega
  rw[ku];exact this
 have hl:=AT v;obtain⟨r,m⟩:∃r,ku v=r:=⟨_,rfl⟩;rw[m]at c hl ⊢;have h:r.take 32=r:=af (by omega);refine Yg zh ?_;simp[zh];refine gp.e ((0,[]):Int×List (List Int)) (λy=>[(0,iw v),(2,.ptr 0 0 0),(3,.fZ 1 y.2.length 1 0 y.2.length),(4,.i y.1)]) (λy=>[.row 70 0 (cl fU (zs 32)),.row 22 y.2.length (cl fB y.2)]) (λy=>(0<=y.1/\y.1<=v.length)/\y.2=(v.take y.1.toNat).map rM) (λy=>(v.length-y.1).toNat) ?_ ?_
 .simp
 rintro⟨i,A⟩ ⟨⟨i0,j⟩,a⟩;dsimp only at i0 j a ⊢;have p:A.length=i.toNat:=by rw[a];simp;omega
 by_cases hi:i<v.length
 .have e:=Fw (l:=v) i0 hi;have f:=aeU (gt v i);obtain⟨b,d⟩:∃b,rM (gt v i)=b:=⟨_,rfl⟩;rw[d]at f;have n:A ++ [b]=(v.take (i+1).toNat).map rM:=by rw[e,List.map_append,<-a,<-d];rfl
  simp[hi];refine gf ?_;refine Yc (f) ?_;simp;refine gf ?_;refine LJ.e (i+1,A ++ [b]) ?_;exact⟨by omega,iE,n⟩
 .have g:i=v.length:=by omega
  subst g;rw[af (by omega)]at a;rw[<-a]at c;simp[hi];refine gf ?_;refine gx.r rfl rfl c (by simp[DN]) (by simp[flat]) (by simp) ?_;simp[hl,h]
def WZ{f:FuncId}{args:List D}{d:D}(h:Wf T f args [] (Is d)):Ev T (.call f args []) (ln [(d,[])]):=by refine Ev.mono h λr a=>?_;obtain⟨d',H',a,rfl,rfl⟩:=a;exact⟨_,List.mem_singleton.2 rfl,a⟩
def NB(v:List gd)(b:List Int){a d:D}(f:a=iw v)(c:d = .agg (b.map λn=>.val (.int .u8 n)))(e:ku v=b)(h0:0<v.length)(g:v.length<=64):Ev T (.call 49 [a] []) (ln [(d,[])]):=by subst f c;rw[zF,<-e];exact WZ (W3 v h0 g)
def NA(v:List gd)(b:List Int){a d:D}(f:a=iw v)(c:d = .agg (b.map λn=>.val (.int .u8 n)))(e:ku v=b)(h0:0<v.length)(g:v.length<=64):Ev T (.call 41 [a] []) (ln [(d,[])]):=by subst f c;rw[zF,<-e];exact WZ (W2 v h0 g)
def afl:Wf T 207 [.gg] [] (Is (dU (pad []))):=by
 obtain⟨B,c⟩:∃B,x4 0=B:=⟨_,rfl⟩;have A:B.length=8:=by rw[<-c];rfl
 have w:∀i:Int,0<=i->i<8->gt B i=IntKind.u8.wrap (mB .u64 0 (56-8*i)):=λi i0 d=>by rw[<-c];exact MQ _ i0 d
 obtain⟨p,h⟩:∃p,AN 0=p:=⟨_,rfl⟩;have z:p=63-(0+8) % 64:=by rw[<-h];rfl
 have hP:pad []=128::zs p++B:=by rw[pad];show []++128::(List.replicate (AN 0) 0++x4 0)=_;rw[c,h,vu];simp
 obtain⟨C,n⟩:∃C,128::zs p=C:=⟨_,rfl⟩;rw[hP,n];clear hP c h;have m:IntKind.u64.wrap (0:Int)=0:=rfl;have j:IntKind.u64.wrap (0)=8*0:=rfl;refine Yg Di ?_;simp[Di];refine gf ?_;refine gp.e ((2,[128]):Nat×List Int) (λy=>[(0,.gg),(3,.fZ 0 y.1 1 0 y.2.length)]) (λy=>[.row 5 y.1 (cl fU y.2),.row 5 0 [.val (.int .u8 128)]]) (λy=>∃k:Nat,k<=p/\y.2=128::zs k) (λy=>0+1+p-y.2.length) ?_ ?_
 .exact⟨0,by omega,by simp⟩
 rintro⟨g,q⟩ ⟨k,k0,a⟩;dsimp only at k0 a ⊢;have D:q.length=0+1+k:=by rw[a];simp;omega
 have f:gD ((q.length:Int)+8) 64=((q.length:Int)+8) % 64:=jB (by omega)
 by_cases t:k<p
 .have h1:¬((q.length:Int)+8) % 64=0:=by omega
  have s:q ++ [0]=128::zs (k+1):=by rw[a,<-P'];simp
  simp[f,h1];refine jD f ?_;refine LJ.e (g+1,q ++ [0]) ?_;exact⟨by simp;omega,k+1,t,s⟩
 .have o:k=p:=by omega
  subst o;have h1:((q.length:Int)+8) % 64=0:=by omega
  rw[n]at a;subst a;simp[f,h1,m,j];refine kJ m j ?_;refine gp.e ((0,g,q):Int×Nat×List Int) (λy=>[(3,.fZ 0 y.2.1 1 0 y.2.2.length),(4,.val (.int .u64 0)),(5,.i y.1)]) (λy=>[.row 5 y.2.1 (cl fU y.2.2),.row 5 0 [.val (.int .u8 128)]]) (λy=>(0<=y.1/\y.1<=8)/\y.2.2=q++B.take y.1.toNat) (λy=>(8-y.1).toNat) ?_ ?_
  .simp
  rintro⟨i,v,u⟩ ⟨⟨i0,d⟩,b⟩;dsimp only at i0 d b ⊢;have x:u.length=q.length+i.toNat:=by rw[b];simp;omega
  by_cases hi:i<8
  .have e:=P1 (l:=B) i0 (by omega);rw[w i i0 hi]at e;simp[hi];refine gf ?_;refine LJ.e (i+1,v+1,u ++ [IntKind.u8.wrap (mB .u64 0 (56-8*i))]) ?_;exact⟨by omega,iE,by rw[e,b,aK]⟩
  .have r:i=8:=by omega
   subst r;have e:u=q++B:=by rw[b,af (by omega)]
   subst e;simp;refine gf ?_;rw[ye,List.map_append]
def ae8:Wf T 141 [.gg] [] (Is (.agg (cl fU (kz [])))):=by
 have p:=afl;have q:=Xa;have C:=aaZ [];simp only[da]at C;obtain⟨P,hP⟩:∃P,pad []=P:=⟨_,rfl⟩;obtain⟨S,hS⟩:∃S,BE=S:=⟨_,rfl⟩;have v:S.length=8:=by rw[<-hS];rfl
 obtain⟨r,o⟩:∃r,kz []=r:=⟨_,rfl⟩;have d:yZ (p8 P S (P.length / 64))=r:=by rw[<-o,kz,hP,hS]
 rw[hP]at p C;rw[hS]at q;rw[o];clear hP hS o;refine Yg Dg ?_;simp[Dg];refine Yc (p) ?_;simp;refine Yc (q) ?_;simp[v];refine gp.e ((0,S):Int×List Int) (λy=>[(2,.ptr 0 0 0),(3,dU P),(4,.ptr 1 0 0),(5,.i y.1)]) (λy=>[.row 70 0 (cl fU (zs 32)),.row 323 0 (cl fW y.2)]) (λy=>∃n:Nat,y.1=64*n/\y.1<=P.length/\y.2=p8 P S n) (λy=>(P.length+64-y.1).toNat) ?_ ?_
 .exact⟨0,by simp,by simp,by simp[MT]⟩
 rintro⟨i,s⟩ ⟨n,gF,l,hs⟩;dsimp only at gF l hs ⊢;have a:s.length=8:=by rw[hs];exact DF P v n
 by_cases hi:i<P.length
 .have f:s.take 8=s:=af (by omega);have x:((P.drop i.toNat).take 64).length=64:=by rw[aJ,aQ];omega
  have e:=MU P S n;rw[<-hs,show 64*n=i.toNat by omega]at e;have G:(i+64).toNat-i.toNat=64:=by omega
  obtain⟨B,F⟩:∃B,(P.drop i.toNat).take 64=B:=⟨_,rfl⟩;rw[F]at x e;have c:=Xb s B a x;have z:=MO (s:=s) (b:=B) a;obtain⟨A,I⟩:∃A,tD s B=A:=⟨_,rfl⟩;rw[I]at c e z;simp[hi,a,f];refine qy a f G ?_;rw[G,F];have w:s.drop 8 = []:=br (by omega);refine Yt (c) ?_;simp[z,a,f];refine gf ?_;refine LJ.i (i+64,A) (by first|rfl|simp[w]) (by first|rfl|simp[w]) rfl rfl ?_;exact⟨by omega,n+1,by omega,by omega,e.symm⟩
 .have k:n=P.length / 64:=by omega
  rw[<-k,<-hs]at d;have J:r.length=32:=by rw[<-d];exact E3 s
  have t:∀j:Int,0<=j->j<32->gt r j=IntKind.u8.wrap (mB .u32 (gt s (j / 4)) (24-8*(j % 4))):=λj j0 j1=>by rw[<-d];exact Pg s j0 j1
  clear d hs p q;simp[hi];refine gf ?_;refine gp.e ((0,zs 32):Int×List Int) (λy=>[(2,.ptr 0 0 0),(4,.ptr 1 0 0),(6,.ptr 2 0 0),(7,.i y.1)]) (λy=>[.row 70 0 (cl fU (zs 32)),.row 323 0 (cl fW s),.row 70 0 (cl fU y.2)]) (λy=>(0<=y.1/\y.1<=32)/\y.2.length=32/\∀j:Int,0<=j->j<y.1->gt y.2 j=gt r j) (λy=>(32-y.1).toNat) ?_ ?_
  .exact⟨by simp,by simp,λj j0 j1=>absurd j1 (by dsimp only;omega)⟩
  rintro⟨i,u⟩ ⟨⟨i0,l⟩,g,m⟩;dsimp only at i0 l g m ⊢
  by_cases hi:i<32
  .have D:vi i 4=i / 4:=vj i0 (by omega) (by omega);have E:gD i 4=i % 4:=jB i0;simp[hi,D,E];refine kJ D E ?_;refine LJ.i (i+1,pt u i (gt r i)) (by first|rfl|simp[t i i0 hi]) (by first|rfl|simp[t i i0 hi]) rfl rfl ?_;refine⟨by omega,iE,by rw[iC i0 (by omega)];exact g,λj j0 j1=>?_⟩;dsimp only at j1 ⊢;rw[lK i0 (by omega) j0]
   by_cases e:j=i
   .rw[if_pos e,e]
   .rw[if_neg e];exact m j j0 (by omega)
  .have k:i=32:=by omega
   subst k
   have e:u=r:=by refine bt (by omega) λj j0 j1=>?_;have h:=m j (by omega) (by omega);rw[iZ (by omega) (by omega),iZ (by omega) (by omega)]at h;exact h
   subst e;have H:u.take 32=u:=af (by omega);simp[g,H]
def afc:Wf T 155 [.gg] [] (Is (.agg (cl fU (kz [])))):=by
 have Q:=afp;obtain⟨B,t⟩:∃B,x4 0=B:=⟨_,rfl⟩;have X:B.length=8:=by rw[<-t];rfl
 have R:∀i:Int,0<=i->i<8->gt B i=IntKind.u8.wrap (mB .u64 0 (56-8*i)):=λi i0 n=>by rw[<-t];exact MQ _ i0 n
 obtain⟨p,A⟩:∃p,AN 0=p:=⟨_,rfl⟩;have U:p=63-(0+8) % 64:=by rw[<-A];rfl
 have hP:pad []=128::zs p++B:=by rw[pad];show []++128::(List.replicate (AN 0) 0++x4 0)=_;rw[t,A,vu];simp
 obtain⟨C,D⟩:∃C,128::zs p=C:=⟨_,rfl⟩;rw[D]at hP;have D0:C.length=0+1+p:=by rw[<-D];simp;omega
 obtain⟨r,z⟩:∃r,kz []=r:=⟨_,rfl⟩;obtain⟨S,hS⟩:∃S,BE=S:=⟨_,rfl⟩;have w:S.length=8:=by rw[<-hS];rfl
 have m:yZ (p8 (C++B) S ((C++B).length / 64))=r:=by rw[<-z,kz,hP,hS]
 rw[z];clear hP t A z;have I:S.take 8=S:=af (by omega);have o:IntKind.u64.wrap (0:Int)=0:=rfl;have d:IntKind.u64.wrap (0)=8*0:=rfl;refine Yz zm (iV 36 [2] zm.body) ?_;simp[zm,iV,kq,nb,ng,nD,lV,VL,hS];refine Yc (Q) ?_;simp;refine gf ?_;refine gp.e ((0,[128]):Nat×List Int) (λy=>[(0,.gg),(2,.ptr 0 0 0),(3,.fZ 2 y.1 1 0 y.2.length)]) (λy=>[.row 70 0 (cl fU (zs 32)),.row 5 0 [.val (.int .u8 128)],.row 5 y.1 (cl fU y.2)]) (λy=>∃k:Nat,k<=p/\y.2=128::zs k) (λy=>0+1+p-y.2.length) ?_ ?_
 .exact⟨0,by omega,by simp⟩
 rintro⟨g,q⟩ ⟨k,k0,s⟩;dsimp only at k0 s ⊢;have Z:q.length=0+1+k:=by rw[s];simp;omega
 have b:gD ((q.length:Int)+8) 64=((q.length:Int)+8) % 64:=jB (by omega)
 by_cases M:k<p
 .have h1:¬((q.length:Int)+8) % 64=0:=by omega
  have L:q ++ [0]=128::zs (k+1):=by rw[s,<-P'];simp
  simp[b,h1];refine jD b ?_;refine LJ.e (g+1,q ++ [0]) ?_;exact⟨by simp;omega,k+1,M,L⟩
 .have H:k=p:=by omega
  subst H;have h1:((q.length:Int)+8) % 64=0:=by omega
  rw[D]at s;subst s;simp[b,h1,o,d];refine kJ o d ?_;refine gp.st (by simp;rfl) ?_;refine gp.e ((0,g,q):Int×Nat×List Int) (λy=>[(0,.gg),(2,.ptr 0 0 0),(3,.fZ 2 y.2.1 1 0 y.2.2.length),(4,.i (56-8*y.1))]) (λy=>[.row 70 0 (cl fU (zs 32)),.row 5 0 [.val (.int .u8 128)],.row 5 y.2.1 (cl fU y.2.2)]) (λy=>(0<=y.1/\y.1<=8)/\y.2.2=q++B.take y.1.toNat) (λy=>(8-y.1).toNat) ?_ ?_
  .simp
  rintro⟨i,O,u⟩ ⟨⟨i0,n⟩,a⟩;dsimp only at i0 n a ⊢;have c:u.length=q.length+i.toNat:=by rw[a];simp;omega
  by_cases hi:i<8
  .have e:=P1 (l:=B) i0 (by omega);rw[R i i0 hi]at e;have J:0<=56-8*i:=by omega
   simp[J,d,o];(with_reducible repeat' first|refine Xk ?_<;>try simp[d,o]|refine Xs ?_ ?_<;>intro h<;>(try intro W)<;>(try simp[h,d,o])<;>try omega|refine Xg ?_|omega);refine LJ.i (i+1,O+1,u ++ [IntKind.u8.wrap (mB .u64 0 (56-8*i))]) (by first|rfl|simp[show 56-8*(i+1)=56-8*i-8 by omega]) (by first|rfl|simp[show 56-8*(i+1)=56-8*i-8 by omega]) rfl rfl ?_;exact⟨by omega,iE,by rw[e,a,aK]⟩
  .have x:i=8:=by omega
   subst x;obtain⟨P,hP⟩:∃P,q++B=P:=⟨_,rfl⟩;have Y:P.length=q.length+8:=by rw[<-hP];simp;omega
   have e:u=P:=by rw[a,af (by omega),hP]
   rw[hP]at m;clear c a hP;subst e;simp;refine gf ?_;refine gx.n (by simp[w,I];rfl) ?_;rw[<-ye];refine Yc (Xc u) ?_;simp;refine tC.r (f:=274) (first:=[]) (cap:=[.gC [dU u],.gC [.i 64]]) rfl rfl rfl rfl ?_;simp;refine Wf.mono (Xe u S (by omega) (by omega) w) ?_;rintro _ H' rfl;have K:=DF u w (u.length / 64);obtain⟨v,F⟩:∃v,p8 u S (u.length / 64)=v:=⟨_,rfl⟩;rw[F]at m K ⊢;clear F;have V:r.length=32:=by rw[<-m];exact E3 v
   have E:∀j:Int,0<=j->j<32->gt r j=IntKind.u8.wrap (mB .u32 (gt v (j / 4)) (24-8*(j % 4))):=λj j0 j1=>by rw[<-m];exact Pg v j0 j1
   clear m;refine⟨[(5,.ptr 3 0 0)],.ready,by simp,?_⟩;simp;refine gp.st (by simp;rfl) ?_;refine gp.kg [4] false ((0,zs 32):Int×List Int) (λy=>[(2,.ptr 0 0 0),(5,.ptr 3 0 0),(7,.ptr 5 0 0),(42,.i y.1)]) (λy=>[.row 70 0 (cl fU (zs 32)),.row 5 0 [.val (.int .u8 128)],.dead,.row 323 0 (cl fW v),.jE,.row 70 0 (cl fU y.2)]) (λy=>(0<=y.1/\y.1<=32)/\y.2.length=32/\∀j:Int,0<=j->j<y.1->gt y.2 j=gt r j) (λy=>(32-y.1).toNat) ?_ (by simp) (by first|rfl|(simp[iM];done)|(simp[*];done)) rfl rfl rfl ?_
   .exact⟨by simp,by simp,λj j0 j1=>absurd j1 (by dsimp only;omega)⟩
   rintro⟨i,u⟩ ⟨⟨i0,n⟩,c,a⟩;dsimp only at i0 n c a ⊢
   by_cases hi:i<32
   .have b:vi i 4=i / 4:=vj i0 (by omega) (by omega);have G:gD i 4=i % 4:=jB i0;simp[hi,b,G];refine kJ b G ?_;refine LJ.i (i+1,pt u i (gt r i)) (by first|rfl|simp[E i i0 hi]) (by first|rfl|simp[E i i0 hi]) rfl rfl ?_;refine⟨by omega,iE,by rw[iC i0 (by omega)];exact c,λj j0 j1=>?_⟩;dsimp only at j1 ⊢;rw[lK i0 (by omega) j0]
    by_cases e:j=i
    .rw[if_pos e,e]
    .rw[if_neg e];exact a j j0 (by omega)
   .have x:i=32:=by omega
    subst x
    have e:u=r:=by refine bt (by omega) λj j0 j1=>?_;have h:=a j (by omega) (by omega);rw[iZ (by omega) (by omega),iZ (by omega) (by omega)]at h;exact h
    subst e;have N:u.take 32=u:=af (by omega);simp[c,N]
def Pt:ku []=kz []:=by rw[ku];exact abv 0
def W5:Wf T 88 [pc []] [] (Is (.agg (cl fU (kz [])))):=by have c:=ae8;have hl:=rA [];obtain⟨r,b⟩:∃r,kz []=r:=⟨_,rfl⟩;rw[b]at c hl ⊢;have a:r.take 32=r:=af (by omega);refine Yg zj ?_;simp[zj];refine Yc (c) ?_;simp[hl,a]
def W6:Wf T 97 [.gg] [] (Is (.agg (cl fU (kz [])))):=by have c:=afc;have hl:=rA [];obtain⟨r,b⟩:∃r,kz []=r:=⟨_,rfl⟩;rw[b]at c hl ⊢;have a:r.take 32=r:=af (by omega);refine Yg zl ?_;simp[zl];refine Yc (c) ?_;simp[hl,a]
def dV(v:List gd)(d:D):Prop:=d=iw v\/(v = []/\d = .gg)
def aeH:Wf T 41 [iw []] [] (Is (.agg (cl fU (ku [])))):=by
 rw[Pt];have c:=W5;have hl:=rA [];obtain⟨r,b⟩:∃r,kz []=r:=⟨_,rfl⟩;rw[b]at c hl ⊢;have a:r.take 32=r:=af (by omega);refine Yg zh ?_;simp[zh];refine gp.un ?_;refine kS.u ?_;simp
 trace_state
 refine gx.r rfl rfl c (by simp[DN]) (by simp[flat]) (by simp) ?_;simp[hl,a]
def aeG:Wf T 41 [.gg] [] (Is (.agg (cl fU (ku [])))):=by rw[Pt];have c:=W5;have hl:=rA [];obtain⟨r,b⟩:∃r,kz []=r:=⟨_,rfl⟩;rw[b]at c hl ⊢;have a:r.take 32=r:=af (by omega);refine Yg zh ?_;simp[zh];refine gp.un ?_;refine kS.u ?_;simp;refine gx.r rfl rfl c (by simp[DN]) (by simp[flat]) (by simp) ?_;simp[hl,a]
def aeL:Wf T 49 [iw []] [] (Is (.agg (cl fU (ku [])))):=by rw[Pt];have c:=W6;have hl:=rA [];obtain⟨r,b⟩:∃r,kz []=r:=⟨_,rfl⟩;rw[b]at c hl ⊢;have a:r.take 32=r:=af (by omega);refine Yg zi ?_;simp[zi];refine gp.un ?_;refine kS.u ?_;simp;refine Yc (c) ?_;simp[hl,a]
def aeK:Wf T 49 [.gg] [] (Is (.agg (cl fU (ku [])))):=by rw[Pt];have c:=W6;have hl:=rA [];obtain⟨r,b⟩:∃r,kz []=r:=⟨_,rfl⟩;rw[b]at c hl ⊢;have a:r.take 32=r:=af (by omega);refine Yg zi ?_;simp[zi];refine gp.un ?_;refine kS.u ?_;simp;refine Yc (c) ?_;simp[hl,a]
def Q0{v:List gd}{d:D}(a:dV v d)(b:v.length<=64):Wf T 41 [d] [] (Is (.agg (cl fU (ku v)))):=by
 rcases a with rfl|⟨rfl,rfl⟩
 .by_cases h:v = []
  .subst h;exact aeH
  .exact W2 v (aw.2 h) b
 .exact aeG
def aeM{v:List gd}{d:D}(a:dV v d)(b:v.length<=64):Wf T 49 [d] [] (Is (.agg (cl fU (ku v)))):=by
 rcases a with rfl|⟨rfl,rfl⟩
 .by_cases h:v = []
  .subst h;exact aeL
  .exact W3 v (aw.2 h) b
 .exact aeK
end Go.Proofs.YtmehofoficaelaaGreatDoor
namespace Go.Proofs.YtmehofoficaelaaGreatDoor
open Go Go.AL Classical
set_option maxRecDepth 10000
set_option maxHeartbeats 8000000
structure sv(g:gj)(m:List Int):Prop where
 len:m.length=g.kinds.length
 num:∀a∈m,1<=a/\a<=6
def lvC(m:List Int)(x:Int):Int:=if 0<=gI x then gt m (gI x)else 0
def Tr(m cs:List Int):Nat->Int
 | 0=>0
 | i+1=>Tr m cs i+lvC m (gt cs (i:Int))
def Ts(m a b:List Int):Nat->Int
 | 0=>0
 | i+1=>Ts m a b i+gt m (i:Int)*(gt a (i:Int)+gt b (i:Int))
def anK(r:Int):Int:=if r=0 then 0 else if r=3 then 2 else 1
def IG(m:List Int)(p:Pos):Int:=Tr m p.cs p.cs.length+Ts m p.h0 p.h1 m.length+anK p.gM
@[simp] theorem awY(m cs:List Int):Tr m cs 0=0:=rfl
@[simp] theorem awZ(m a b:List Int):Ts m a b 0=0:=rfl
section
variable{g:gj}{m:List Int}{p:Pos}
end
end Go.Proofs.YtmehofoficaelaaGreatDoor
namespace Go.AL
open Go
def QY:Nat->List (Int×List Int)->List (Value×D)
 | _,[]=>[]
 | k,e::r=>(.int .i64 e.1,.fZ k (e.2.length-1) 1 0 e.2.length)::QY (k+1) r
def rwF(ls:List (Int×List Int)):U:=ls.map λe=>.row 3 (e.2.length-1) (cl f1 e.2)
def LH(m:List Int)(ls:List (Int×List Int)):U:=.row 56 0 [dI m] :: .map (.int .i64) (QY 2 ls)::rwF ls
def abJ{ρ:Nat->Option Nat}{H:U}{v g sz off len v':Nat}(h:ρ v=some v'):gq ρ H 40 (.fZ v g sz off len) = .fZ v' g sz off len:=by rw[AL.Fg,h,abF]
def sh(n:Nat)(env:Env):Prop:=∀p∈env,jk n p.2 = []/\∀ρ:Nat->Option Nat,∀H,(∀v,v<n->ρ v=some v)->gq ρ H 40 p.2=p.2
def ru{n k:Nat}{d:D}{env:Env}(b:closed d=true)(h:sh n env):sh n ((k,d)::env):=λp a=>by
 rcases ao.1 a with rfl|a
 .exact⟨Jv n b,λρ H _=>p6 b⟩
 .exact h p a
def aaG{n k v g o:Nat}{env:Env}(b:v<n)(h:sh n env):sh n ((k,.ptr v g o)::env):=λp a=>by
 rcases ao.1 a with rfl|a
 .exact⟨by simp;omega,λρ H e=>by simp[e v b]⟩
 .exact h p a
def EZ{n:Nat}:sh n []:=λp a=>by cases a
end Go.AL
namespace Go.Proofs.YtmehofoficaelaaGreatDoor
open Go Go.AL Classical
noncomputable def afZ(m:List Int)(l:List Pos)(n:Int)(k:Nat):List Int:=(upto k).filter λi=>decide (IG m (gt l i)=n)
structure GI(m:List Int)(l:List Pos)(i:Int)(ls:List (Int×List Int)):Prop where
 nd:(ls.map (·.1)).Nodup
 mem:∀n,n∈ls.map (·.1)↔∃j:Int,0<=j/\j<i/\IG m (gt l j)=n
 prt:∀e∈ls,e.2=afZ m l e.1 i.toNat
section
variable{m:List Int}{l:List Pos}{i:Int}{ls:List (Int×List Int)}
end
end Go.Proofs.YtmehofoficaelaaGreatDoor
namespace Go.Proofs.YtmehofoficaelaaGreatDoor
open Go Go.AL Classical
section
variable{g:gj}{l:List Pos}{nx:List (List Int)}{part:List Int}
end
structure Chn(L:Nat)(v:List gd)(b:List Bool):Prop where
 vl:v.length=L
 bl:b.length=L
 n:∀i:Int,0<=i->i<L->gt b i=false->(gt v i).1≠2->0<=(gt v i).2/\(0<(gt v i).2->∃j:Int,0<=j/\j<L/\gt b j=false/\(gt v j).1≠2/\(gt v j).2=(gt v i).2-1)
theorem UJ(v:List gd)(b:List Bool)(x:List Int):∀k:Nat,k<=x.length->(lR v b x k).2 = -1\/∃j∈x,gt b j=false/\(gt v j).1=1/\(gt v j).2=(lR v b x k).2
 | 0,_=>.inl rfl
 | k+1,hk=>by
  have c:=UJ v b x k (by omega);have d:gt x (k:Int)∈x:=gA (by omega) (by omega);rw[lR];split
  .rename_i h;dsimp only;rcases Int.le_total (lR v b x k).2 (gt v (gt x (k:Int))).2 with a|a
   .rw[Int.max_eq_right a];exact .inr ⟨_,d,h.1,h.2,rfl⟩
   .rw[Int.max_eq_left a];exact c
  .exact c
section
variable{g:gj}{l:List Pos}{nx:List (List Int)}{part:List Int}{bu:Int}
theorem Nl(o:xR g l nx part bu){v:List gd}{b:List Bool}(a:b.length=l.length){n:Int}:∀i∈sy g l nx part v b n,0<=i/\i<b.length:=λi hi=>by rw[a];exact o.prt i (aea hi)
theorem anV(o:xR g l nx part bu){v:List gd}{b:List Bool}(a:v.length=l.length)(c:b.length=l.length){n:Int}:(rV g l nx part v b n).length=l.length:=by unfold rV;rw[I0 _ _ _ (by rw[a,<-c];exact Nl o c),a]
theorem anU(o:xR g l nx part bu){v:List gd}{b:List Bool}(a:b.length=l.length){n:Int}:(rB g l nx part v b n).length=l.length:=by unfold rB;rw[I0 _ _ _ (Nl o a),a]
theorem X1(o:xR g l nx part bu){v:List gd}{b:List Bool}(c:v.length=l.length)(a:b.length=l.length){n j:Int}(j0:0<=j)(j1:j<l.length):gt (rV g l nx part v b n) j=if j∈sy g l nx part v b n then Nt g l nx v b n j else gt v j:=
 G9 _ _ _ (by rw[c,<-a];exact Nl o a) j j0 (by omega)
theorem Rt(o:xR g l nx part bu){v:List gd}{b:List Bool}(a:b.length=l.length){n j:Int}(j0:0<=j)(j1:j<l.length):gt (rB g l nx part v b n) j=if j∈sy g l nx part v b n then false else gt b j:=
 G9 _ _ _ (Nl o a) j j0 (by omega)
theorem Xp(o:xR g l nx part bu){v:List gd}{b:List Bool}(a:v.length=l.length)(c:b.length=l.length):((xe part v b).1.length=l.length/\(xe part v b).2.length=l.length) /\
  ∀j:Int,0<=j->j<l.length->gt (xe part v b).1 j=(if j∈part/\gt b j=true then(2,0)else gt v j)/\gt (xe part v b).2 j=(if j∈part then false else gt b j):=by
 have hi:∀i∈part.filter (λi=>gt b i),0<=i/\i<l.length:=λi hi=>o.prt i (aL.1 hi).1;unfold xe;dsimp only;refine⟨⟨by rw[I0 _ _ _ (by rw[a];exact hi),a],by rw[I0 _ _ _ (by rw[c];exact hi),c]⟩,λj j0 j1=>?_⟩;rw[G9 _ _ _ (by rw[a];exact hi) j j0 (by omega),G9 _ _ _ (by rw[c];exact hi) j j0 (by omega)];simp only[aL];refine⟨trivial,?_⟩
 by_cases h1:j∈part
 .by_cases d:gt b j=true
  .simp[h1,d]
  .simp[h1,d]
 .simp[h1]
end
section
variable{g:gj}{l:List Pos}{nx:List (List Int)}
end
end Go.Proofs.YtmehofoficaelaaGreatDoor
namespace Go.Proofs.YtmehofoficaelaaGreatDoor
open Go Go.AL Classical
noncomputable def Pa(m:List Int)(l:List Pos)(last:Int):Nat->Int
 | 0 => -1
 | i+1=>if last<IG m (gt l (i:Int))/\(Pa m l last i<0\/IG m (gt l (i:Int))<Pa m l last i)then IG m (gt l (i:Int))else Pa m l last i
@[simp] theorem axg(m:List Int)(l:List Pos)(last:Int):Pa m l last 0 = -1:=rfl
end Go.Proofs.YtmehofoficaelaaGreatDoor
namespace Go.Proofs.YtmehofoficaelaaGreatDoor
open Go Go.AL Classical
def agk{α:Type}[Inhabited α]{n:Nat}{a:α}{k:Int}(k0:0<=k)(k1:k<n):gt (List.replicate n a) k=a:=by unfold gt;rw[List.getD_eq_getElem?_getD,fD,if_pos (by omega)];rfl
section
variable{g:gj}{l:List Pos}{m:List Int}{n k:Int}
end
end Go.Proofs.YtmehofoficaelaaGreatDoor
namespace Go.Proofs.YtmehofoficaelaaGreatDoor
open Go Go.AL Classical
set_option maxRecDepth 10000
set_option maxHeartbeats 8000000
def ac3(b:Int)(l:List gd):Bool:=l.any λs=>s.1 == 8&&s.2 == b
def bec(g:gj)(a b:Int):Bool:=(gt g.kinds a).jr.any (ac3 b)
structure apU(g:gj)(m:List Int):Prop where
 ok:sv g m
 le:∀a b:Int,0<=a->a<g.kinds.length->0<=b->b<g.kinds.length->bec g a b=true->gt m b<=gt m a
def agi{α:Type}[Inhabited α]{l a:List α}{n:Int}(h0:0<=n)(h:n<l.length):gt (l++a) n=gt l n:=by unfold gt;rw[List.getD_eq_getElem?_getD,List.getD_eq_getElem?_getD,ah (by omega)]
end Go.Proofs.YtmehofoficaelaaGreatDoor
namespace Go.Proofs.YtmehofoficaelaaGreatDoor
open Go Go.AL Classical
section
variable{g:gj}{l:List Pos}{nx:List (List Int)}{part:List Int}{bu:Int}
structure Agr(L:Nat)(S:Int->Prop)(v:List gd)(b:List Bool)(v':List gd)(b':List Bool):Prop where
 vl:v.length=L
 bl:b.length=L
 vl':v'.length=L
 bl':b'.length=L
 eb:∀k:Int,0<=k->k<L->S k->gt b k=gt b' k
 ev:∀k:Int,0<=k->k<L->S k->gt b k=false->gt v k=gt v' k
structure apV(l:List Pos)(nx:List (List Int))(part:List Int)(S:Int->Prop):Prop where
 own:∀i∈part,S i
 next:∀i∈part,∀k∈gt nx i,S k
def rep(n:Nat):List Bool:=List.replicate n false
end
section
variable{g:gj}{l:List Pos}{m:List Int}
end
end Go.Proofs.YtmehofoficaelaaGreatDoor
namespace Go.Proofs.YtmehofoficaelaaGreatDoor
open Go Go.AL Classical
structure lG where
 ov:Int->Bool
 rs:Int->Int
 nx:List (List Int)
def ke(A:lG)(v:List gd)(i:Int):Prop:=
 (A.ov i=true/\gt v i=(A.rs i,0))\/(A.ov i=false/\(
  (∃n,1<=n/\gt v i=(1,n)/\(∃k∈gt A.nx i,gt v k=(3,n-1))/\∀k∈gt A.nx i,(gt v k).1=3->n-1<=(gt v k).2) \/
  (∃n,1<=n/\gt v i=(3,n)/\(∀k∈gt A.nx i,(gt v k).1=1/\(gt v k).2<=n-1)/\∃k∈gt A.nx i,(gt v k).2=n-1) \/
  (gt v i=(2,0)/\(∀k∈gt A.nx i,(gt v k).1≠3)/\¬(gt A.nx i≠[]/\∀k∈gt A.nx i,(gt v k).1=1))))
def ke.n0{A:lG}{v:List gd}{i:Int}(h:ke A v i):0<=(gt v i).2:=by rcases h with⟨_,e⟩|⟨_,⟨n,h,e,_⟩|⟨n,h,e,_⟩|⟨e,_⟩⟩<;>rw[e]<;>simp<;>omega
def ke.congr{A:lG}{v v':List gd}{i:Int}(h:ke A v i)(hi:gt v' i=gt v i)(b:∀k∈gt A.nx i,gt v' k=gt v k):ke A v' i:=by
 rcases h with⟨f,c2⟩|⟨f,⟨q,q1,c2,⟨k,c,e⟩,d⟩|⟨q,q1,c2,e,k,c,d⟩|⟨c2,e,d⟩⟩
 .exact .inl ⟨f,by rw[hi];exact c2⟩
 .exact .inr ⟨f,.inl ⟨q,q1,by rw[hi];exact c2,⟨k,c,by rw[b k c];exact e⟩,λp a=>by rw[b p a];exact d p a⟩⟩
 .exact .inr ⟨f,.inr (.inl ⟨q,q1,by rw[hi];exact c2,λp a=>by rw[b p a];exact e p a,k,c,by rw[b k c];exact d⟩)⟩
 .exact .inr ⟨f,.inr (.inr ⟨by rw[hi];exact c2,λp a=>by rw[b p a];exact e p a,λ⟨j,g⟩=>d ⟨j,λp a=>by rw[<-b p a];exact g p a⟩⟩)⟩
section
variable{A:lG}{S:Int->Prop}{v v':List gd}
theorem aac(hS:∀i,S i->∀k∈gt A.nx i,S k)(h:∀i,S i->ke A v i)(f:∀i,S i->ke A v' i){n:Int}
  (j:∀m:Int,0<=m->m<n->∀i,S i->(gt v i).1≠2->(gt v i).2=m->gt v' i=gt v i) (B:∀m:Int,0<=m->m<n->∀i,S i->(gt v' i).1≠2->(gt v' i).2=m->gt v i=gt v' i) :
  ∀i,S i->(gt v i).1≠2->(gt v i).2=n->gt v' i=gt v i:=λi hi z b=>by
 rcases h i hi with⟨o,e⟩|⟨o,⟨m,h1,e,⟨k,l,c⟩,_⟩|⟨m,h1,e,p,k,l,c⟩|⟨e,_⟩⟩
 .rcases f i hi with⟨_,g⟩|⟨o',_⟩
  .rw[e,g]
  .grind
 .rw[e]at b;dsimp only at b;subst b;have u:=j (m-1) (by omega) (by omega) k (hS i hi k l) (by rw[c];simp) (by rw[c]);rw[c]at u;rcases f i hi with⟨o',_⟩|⟨_,⟨d,r,g,_,x⟩|⟨d,_,_,t,_⟩|⟨_,s,_⟩⟩
  .grind
  .grind
  .grind
  .grind
 .rw[e]at b;dsimp only at b;subst b;have y:∀q∈gt A.nx i,gt v' q=gt v q:=λq a=>j _ (h q (hS i hi q a)).n0 (by have:=(p q a).2;omega) q (hS i hi q a) (by rw[(p q a).1];simp) rfl;rcases f i hi with⟨o',_⟩|⟨_,⟨d,_,_,⟨q,a,w⟩,_⟩|⟨d,r,g,t,q,a,w⟩|⟨_,_,s⟩⟩
  .grind
  .grind
  .grind
  .grind
 .grind
theorem aid(hS:∀i,S i->∀k∈gt A.nx i,S k)(h:∀i,S i->ke A v i)(b:∀i,S i->ke A v' i):∀i,S i->gt v i=gt v' i:=by
 have key:∀N:Nat,(∀m:Int,0<=m->m<N->∀i,S i->(gt v i).1≠2->(gt v i).2=m->gt v' i=gt v i)/\(∀m:Int,0<=m->m<N->∀i,S i->(gt v' i).1≠2->(gt v' i).2=m->gt v i=gt v' i):=by
  intro N
  induction N with
  | zero=>exact⟨λm _ _=>by omega,λm _ _=>by omega⟩
  | succ N a=>
   refine⟨λm m0 m1=>?_,λm m0 m1=>?_⟩
   .exact aac hS h b (λq q0 q1=>a.1 q q0 (by omega)) (λq q0 q1=>a.2 q q0 (by omega))
   .exact aac hS b h (λq q0 q1=>a.2 q q0 (by omega)) (λq q0 q1=>a.1 q q0 (by omega))
 intro i hi;have n0:=(h i hi).n0;have c:=(b i hi).n0
 by_cases e:(gt v i).1=2
 .by_cases d:(gt v' i).1=2
  .refine cG (by rw[e,d]) ?_
   have z:∀ {w:List gd},ke A w i->(gt w i).1=2->(gt w i).2=0:=λ{w} f g=>by
    rcases f with⟨_,e⟩|⟨_,⟨n,_,e,_⟩|⟨n,_,e,_⟩|⟨e,_⟩⟩
    .rw[e]
    .grind
    .grind
    .rw[e]
   rw[z (h i hi) e,z (b i hi) d]
  .exact(key ((gt v' i).2.toNat+1)).2 _ c (by omega) i hi d rfl
 .exact((key ((gt v i).2.toNat+1)).1 _ n0 (by omega) i hi e rfl).symm
end
noncomputable def ji(g:gj)(l:List Pos)(nx:List (List Int)):lG:=⟨λi=>(stat g (gt l i)).2,λi=>(stat g (gt l i)).1,nx⟩
end Go.Proofs.YtmehofoficaelaaGreatDoor
namespace Go.Proofs.YtmehofoficaelaaGreatDoor
open Go Go.AL Classical
structure gK where
 who:Int
 lo:Int
 hi:Int
 es:List gd
 root:List Int
 deriving Inhabited
def kA(c:gK)(i:Int):Bool:=decide (c.lo<=i/\i<c.hi)
def kD(c:gK)(i:Int):gd:=gt c.es (i-c.lo)
def sd(cl:List gK)(i:Int):List gd:=(cl.filter λc=>kA c i).map λc=>kD c i
def sK{cl:List gK}{i:Int}{r:gd}:r∈sd cl i↔∃c∈cl,kA c i=true/\kD c i=r:=by
 unfold sd;rw[List.mem_map];constructor
 .grind
 .grind
def tv:List Int->Int
 | [] => -1
 | a::r=>r.foldl min a
def yS:List Int->Int
 | [] => -1
 | a::r=>r.foldl max a
theorem foldl_min:∀(r:List Int) (a:Int),(r.foldl min a=a\/r.foldl min a∈r)/\r.foldl min a<=a/\∀y∈r,r.foldl min a<=y
 | [],a=>⟨.inl rfl,dw _,by simp⟩
 | b::r,a=>by
  obtain⟨h1,e,d⟩:=foldl_min r (min a b);rw[cu];refine⟨?_,by omega,λy c=>?_⟩
  .grind
  .grind
theorem foldl_max:∀(r:List Int) (a:Int),(r.foldl max a=a\/r.foldl max a∈r)/\a<=r.foldl max a/\∀y∈r,y<=r.foldl max a
 | [],a=>⟨.inl rfl,dw _,by simp⟩
 | b::r,a=>by
  obtain⟨h1,e,d⟩:=foldl_max r (max a b);rw[cu];refine⟨?_,by omega,λy c=>?_⟩
  .grind
  .grind
def AG{l:List Int}(h:l≠[]):tv l∈l:=by
 cases l with
 | nil=>exact absurd rfl h
 | cons a r=>
  rcases(foldl_min r a).1 with e|e
  .exact ao.2 (.inl e)
  .exact bj _ e
def Cz{l:List Int}{y:Int}(h:y∈l):tv l<=y:=by
 cases l with
 | nil=>cases h
 | cons a r=>
  rcases ao.1 h with rfl|h
  .exact(foldl_min r y).2.1
  .exact(foldl_min r a).2.2 y h
def O3{l:List Int}(h:l≠[]):yS l∈l:=by
 cases l with
 | nil=>exact absurd rfl h
 | cons a r=>
  rcases(foldl_max r a).1 with e|e
  .exact ao.2 (.inl e)
  .exact bj _ e
def OU{l:List Int}{y:Int}(h:y∈l):y<=yS l:=by
 cases l with
 | nil=>cases h
 | cons a r=>
  rcases ao.1 h with rfl|h
  .exact(foldl_max r y).2.1
  .exact(foldl_max r a).2.2 y h
def mh(l:List gd):Int:=tv ((l.filter λr=>decide (r.1≠2)).map λr=>r.2)
def nC(l:List gd):gd:=l.headD default
def mJ(l:List gd):Bool:=l.any λr=>decide (r≠nC l)
def WE{l:List gd}:mJ l=true↔∃r∈l,r≠nC l:=by simp[mJ]
def Nq{l:List gd}:mJ l=false↔∀r∈l,r=nC l:=by simp[mJ]
def DU{l:List gd}(h:l≠[]):nC l∈l:=by
 cases l with
 | nil=>exact absurd rfl h
 | cons a r=>exact List.mem_cons_self
def ail{l:List gd}{r:gd}(h:r∈l)(a:r.1≠2):mh l<=r.2:=
 Cz (List.mem_map.2 ⟨r,aL.2 ⟨h,by simpa using a⟩,rfl⟩)
def aim{l:List gd}(h:∃r∈l,r.1≠2):∃r∈l,r.1≠2/\r.2=mh l:=by
 obtain⟨r,b,c⟩:=h
 have:=AG (l:=(l.filter λr=>decide (r.1≠2)).map λr=>r.2) λe=>by have:r.2∈(l.filter λr=>decide (r.1≠2)).map λr=>r.2:=List.mem_map.2 ⟨r,aL.2 ⟨b,by simpa using c⟩,rfl⟩;rw[e]at this;cases this
 obtain⟨q,a,e⟩:=List.mem_map.1 this;rw[aL]at a;exact⟨q,a.1,by simpa using a.2,e⟩
def jy(l:List gd)(o:Int):List Int:=(l.filter λr=>decide (r.1=o)).map λr=>r.2
def tu{l:List gd}{o n:Int}:n∈jy l o↔(o,n)∈l:=by
 unfold jy;rw[List.mem_map];constructor
 .grind
 .simp_all
def EV{l:List gd}{o:Int}:(jy l o).length=l.length↔∀r∈l,r.1=o:=by unfold jy;rw[List.length_map,eF];simp
def nM(l:List gd):gd:=
 if jy l 3≠[]then(1,tv (jy l 3)+1)else if l≠[]/\(jy l 1).length=l.length then(3,yS (jy l 1)+1)else(2,0)
def IQ(A:lG)(cl:List gK)(i n:Int):List gd:=(gt A.nx i).map λj=>if mJ (sd cl j)=false/\(nC (sd cl j)).2<n then nC (sd cl j)else(2,0)
def rE(A:lG)(cl:List gK)(i:Int)(c:gK):Bool:=
 kA c i&&(if A.ov i=true then decide (kD c i≠(A.rs i,0))else
  if (nM (IQ A cl i (mh (sd cl i)))).1≠2 then decide (kD c i≠nM (IQ A cl i (mh (sd cl i))))else decide ((kD c i).1≠2/\(kD c i).2=mh (sd cl i)))
def lD(r:gd):Bool:=decide (r=(2,0)\/((r.1=1\/r.1=3)/\0<=r.2))
def ke.dr{A:lG}{v:List gd}{i:Int}(h:ke A v i)(a:(gt v i).1=2):gt v i=(2,0):=by
 rcases h with⟨_,e⟩|⟨_,⟨n,_,e,_⟩|⟨n,_,e,_⟩|⟨e,_⟩⟩
 .grind
 .grind
 .grind
 .exact e
section
variable{A:lG}{V:List gd}{cl:List gK}{N:Int}
theorem aee{i:Int}(c:∀r∈sd cl i,lD r=true)(f:mJ (sd cl i)=true):∃r∈sd cl i,r.1≠2:=by
 obtain⟨r,b,g⟩:=WE.1 f;have h0:=DU (l:=sd cl i) λe=>by rw[e]at b;cases b
 have a:=c r b;have d:=c _ h0;simp only[lD,decide_eq_true_eq]at a d;rcases a with a|a
 .grind
 .grind
theorem apL(gF:∀i,0<=i->i<N->∀k∈gt A.nx i,0<=k/\k<N)(hV:∀i,0<=i->i<N->ke A V i)(I:∀i,0<=i->i<N->gt V i∈sd cl i)
  {i:Int} (i0:0<=i) (H:i<N) (F:∀j,0<=j->j<N->mJ (sd cl j)=true->mh (sd cl i)<=mh (sd cl j)) {c:gK} (hs:kD c i=gt V i):rE A cl i c=false:=by
 have G:∀j∈gt A.nx i,(if mJ (sd cl j)=false/\(nC (sd cl j)).2<mh (sd cl i)then nC (sd cl j)else(2,0))=if (gt V j).1≠2/\(gt V j).2<mh (sd cl i)then gt V j else(2,0):=λj a=>by
  obtain⟨j0,j1⟩:=gF i i0 H j a;have b:=I j j0 j1
  by_cases q:mJ (sd cl j)=true
  .rw[if_neg (λh=>by rw[q]at h;cases h.1)];rw[if_neg];rintro⟨h1,v⟩;have:=ail b h1;have:=F j j0 j1 q;omega
  .have q:mJ (sd cl j)=false:=by simpa using q
   have e:=Nq.1 q _ b;rw[<-e]
   by_cases v:(gt V j).1=2
   .rw[(hV j j0 j1).dr v];simp
   .simp[q,v]
 have E:IQ A cl i (mh (sd cl i))=(gt A.nx i).map λj=>if (gt V j).1≠2/\(gt V j).2<mh (sd cl i)then gt V j else(2,0):=aq G
 unfold rE;rw[hs,E];generalize mh (sd cl i)=n;clear G E F hs I;have b:∀(o p:Int),o≠2->((o,p)∈((gt A.nx i).map λj=>if (gt V j).1≠2/\(gt V j).2<n then gt V j else(2,0))↔∃j∈gt A.nx i,gt V j=(o,p)/\p<n):=λo p P=>by grind
 have hM:∀j∈gt A.nx i,(if (gt V j).1≠2/\(gt V j).2<n then gt V j else(2,0))∈(gt A.nx i).map λj=>if (gt V j).1≠2/\(gt V j).2<n then gt V j else(2,0):=λj a=>List.mem_map.2 ⟨j,a,rfl⟩
 have z:∀r∈(gt A.nx i).map (λj=>if (gt V j).1≠2/\(gt V j).2<n then gt V j else(2,0)),∃j∈gt A.nx i,(if (gt V j).1≠2/\(gt V j).2<n then gt V j else(2,0))=r:=λr u=>List.mem_map.1 u;generalize ((gt A.nx i).map λj=>if (gt V j).1≠2/\(gt V j).2<n then gt V j else(2,0))=M at *;rw[Bool.and_eq_false_iff];right;rcases hV i i0 H with⟨o,e⟩|⟨o,⟨m,m1,e,⟨k,d,t⟩,D⟩|⟨m,m1,e,x,k,d,t⟩|⟨e,K,C⟩⟩
 .grind
 .rw[if_neg (by rw[o];simp),e]
  by_cases g:jy M 3 = []
  .have L:n<=m-1:=by refine fe.1 λh=>?_;have:=tu.2 ((b 3 (m-1) (by decide)).2 ⟨k,d,t,h⟩);rw[g]at this;cases this
   have f:nM M=(2,0):=by unfold nM;rw[if_neg (λh=>h g),if_neg];rintro⟨_,s⟩;have:=EV.1 s _ (hM k d);rw[t,if_neg (by simp;omega)]at this;simp at this
   rw[f];simp;omega
  .obtain⟨j,a,l,O⟩:=(b 3 _ (by decide)).1 (tu.1 (AG g));have h1:=D j a (by rw[l]);rw[l]at h1;dsimp only at h1;have v:=Cz (tu.2 ((b 3 (m-1) (by decide)).2 ⟨k,d,t,by omega⟩))
   have f:nM M=(1,m):=by unfold nM;rw[if_pos g,show tv (jy M 3)+1=m by omega]
   rw[f];simp
 .rw[if_neg (by rw[o];simp),e]
  have g:jy M 3 = []:=by refine aU.2 λp y=>?_;obtain⟨j,a,l,_⟩:=(b 3 _ (by decide)).1 (tu.1 y);have:=(x j a).1;rw[l]at this;simp at this
  by_cases D:m-1<n
  .have B:∀r∈M,r.1=1:=λr u=>by grind
   have w:m-1∈jy M 1:=tu.2 ((b 1 (m-1) (by decide)).2 ⟨k,d,cG (x k d).1 t,D⟩);have Q:=OU w;obtain⟨j,a,l,_⟩:=(b 1 _ (by decide)).1 (tu.1 (O3 λh=>by rw[h]at w;cases w));have J:=(x j a).2;rw[l]at J;dsimp only at J
   have f:nM M=(3,m):=by unfold nM;rw[if_neg (λh=>h g),if_pos ⟨λh=>(by have:=hM k d;rw[h]at this;cases this),EV.2 B⟩,show yS (jy M 1)+1=m by omega]
   rw[f];simp
  .have f:nM M=(2,0):=by unfold nM;rw[if_neg (λh=>h g),if_neg];rintro⟨_,s⟩;have:=EV.1 s _ (hM k d);rw[if_neg (by omega)]at this;simp at this
   rw[f];simp;omega
 .rw[if_neg (by rw[o];simp),e]
  have g:jy M 3 = []:=by refine aU.2 λp y=>?_;obtain⟨j,a,l,_⟩:=(b 3 _ (by decide)).1 (tu.1 y);exact K j a (by rw[l])
  have f:nM M=(2,0):=by
   unfold nM;rw[if_neg (λh=>h g),if_neg];rintro⟨h0,s⟩;obtain⟨r,u⟩:=cM _ h0;obtain⟨j,a,_⟩:=z r u;refine C ⟨λh=>(by rw[h]at a;cases a),λk d=>?_⟩;have:=EV.1 s _ (hM k d);split at this
   .exact this
   .simp at this
  rw[f];simp
theorem acn{i:Int}(j:∀r∈sd cl i,lD r=true)(f:mJ (sd cl i)=true):∃c∈cl,rE A cl i c=true:=by
 have two:∀w:gd,∃c∈cl,kA c i=true/\kD c i≠w:=λw=>by
  obtain⟨r,a,m⟩:=WE.1 f;have h0:=DU (l:=sd cl i) λe=>by rw[e]at a;cases a
  by_cases h:r=w
  .obtain⟨c,h1,d,b⟩:=sK.1 h0;exact⟨c,h1,d,by rw[b,<-h];exactλe=>m e.symm⟩
  .obtain⟨c,h1,d,b⟩:=sK.1 a;exact⟨c,h1,d,by rw[b];exact h⟩
 unfold rE
 by_cases k:A.ov i=true
 .simp_all
 .by_cases g:(nM (IQ A cl i (mh (sd cl i)))).1≠2
  .simp_all
  .obtain⟨r,a,d,e⟩:=aim (aee j f);obtain⟨c,h1,b,rfl⟩:=sK.1 a;exact⟨c,h1,by rw[b,if_neg k,if_neg g];simpa using ⟨d,e⟩⟩
end
end Go.Proofs.YtmehofoficaelaaGreatDoor
namespace Go.Proofs.YtmehofoficaelaaGreatDoor
open Go Go.AL Classical
set_option maxRecDepth 10000
set_option maxHeartbeats 4000000
theorem Qx:∀(n:Nat) (a b:List Int),a.length=n->b.length=n->mI (List.replicate n mH.int) (cl fU a) (cl fU b)=some (decide (a=b))
 | 0,[],[],_,_=>by simp[nO,mI]
 | n+1,x::a,y::b,ha,hb=>by
  have c:=Qx n a b (by simpa using ha) (by simpa using hb);rw[mD,mD,zQ,zQ,bz]
  show(match uO .int (.val (.int .u8 x)) (.val (.int .u8 y)),mI (List.replicate n mH.int) (cl fU a) (cl fU b)with
   | some a,some b=>some (a&&b)
   | _,_=>none)=_
  rw[c];show some (decide (x=y)&&decide (a=b))=_;rw[<-dQ];congr 1;exact decide_eq_decide.2 (by simp)
def Qa:List mH:=List.replicate 32 mH.int
def Vo:Qa = [.int,.int,.int,.int,.int,.int,.int,.int,.int,.int,.int,.int,.int,.int,.int,.int,.int,.int,.int,.int,.int,.int,.int,.int,.int,.int,.int,.int,.int,.int,.int,.int]:=rfl
def dE(em:Bool)(es:List gd):D:=if em then .gg else iw es
structure Cw where
 c:gK
 em:Bool
 deriving Inhabited
def Cw.cells(x:Cw):List D:=[.i x.c.who,.i x.c.lo,.i x.c.hi,dE x.em x.c.es]++cl fU x.c.root
structure Cw.ok(x:Cw):Prop where
 em:x.em=true->x.c.es = []
 es:x.c.es.length<=64
 root:x.c.root.length=32
 lo : -1000000<=x.c.lo/\x.c.lo<=1000000
 hi : -1000000<=x.c.hi/\x.c.hi<=1000000
def Wy{em:Bool}{es:List gd}(h:em=true->es = []):dV es (dE em es):=by
 unfold dE;cases em
 .exact .inl rfl
 .exact .inr ⟨h rfl,rfl⟩
def QL{em:Bool}{es:List gd}(h:em=true->es = [])(H:U):mX .slice (dE em es) H=some (.i es.length):=by
 unfold dE;cases em
 .simp
 .rw[h rfl];simp
@[simp] theorem atW(em:Bool)(es:List gd):closed (dE em es)=true:=by unfold dE;cases em<;>simp
def snd(c:gK):Bool:=decide (0<=c.lo/\c.lo<=c.hi/\(c.es.length:Int)=c.hi-c.lo/\c.root=ku c.es)
def aeJ(x:Cw)(b:x.ok):Wf T 48 [.agg x.cells] [] (Is (.b (snd x.c))):=by
 have e:=aeM (Wy b.em) b.es;have f:=AT x.c.es;have i:=b.root;have n:=b.lo;have o:=b.hi;have m:=b.es;have a:=QL b.em;obtain⟨⟨who,lo,hi,es,root⟩,em⟩:=x;unfold Cw.cells snd;dsimp only at *;obtain⟨r,l⟩:∃r,ku es=r:=⟨_,rfl⟩;rw[l]at e f ⊢;obtain⟨E,g⟩:∃E,dE em es=E:=⟨_,rfl⟩;have j:closed E=true:=by rw[<-g];simp
 rw[g]at e a ⊢;have k:root.take 32=root:=af (by omega);have c:=Qx 32 root r i f;rw[show List.replicate 32 mH.int=Qa from rfl,Vo]at c
 by_cases h1:0<=lo
 .by_cases d:lo<=hi
  .by_cases h:(es.length:Int)=hi-lo
   .refine Yg wP ?_;simp[wP,h1,d,a];refine jD a ?_;refine jh.c rfl rfl e (by simp[j]) (by simp) ?_;simp[k,c,h]
   .refine Yg wP ?_;simp[wP,h1,d,a];refine jD a ?_;simp[h]
  .refine Yg wP ?_;simp[wP,h1,d]
 .refine Yg wP ?_;simp[wP,h1]
def ae5(x:Cw)(b:x.ok):Wf T 127 [.agg x.cells] [] (Is (.b (snd x.c))):=by
 have e:=Q0 (Wy b.em) b.es;have f:=AT x.c.es;have i:=b.root;have n:=b.lo;have o:=b.hi;have m:=b.es;have a:=QL b.em;obtain⟨⟨who,lo,hi,es,root⟩,em⟩:=x;unfold Cw.cells snd;dsimp only at *;obtain⟨r,l⟩:∃r,ku es=r:=⟨_,rfl⟩;rw[l]at e f ⊢;obtain⟨E,g⟩:∃E,dE em es=E:=⟨_,rfl⟩;have j:closed E=true:=by rw[<-g];simp
 rw[g]at e a ⊢;have k:root.take 32=root:=af (by omega);have c:=Qx 32 root r i f;rw[show List.replicate 32 mH.int=Qa from rfl,Vo]at c
 by_cases h1:0<=lo
 .by_cases d:lo<=hi
  .by_cases h:(es.length:Int)=hi-lo
   .refine Yg wR ?_;simp[wR,h1,d,a];refine jD a ?_;refine jh.c rfl rfl e (by simp[j]) (by simp) ?_;simp[k,c,h]
   .refine Yg wR ?_;simp[wR,h1,d,a];refine jD a ?_;simp[h]
  .refine Yg wR ?_;simp[wR,h1,d]
 .refine Yg wR ?_;simp[wR,h1]
@[irreducible] def E7(l:List Int):List Int:=(l++zs 32).take 32
theorem anT(l:List Int):(E7 l).length=32:=by unfold E7;simp
def T5{l:List Int}(h:l.length=32):E7 l=l:=by unfold E7;rw[aW (by omega),af (by omega)]
@[irreducible] def ib(x:Cw):List D:=[.i x.c.who,.i x.c.lo,.i x.c.hi,dE x.em x.c.es]++cl fU (E7 x.c.root)
theorem GY(x:Cw):ib x = [.i x.c.who,.i x.c.lo,.i x.c.hi,dE x.em x.c.es]++cl fU (E7 x.c.root):=by unfold ib;rfl
def NF{x:Cw}(h:x.ok):ib x=x.cells:=by rw[GY,T5 h.root];rfl
instance:Fl ib 36:=⟨λx=>by rw[GY];simp[anT],λx=>by rw[GY];simp[gG]⟩
def jm(n:Int)(c:gK):Bool:=snd c&&decide (c.hi<=n)
noncomputable def u5(V:List gd)(c:gK):Bool:=jm V.length c&&decide (∀i:Int,c.lo<=i->i<c.hi->kD c i=gt V i)
def Jq{c:gK}(h:snd c=true):0<=c.lo/\c.lo<=c.hi/\(c.es.length:Int)=c.hi-c.lo:=by unfold snd at h;have:=of_decide_eq_true h;exact⟨this.1,this.2.1,this.2.2.1⟩
def aeQ(x:Cw)(d:x.ok)(n:Int):Wf T 69 [.agg x.cells,.i n] [] (Is (.b (jm n x.c))):=by
 have c:=ae5 x d;have a:=d.root;have g:(x.cells).length=36:=by unfold Cw.cells;simp[a]
 have f:x.cells.take 36=x.cells:=af (by omega);unfold jm;obtain⟨b,e⟩:∃b,snd x.c=b:=⟨_,rfl⟩;rw[e]at c ⊢;obtain⟨⟨who,lo,hi,es,root⟩,em⟩:=x;unfold Cw.cells at *;dsimp only at *;simp only[bW,aS]at c;refine Yg J2 ?_;simp[J2,a];refine Yc (c) ?_;simp;cases b
 .exact mQ
 .exact mQ
def aeA(x:Cw)(a:x.ok)(V:List gd)(v:V.length<=64):Wf T 22 [.agg x.cells,iw V] [] (Is (.b (u5 V x.c))):=by
 have c:=aeQ x a V.length;have g:=a.root;have p:=a.em;have r:=a.lo;have z:=a.hi;unfold u5
 have k:jm V.length x.c=true->0<=x.c.lo/\x.c.lo<=x.c.hi/\(x.c.es.length:Int)=x.c.hi-x.c.lo/\x.c.hi<=V.length:=λh=>by unfold jm at h;rw[Bool.and_eq_true,decide_eq_true_iff]at h;have:=Jq h.1;exact⟨this.1,this.2.1,this.2.2,h.2⟩
 have q:∀i,kD x.c i=gt x.c.es (i-x.c.lo):=λ_=>rfl;obtain⟨b,n⟩:∃b,jm V.length x.c=b:=⟨_,rfl⟩;rw[n]at c k ⊢;simp only[q];obtain⟨⟨who,lo,hi,es,root⟩,em⟩:=x;unfold Cw.cells at *;dsimp only at *;simp only[bW,aS]at c;cases b
 .refine Yg Db ?_;simp[Db,g];refine Yc (c) ?_;simp
 .obtain⟨u,t,l2,s⟩:=k rfl;rw[eA];refine Yg Db ?_;simp[Db,g];refine Yc (c) ?_;simp;refine gp.e lo (λy=>[(1,iw V),(2,.ptr 0 0 0),(5,.i y)]) (λy=>[.row 72 0 (D.i who::D.i lo::D.i hi::dE em es::cl fU root)]) (λy=>(lo<=y/\y<=hi)/\∀j:Int,lo<=j->j<y->gt es (j-lo)=gt V j) (λy=>(hi-y).toNat) ?_ ?_
  .exact⟨by simp;omega,λj j0 j1=>by omega⟩
  rintro i ⟨⟨i0,m⟩,f⟩;dsimp only at i0 m f ⊢
  by_cases d:i<hi
  .have o:em=false:=by
    cases em
    .rfl
    .have:=p rfl;rw[this]at l2;simp at l2;omega
   subst o
   have hP:(∀j:Int,lo<=j->j<hi->gt es (j-lo)=gt V j)->(gt es (i-lo)).1=(gt V i).1/\(gt es (i-lo)).2=(gt V i).2:=λh=>by rw[h i i0 d];exact⟨rfl,rfl⟩
   simp[d,dE];(with_reducible repeat' first|refine Xk ?_<;>try simp|refine Xs ?_ ?_<;>intro h<;>(try intro w)<;>(try simp[h])<;>try omega|refine Xg ?_|omega)
   .refine LJ.e (i+1) ?_;refine⟨by omega,iE,λj j0 j1=>?_⟩
    by_cases e:j=i
    .rw[e];exact cG (by assumption) (by assumption)
    .exact f j j0 (by omega)
   .exact⟨i,i0,d,λe=>h ⟨by rw[e],by rw[e]⟩⟩
  .have l:i=hi:=by omega
   subst l;simp;exact f
structure rG(l:List Int)(d:D):Prop where
 cl:closed d=true
 len:∀H,mX .slice d H=some (.i l.length)
 idx:∀(n:Int) (k:IntKind) (P:D->Prop),oA (mG 1 d (.val (.int k n))) P .mk=((0<=n/\n<l.length)/\P (.gC [.i (gt l n)]))
def rG.I(l:List Int):rG l (dI l):=⟨by simp,λ_=>by simp,λn k P=>by simp⟩
def rG.e:rG [] .gg:=⟨rfl,λ_=>by simp,λn k P=>by
 have:mG 1 .gg (.val (.int k n))=none:=rfl;rw[this];simp
 omega⟩
def rG.N(l:List Int):rG l (dN 1 f1 l):=by
 cases l with
 | nil=>exact rG.e
 | cons a r=>exact rG.I (a::r)
def ae6{a b:List Int}{x y:D}(l:rG a x)(k:rG b y)(h:a.length=b.length)(r:a.length<=4000000000):Wf T 132 [x,y] [] (Is (.b (decide (a=b)))):=by
 have c:=l.len;have g:=k.len;have f:=l.idx;have d:=k.idx;have o:=l.cl;have n:=k.cl;refine Yg Kh ?_;simp[Kh];refine gp.e (0:Int) (λi=>[(0,x),(1,y),(5,.i i)]) (λi=>[]) (λi=>(0<=i/\i<=a.length)/\∀j:Int,0<=j->j<i->gt a j=gt b j) (λi=>(a.length-i).toNat) ?_ ?_
 .exact⟨by simp,λj j0 j1=>by omega⟩
 rintro i ⟨⟨i0,q⟩,m⟩;dsimp only at i0 q m ⊢
 by_cases hi:i<a.length
 .simp[c,g,f,d,o,n,hi];(with_reducible repeat' first|refine Xk ?_<;>try simp[c,g,f,d,o,n]|refine Xs ?_ ?_<;>intro h<;>(try intro s)<;>(try simp[h,c,g,f,d,o,n])<;>try omega|refine Xg ?_|omega)
  .refine LJ.e (i+1) ?_;refine⟨by omega,iE,λj j0 j1=>?_⟩
   by_cases e:j=i
   .rw[e];assumption
   .exact m j j0 (by omega)
  .rintro rfl;exact absurd rfl ‹_›
 .have p:i=a.length:=by omega
  subst p;simp[c];refine bt h λj j0 j1=>?_;have:=m j (by omega) (by omega);rw[iZ (by omega) (by omega),iZ (by omega) (by omega)]at this;exact this
def aeS{a b:List Int}{x y:D}(f:rG a x)(d:rG b y)(j:a.length<=4000000000):Wf T 74 [x,y] [] (Is (.b (decide (a=b)))):=by
 have i:=f.len;have g:=d.len;have n:=f.cl;have m:=d.cl
 by_cases h:a.length=b.length
 .have c:=ae6 f d h j;refine Yg Dd ?_;simp[Dd,i,g,h];refine gx.c rfl rfl c (by simp[n,m]) (by simp) ?_;simp
 .have l:¬a=b:=λe=>h (by rw[e]);have k:¬(a.length:Int)=b.length:=by omega
  refine Yg Dd ?_;simp[Dd,i,g,h,k,l]
structure zu(l:List gd)(d:D):Prop where
 cl:closed d=true
 len:∀H,mX .slice d H=some (.i l.length)
 idx:∀(n:Int) (k:IntKind) (P:D->Prop),oA (mG 2 d (.val (.int k n))) P .mk=((0<=n/\n<l.length)/\P (.gC [.i (gt l n).1,.i (gt l n).2]))
def zu.I(l:List gd):zu l (iw l):=⟨by simp,λ_=>by simp,λn k P=>by simp⟩
def aeT{a b:List gd}{x y:D}(l:zu a x)(k:zu b y)(t:a.length<=4000000000):Wf T 79 [x,y] [] (Is (.b (decide (a=b)))):=by
 have c:=l.len;have d:=k.len;have g:=l.idx;have f:=k.idx;have o:=l.cl;have n:=k.cl
 by_cases h:a.length=b.length
 .refine Yg De ?_;simp[De,c,d,h];refine qy c d h ?_;refine gp.e (0:Int) (λi=>[(0,x),(1,y),(5,.i i)]) (λi=>[]) (λi=>(0<=i/\i<=a.length)/\∀j:Int,0<=j->j<i->gt a j=gt b j) (λi=>(a.length-i).toNat) ?_ ?_
  .exact⟨by simp,λj j0 j1=>by omega⟩
  rintro i ⟨⟨i0,q⟩,m⟩;dsimp only at i0 q m ⊢
  by_cases hi:i<a.length
  .simp[c,d,g,f,o,n,hi];(with_reducible repeat' first|refine Xk ?_<;>try simp[c,d,g,f,o,n]|refine Xs ?_ ?_<;>intro h<;>(try intro u)<;>(try simp[h,c,d,g,f,o,n])<;>try omega|refine Xg ?_|omega)
   .refine LJ.e (i+1) ?_;refine⟨by omega,iE,λj j0 j1=>?_⟩
    by_cases e:j=i
    .rw[e];exact cG (by assumption) (by assumption)
    .exact m j j0 (by omega)
   .rintro rfl;exact h ⟨rfl,rfl⟩
  .have p:i=a.length:=by omega
   subst p;simp[c];refine bt h λj j0 j1=>?_;have:=m j (by omega) (by omega);rw[iZ (by omega) (by omega),iZ (by omega) (by omega)]at this;exact this
 .have s:¬a=b:=λe=>h (by rw[e]);have r:¬(a.length:Int)=b.length:=by omega
  refine Yg De ?_;simp[De,c,d,h,r,s]
def aeE{v w:List gd}{a b:List Int}{x y r s:D}(l:zu v r)(k:zu w s)(n:rG a x)(m:rG b y)(p:v.length<=4000000000)(o:a.length<=4000000000)(e f:Int):Wf T 32 [.agg [r,x,.i e],.agg [s,y,.i f]] [] (Is (.b (decide (v=w/\a=b/\e=f)))):=by
 have j:=n.cl;have i:=m.cl;have h:=l.cl;have cs:=k.cl;have c:=aeS n m o;have d:=aeT l k p
 by_cases h1:v=w
 .rw[decide_eq_true h1]at d
  by_cases g:a=b
  .rw[decide_eq_true g]at c;refine Yg zg ?_;simp[zg,j,i,h,cs];refine gx.c rfl rfl d (by simp[h,cs]) (by simp) ?_;simp[h1,g];refine gx.c rfl rfl c (by simp[j,i]) (by simp) ?_;simp[h1,g]
  .rw[decide_eq_false g]at c;refine Yg zg ?_;simp[zg,j,i,h,cs];refine gx.c rfl rfl d (by simp[h,cs]) (by simp) ?_;simp[h1,g];refine gx.c rfl rfl c (by simp[j,i]) (by simp) ?_;simp[h1,g]
 .rw[decide_eq_false h1]at d;refine Yg zg ?_;simp[zg,j,i,h,cs];refine gx.c rfl rfl d (by simp[h,cs]) (by simp) ?_;simp[h1]
set_option maxHeartbeats 8000000
def wD(m:Int)(r:gd):Int:=if r.1≠2/\(m<0\/r.2<m)then r.2 else m
def xE(l:List gd):Int:=l.foldl wD (-1)
def aii(l:List gd)(r:gd):xE (l ++ [r])=wD (xE l) r:=by unfold xE;rw[List.foldl_append];rfl
def dd(a b:Int)(q:gd):(!decide (a=q.1) || !decide (b=q.2)) = !decide ((a,b)=q):=by obtain⟨x,y⟩:=q;rw[<-Bool.not_and,<-dQ];congr 1;exact decide_eq_decide.2 (by simp)
def Cw.full(x:Cw):Prop:=x.ok/\(x.c.lo<x.c.hi->(x.c.es.length:Int)=x.c.hi-x.c.lo)
def Cw.XM{x:Cw}(h:x.full){i:Int}(a:kA x.c i=true):x.em=false/\x.c.lo<=i/\i-x.c.lo<x.c.es.length:=by
 unfold kA at a;rw[decide_eq_true_iff]at a;have b:=h.2 (by omega);refine⟨?_,a.1,by omega⟩
 cases e:x.em with
 | false=>rfl
 | true=>
  have:=h.1.em e;rw[this]at b;simp at b;omega
def cs(L:List Cw):List gK:=L.map Cw.c
def kc(p:gK->Bool):List gK->Nat->List Int
 | _,0=>[]
 | cl,n+1=>if p (gt cl (n:Int))=true then kc p cl n ++ [(n:Int)]else kc p cl n
