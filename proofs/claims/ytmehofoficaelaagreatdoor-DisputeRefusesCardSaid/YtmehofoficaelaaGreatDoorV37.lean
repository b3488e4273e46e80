/- 37 -/
import Derived.Test.YtmehofoficaelaaGreatDoorV36
set_option linter.all false
open List renaming map_cons→aE,replicate→bb,mem_singleton→b4,map_append→di,foldl_append→dx,set_cons_succ→eh,length_map→ek,length→List.l
open Go.IntKind renaming u8→bs,u64→dr
open Bool renaming true→cc,false→en
open Option renaming some→cp
open Int renaming toNat→Int.n
namespace Go.Proofs.YtmehofoficaelaaGreatDoor
open Go Go.AL Classical
set_option maxRecDepth 10000
set_option maxHeartbeats 4000000
@[irreducible] def jX(v:List gg):List Int:=oS (v.l+1) (v.map rM)
theorem yT(v:List gg):(jX v).l=32:=by rw[jX];exact IU fZ
def U1(r:gg):(rM r).l=5:=rfl
def TM(a:Int):mG .i64 a 0=a:=by show a.fdiv (2 ^ (min (0:Int).n 64))=a;simp
def ad9(r:gg):Wf T 87 [.agg [.i r.1,.i r.2]] [] (Is (dU (rM r))):=by refine Yg JH ?_;simp[JH];unfold mT;simp[chunks,x4,rM,TM]
def aec(r:gg):Wf T 96 [.agg [.i r.1,.i r.2]] [] (Is (dU (rM r))):=by refine Yg JJ ?_;simp[JJ];refine gx.un ?_;refine kU.u ?_;simp;refine kU.s mu ?_;refine kU.u ?_;simp;refine kU.s mu ?_;refine kU.u ?_;simp;refine kU.s mu ?_;refine kU.u ?_;simp;refine kU.s mu ?_;refine kU.u ?_;simp[TM];unfold mT;simp[chunks,x4,rM,TM]
def Va(x:List Int) : [dU x]=cl fB [x]:=by rw[je,GC]
@[simp] theorem acw(l:List (List Int))(x:List Int):cl fB l ++ [dU x]=cl fB (l ++ [x]):=by rw[<-qc,GC]
theorem Wa(v:List gg)(h0:0<v.l)(s:v.l<=64):Wf T 49 [iw v] [] (Is (.agg (cl fU (jX v)))):=by
 have c:Wf T 97 [pk (v.map rM)] [] (Is (.agg (cl fU (jX v)))):=by
  have:=Ql (v.l+1) (v.map rM) fZ (by simpa using h0) (by simpa using s) λx p=>by obtain⟨r,_,rfl⟩:=az.1 p;rw[U1];omega
  rw[jX];exact this
 have hl:=yT v;obtain⟨r,q⟩:∃r,jX v=r:=⟨_,rfl⟩;rw[q]at c hl ⊢;have k:r.take 32=r:=af U;refine Yg zc ?_;simp[zc];refine gx.e ((0,[]):Int×List (List Int)) (λy=>[(2,.ptr 0 0 0),(3,if y.2 = []then .gi else .gf 1 (y.2.l-1) 1 0 y.2.l),(6,iw v),(7,.i v.l),(8,.i y.1)]) (λy=>.row 70 0 (cl fU (zs 32))::(if y.2 = []then []else [.row 22 (y.2.l-1) (cl fB y.2)])) (λy=>(0<=y.1/\y.1<=v.l)/\y.2=(v.take y.1.n).map rM) (λy=>(v.l-y.1).n) ?_ ?_
 .simp
 rintro⟨i,A⟩ ⟨⟨i0,n⟩,d⟩;dsimp only at i0 n d ⊢;have g:A.l=i.n:=by rw[d];simp;omega
 by_cases hi:i<v.l
 .have e:=Jb (l:=v) i0 hi;have f:=aec (gt v i);obtain⟨b,j⟩:∃b,rM (gt v i)=b:=⟨_,rfl⟩;rw[j]at f;have h:A ++ [b]=(v.take (i+1).n).map rM:=by rw[e,di,<-d,<-j];rfl
  by_cases a:A = []
  .subst a;simp[hi];refine gh ?_;refine Yc (f) ?_;simp;refine gh ?_;refine LJ.i (i+1,[b]) (by first|rfl|simp[Va]) (by first|rfl|simp[Va]) rfl rfl ?_;exact⟨U,iM,h⟩
  .have o:0<A.l:=ay.2 a;rw[if_neg a,if_neg a];simp[hi];refine gh ?_;refine Yc (f) ?_;simp;refine gh ?_;refine LJ.i (i+1,A ++ [b]) (by first|rfl|simp[(U:A.l-1+1=A.l)]) (by first|rfl|simp[(U:A.l-1+1=A.l)]) rfl rfl ?_;exact⟨U,iM,h⟩
 .have m:i=v.l:=by omega
  subst m;rw[af U]at d;have a:A≠[]:=λe=>by rw[e]at g;simp at g;omega
  rw[<-d]at c;rw[if_neg a,if_neg a];simp[hi];refine gh ?_;refine gy.r rfl rfl c (by simp[DC]) (by simp[flat]) fZ ?_;simp[hl,k]
def V9(v:List gg)(h0:0<v.l)(o:v.l<=64):Wf T 41 [iw v] [] (Is (.agg (cl fU (jX v)))):=by
 have c:Wf T 88 [pk (v.map rM)] [] (Is (.agg (cl fU (jX v)))):=by
  have:=Qk (v.l+1) (v.map rM) fZ (by simpa using h0) (by simpa using o) λx k=>by obtain⟨r,_,rfl⟩:=az.1 k;rw[U1];omega
  rw[jX];exact this
 have hl:=yT v;obtain⟨r,m⟩:∃r,jX v=r:=⟨_,rfl⟩;rw[m]at c hl ⊢;have g:r.take 32=r:=af U;refine Yg zb ?_;simp[zb];refine gx.e ((0,[]):Int×List (List Int)) (λy=>[(0,iw v),(2,.ptr 0 0 0),(3,.gf 1 y.2.l 1 0 y.2.l),(4,.i y.1)]) (λy=>[.row 70 0 (cl fU (zs 32)),.row 22 y.2.l (cl fB y.2)]) (λy=>(0<=y.1/\y.1<=v.l)/\y.2=(v.take y.1.n).map rM) (λy=>(v.l-y.1).n) ?_ ?_
 .simp
 rintro⟨i,A⟩ ⟨⟨i0,j⟩,a⟩;dsimp only at i0 j a ⊢;have p:A.l=i.n:=by rw[a];simp;omega
 by_cases hi:i<v.l
 .have e:=Jb (l:=v) i0 hi;have f:=ad9 (gt v i);obtain⟨b,d⟩:∃b,rM (gt v i)=b:=⟨_,rfl⟩;rw[d]at f;have n:A ++ [b]=(v.take (i+1).n).map rM:=by rw[e,di,<-a,<-d];rfl
  simp[hi];refine gh ?_;refine Yc (f) ?_;simp;refine gh ?_;refine LJ.e (i+1,A ++ [b]) ?_;exact⟨U,iM,n⟩
 .have h:i=v.l:=by omega
  subst h;rw[af U]at a;rw[<-a]at c;simp[hi];refine gh ?_;refine gy.r rfl rfl c (by simp[DC]) (by simp[flat]) fZ ?_;simp[hl,g]
def V5{f:FuncId}{args:List D}{d:D}(h:Wf T f args [] (Is d)):Ev T (.call f args []) (ly [(d,[])]):=by refine Ev.mono h λr a=>?_;obtain⟨d',H',a,rfl,rfl⟩:=a;exact⟨_,b4.2 rfl,a⟩
def M7(v:List gg)(b:List Int){a d:D}(f:a=iw v)(c:d = .agg (b.map λn=>.val (.int .u8 n)))(e:jX v=b)(h0:0<v.l)(g:v.l<=64):Ev T (.call 49 [a] []) (ly [(d,[])]):=by subst f c;rw[zx,<-e];exact V5 (Wa v h0 g)
def M6(v:List gg)(b:List Int){a d:D}(f:a=iw v)(c:d = .agg (b.map λn=>.val (.int .u8 n)))(e:jX v=b)(h0:0<v.l)(g:v.l<=64):Ev T (.call 41 [a] []) (ly [(d,[])]):=by subst f c;rw[zx,<-e];exact V5 (V9 v h0 g)
def aeA:Wf T 207 [.gi] [] (Is (dU (pad []))):=by
 obtain⟨B,c⟩:∃B,xS 0=B:=⟨_,rfl⟩;have A:B.l=8:=by rw[<-c];rfl
 have w:∀i:Int,0<=i->i<8->gt B i=bs.wrap (mG .u64 0 (56-8*i)):=λi i0 d=>by rw[<-c];exact Ml _ i0 d
 obtain⟨p,h⟩:∃p,AD 0=p:=⟨_,rfl⟩;have z:p=63-(0+8) % 64:=by rw[<-h];rfl
 have hP:pad []=128::zs p++B:=by rw[pad];show []++128::(bb (AD 0) 0++xS 0)=_;rw[c,h,vb];simp
 obtain⟨C,n⟩:∃C,128::zs p=C:=⟨_,rfl⟩;rw[hP,n];clear hP c h;have m:dr.wrap (0:Int)=0:=rfl;have j:dr.wrap (0)=8*0:=rfl;refine Yg C7 ?_;simp[C7];refine gh ?_;refine gx.e ((2,[128]):Nat×List Int) (λy=>[(0,.gi),(3,.gf 0 y.1 1 0 y.2.l)]) (λy=>[.row 5 y.1 (cl fU y.2),.row 5 0 [.val (.int .u8 128)]]) (λy=>∃k:Nat,k<=p/\y.2=128::zs k) (λy=>0+1+p-y.2.l) ?_ ?_
 .exact⟨0,U,fZ⟩
 rintro⟨g,q⟩ ⟨k,k0,a⟩;dsimp only at k0 a ⊢;have D:q.l=0+1+k:=by rw[a];simp;omega
 have f:gG ((q.l:Int)+8) 64=((q.l:Int)+8) % 64:=jM U
 by_cases t:k<p
 .have h1:¬((q.l:Int)+8) % 64=0:=by omega
  have s:q ++ [0]=128::zs (k+1):=by rw[a,<-PE];simp
  simp[f,h1];refine jT f ?_;refine LJ.e (g+1,q ++ [0]) ?_;exact⟨gL,k+1,t,s⟩
 .have o:k=p:=by omega
  subst o;have h1:((q.l:Int)+8) % 64=0:=U;rw[n]at a;subst a;simp[f,h1,m,j];refine kP m j ?_;refine gx.e ((0,g,q):Int×Nat×List Int) (λy=>[(3,.gf 0 y.2.1 1 0 y.2.2.l),(4,.val (.int .u64 0)),(5,.i y.1)]) (λy=>[.row 5 y.2.1 (cl fU y.2.2),.row 5 0 [.val (.int .u8 128)]]) (λy=>(0<=y.1/\y.1<=8)/\y.2.2=q++B.take y.1.n) (λy=>(8-y.1).n) ?_ ?_
  .simp
  rintro⟨i,v,u⟩ ⟨⟨i0,d⟩,b⟩;dsimp only at i0 d b ⊢;have x:u.l=q.l+i.n:=by rw[b];simp;omega
  by_cases hi:i<8
  .have e:=Ps (l:=B) i0 U;rw[w i i0 hi]at e;simp[hi];refine gh ?_;refine LJ.e (i+1,v+1,u ++ [bs.wrap (mG .u64 0 (56-8*i))]) ?_;exact⟨U,iM,by rw[e,b,aL]⟩
  .have r:i=8:=by omega
   subst r;have e:u=q++B:=by rw[b,af U]
   subst e;simp;refine gh ?_;rw[x4,di]
def aen:Wf T 141 [.gi] [] (Is (.agg (cl fU (kH [])))):=by
 have o:=aeA;have p:=Wm;have z:=aal [];simp only[cW]at z;obtain⟨P,hP⟩:∃P,pad []=P:=⟨_,rfl⟩;obtain⟨S,hS⟩:∃S,By=S:=⟨_,rfl⟩;have t:S.l=8:=by rw[<-hS];rfl
 obtain⟨r,m⟩:∃r,kH []=r:=⟨_,rfl⟩;have d:yS (qb P S (P.l / 64))=r:=by rw[<-m,kH,hP,hS]
 rw[hP]at o z;rw[hS]at p;rw[m];clear hP hS m;refine Yg C5 ?_;simp[C5];refine Yc (o) ?_;simp;refine Yc (p) ?_;simp[t];refine gx.e ((0,S):Int×List Int) (λy=>[(2,.ptr 0 0 0),(3,dU P),(4,.ptr 1 0 0),(5,.i y.1)]) (λy=>[.row 70 0 (cl fU (zs 32)),.row 323 0 (cl fW y.2)]) (λy=>∃n:Nat,y.1=64*n/\y.1<=P.l/\y.2=qb P S n) (λy=>(P.l+64-y.1).n) ?_ ?_
 .exact⟨0,fZ,fZ,by simp[Mn]⟩
 rintro⟨i,s⟩ ⟨n,H,l,hs⟩;dsimp only at H l hs ⊢;have a:s.l=8:=by rw[hs];exact Ds P t n
 by_cases hi:i<P.l
 .have f:s.take 8=s:=af U;have w:((P.drop i.n).take 64).l=64:=by rw[aJ,aU];omega
  have e:=Mo P S n;rw[<-hs,(U:64*n=i.n)]at e;have G:(i+64).n-i.n=64:=U;obtain⟨B,F⟩:∃B,(P.drop i.n).take 64=B:=⟨_,rfl⟩;rw[F]at w e;have c:=Wn s B a w;have x:=Mi (s:=s) (b:=B) a;obtain⟨A,J⟩:∃A,tw s B=A:=⟨_,rfl⟩;rw[J]at c e x;simp[hi,a,f];refine nL a f G ?_;rw[G,F];have v:s.drop 8 = []:=bQ U;refine Yt (c) ?_;simp[x,a,f];refine gh ?_;refine LJ.i (i+64,A) (by first|rfl|simp[v]) (by first|rfl|simp[v]) rfl rfl ?_;exact⟨U,n+1,U,U,e.symm⟩
 .have k:n=P.l / 64:=by omega
  rw[<-k,<-hs]at d;have K:r.l=32:=by rw[<-d];exact EU s
  have q:∀j:Int,0<=j->j<32->gt r j=bs.wrap (mG .u32 (gt s (j / 4)) (24-8*(j % 4))):=λj j0 j1=>by rw[<-d];exact OL s j0 j1
  clear d hs o p;simp[hi];refine gh ?_;refine gx.e ((0,zs 32):Int×List Int) (λy=>[(2,.ptr 0 0 0),(4,.ptr 1 0 0),(6,.ptr 2 0 0),(7,.i y.1)]) (λy=>[.row 70 0 (cl fU (zs 32)),.row 323 0 (cl fW s),.row 70 0 (cl fU y.2)]) (λy=>(0<=y.1/\y.1<=32)/\y.2.l=32/\∀j:Int,0<=j->j<y.1->gt y.2 j=gt r j) (λy=>(32-y.1).n) ?_ ?_
  .exact⟨fZ,fZ,λj j0 j1=>absurd j1 gJ⟩
  rintro⟨i,u⟩ ⟨⟨i0,l⟩,g,C⟩;dsimp only at i0 l g C ⊢
  by_cases hi:i<32
  .have D:u0 i 4=i / 4:=u4 i0 U U;have E:gG i 4=i % 4:=jM i0;simp[hi,D,E];refine kP D E ?_;refine LJ.i (i+1,pt u i (gt r i)) (by first|rfl|simp[q i i0 hi]) (by first|rfl|simp[q i i0 hi]) rfl rfl ?_;refine⟨U,iM,by rw[iW i0 U];exact g,λj j0 j1=>?_⟩;dsimp only at j1 ⊢;rw[py i0 U j0]
   by_cases e:j=i
   .grind
   .grind
  .have k:i=32:=by omega
   subst k
   have e:u=r:=by refine bg U λj j0 j1=>?_;have h:=C j U U;rw[iX U U,iX U U]at h;exact h
   subst e;have I:u.take 32=u:=af U;simp[g,I]
def aer:Wf T 155 [.gi] [] (Is (.agg (cl fU (kH [])))):=by
 have Q:=aeE;obtain⟨B,t⟩:∃B,xS 0=B:=⟨_,rfl⟩;have Y:B.l=8:=by rw[<-t];rfl
 have R:∀i:Int,0<=i->i<8->gt B i=bs.wrap (mG .u64 0 (56-8*i)):=λi i0 n=>by rw[<-t];exact Ml _ i0 n
 obtain⟨p,A⟩:∃p,AD 0=p:=⟨_,rfl⟩;have V:p=63-(0+8) % 64:=by rw[<-A];rfl
 have hP:pad []=128::zs p++B:=by rw[pad];show []++128::(bb (AD 0) 0++xS 0)=_;rw[t,A,vb];simp
 obtain⟨C,D⟩:∃C,128::zs p=C:=⟨_,rfl⟩;rw[D]at hP;have DT:C.l=0+1+p:=by rw[<-D];simp;omega
 obtain⟨r,z⟩:∃r,kH []=r:=⟨_,rfl⟩;obtain⟨S,hS⟩:∃S,By=S:=⟨_,rfl⟩;have w:S.l=8:=by rw[<-hS];rfl
 have d:yS (qb (C++B) S ((C++B).l / 64))=r:=by rw[<-z,kH,hP,hS]
 rw[z];clear hP t A z;have I:S.take 8=S:=af U;have o:dr.wrap (0:Int)=0:=rfl;have m:dr.wrap (0)=8*0:=rfl;refine Yz zg (ji 36 [2] zg.body) ?_;simp[zg,ji,kK,nq,nA,nR,mm,UX,hS];refine Yc (Q) ?_;simp;refine gh ?_;refine gx.e ((0,[128]):Nat×List Int) (λy=>[(0,.gi),(2,.ptr 0 0 0),(3,.gf 2 y.1 1 0 y.2.l)]) (λy=>[.row 70 0 (cl fU (zs 32)),.row 5 0 [.val (.int .u8 128)],.row 5 y.1 (cl fU y.2)]) (λy=>∃k:Nat,k<=p/\y.2=128::zs k) (λy=>0+1+p-y.2.l) ?_ ?_
 .exact⟨0,U,fZ⟩
 rintro⟨g,q⟩ ⟨k,k0,s⟩;dsimp only at k0 s ⊢;have Ej:q.l=0+1+k:=by rw[s];simp;omega
 have b:gG ((q.l:Int)+8) 64=((q.l:Int)+8) % 64:=jM U
 by_cases M:k<p
 .have h1:¬((q.l:Int)+8) % 64=0:=by omega
  have L:q ++ [0]=128::zs (k+1):=by rw[s,<-PE];simp
  simp[b,h1];refine jT b ?_;refine LJ.e (g+1,q ++ [0]) ?_;exact⟨gL,k+1,M,L⟩
 .have H:k=p:=by omega
  subst H;have h1:((q.l:Int)+8) % 64=0:=U;rw[D]at s;subst s;simp[b,h1,o,m];refine kP o m ?_;refine gx.st mu ?_;refine gx.e ((0,g,q):Int×Nat×List Int) (λy=>[(0,.gi),(2,.ptr 0 0 0),(3,.gf 2 y.2.1 1 0 y.2.2.l),(4,.i (56-8*y.1))]) (λy=>[.row 70 0 (cl fU (zs 32)),.row 5 0 [.val (.int .u8 128)],.row 5 y.2.1 (cl fU y.2.2)]) (λy=>(0<=y.1/\y.1<=8)/\y.2.2=q++B.take y.1.n) (λy=>(8-y.1).n) ?_ ?_
  .simp
  rintro⟨i,O,u⟩ ⟨⟨i0,n⟩,a⟩;dsimp only at i0 n a ⊢;have c:u.l=q.l+i.n:=by rw[a];simp;omega
  by_cases hi:i<8
  .have e:=Ps (l:=B) i0 U;rw[R i i0 hi]at e;have J:0<=56-8*i:=U;simp[J,m,o];(with_reducible repeat' first|refine Xk ?_<;>try simp[m,o]|refine Xs ?_ ?_<;>intro h<;>(try intro X)<;>(try simp[h,m,o])<;>try omega|refine Xg ?_|omega);refine LJ.i (i+1,O+1,u ++ [bs.wrap (mG .u64 0 (56-8*i))]) (by first|rfl|simp[(U:56-8*(i+1)=56-8*i-8)]) (by first|rfl|simp[(U:56-8*(i+1)=56-8*i-8)]) rfl rfl ?_;exact⟨U,iM,by rw[e,a,aL]⟩
  .have x:i=8:=by omega
   subst x;obtain⟨P,hP⟩:∃P,q++B=P:=⟨_,rfl⟩;have Z:P.l=q.l+8:=by rw[<-hP];simp;omega
   have e:u=P:=by rw[a,af U,hP]
   rw[hP]at d;clear c a hP;subst e;simp;refine gh ?_;refine gy.n (by simp[w,I];rfl) ?_;rw[<-x4];refine Yc (Wp u) ?_;simp;refine tv.r (f:=274) (first:=[]) (cap:=[.gC [dU u],.gC [.i 64]]) rfl rfl rfl rfl ?_;simp;refine Wf.mono (Wr u S U U w) ?_;rintro _ H' rfl;have K:=Ds u w (u.l / 64);obtain⟨v,F⟩:∃v,qb u S (u.l / 64)=v:=⟨_,rfl⟩;rw[F]at d K ⊢;clear F;have W:r.l=32:=by rw[<-d];exact EU v
   have E:∀j:Int,0<=j->j<32->gt r j=bs.wrap (mG .u32 (gt v (j / 4)) (24-8*(j % 4))):=λj j0 j1=>by rw[<-d];exact OL v j0 j1
   clear d;refine⟨[(5,.ptr 3 0 0)],.ready,fZ,?_⟩;simp;refine gx.st mu ?_;refine gx.kg [4] en ((0,zs 32):Int×List Int) (λy=>[(2,.ptr 0 0 0),(5,.ptr 3 0 0),(7,.ptr 5 0 0),(42,.i y.1)]) (λy=>[.row 70 0 (cl fU (zs 32)),.row 5 0 [.val (.int .u8 128)],.dead,.row 323 0 (cl fW v),.jH,.row 70 0 (cl fU y.2)]) (λy=>(0<=y.1/\y.1<=32)/\y.2.l=32/\∀j:Int,0<=j->j<y.1->gt y.2 j=gt r j) (λy=>(32-y.1).n) ?_ fZ (by first|rfl|(simp[je];done)|(simp[*];done)) rfl rfl rfl ?_
   .exact⟨fZ,fZ,λj j0 j1=>absurd j1 gJ⟩
   rintro⟨i,u⟩ ⟨⟨i0,n⟩,c,a⟩;dsimp only at i0 n c a ⊢
   by_cases hi:i<32
   .have b:u0 i 4=i / 4:=u4 i0 U U;have G:gG i 4=i % 4:=jM i0;simp[hi,b,G];refine kP b G ?_;refine LJ.i (i+1,pt u i (gt r i)) (by first|rfl|simp[E i i0 hi]) (by first|rfl|simp[E i i0 hi]) rfl rfl ?_;refine⟨U,iM,by rw[iW i0 U];exact c,λj j0 j1=>?_⟩;dsimp only at j1 ⊢;rw[py i0 U j0]
    by_cases e:j=i
    .grind
    .grind
   .have x:i=32:=by omega
    subst x
    have e:u=r:=by refine bg U λj j0 j1=>?_;have h:=a j U U;rw[iX U U,iX U U]at h;exact h
    subst e;have N:u.take 32=u:=af U;simp[c,N]
def OY:jX []=kH []:=by rw[jX];exact aaP 0
def Wg:Wf T 88 [pk []] [] (Is (.agg (cl fU (kH [])))):=by have c:=aen;have hl:=rE [];obtain⟨r,b⟩:∃r,kH []=r:=⟨_,rfl⟩;rw[b]at c hl ⊢;have a:r.take 32=r:=af U;refine Yg zd ?_;simp[zd];refine Yc (c) ?_;simp[hl,a]
def Wh:Wf T 97 [.gi] [] (Is (.agg (cl fU (kH [])))):=by have c:=aer;have hl:=rE [];obtain⟨r,b⟩:∃r,kH []=r:=⟨_,rfl⟩;rw[b]at c hl ⊢;have a:r.take 32=r:=af U;refine Yg zf ?_;simp[zf];refine Yc (c) ?_;simp[hl,a]
def dV(v:List gg)(d:D):Prop:=d=iw v\/(v = []/\d = .gi)
def adV:Wf T 41 [iw []] [] (Is (.agg (cl fU (jX [])))):=by
 rw[OY];have c:=Wg;have hl:=rE [];obtain⟨r,b⟩:∃r,kH []=r:=⟨_,rfl⟩;rw[b]at c hl ⊢;have a:r.take 32=r:=af U;refine Yg zb ?_;simp[zb];refine gx.un ?_;refine kU.u ?_;simp
 trace_state
 refine gy.r rfl rfl c (by simp[DC]) (by simp[flat]) fZ ?_;simp[hl,a]
def adU:Wf T 41 [.gi] [] (Is (.agg (cl fU (jX [])))):=by rw[OY];have c:=Wg;have hl:=rE [];obtain⟨r,b⟩:∃r,kH []=r:=⟨_,rfl⟩;rw[b]at c hl ⊢;have a:r.take 32=r:=af U;refine Yg zb ?_;simp[zb];refine gx.un ?_;refine kU.u ?_;simp;refine gy.r rfl rfl c (by simp[DC]) (by simp[flat]) fZ ?_;simp[hl,a]
def adZ:Wf T 49 [iw []] [] (Is (.agg (cl fU (jX [])))):=by rw[OY];have c:=Wh;have hl:=rE [];obtain⟨r,b⟩:∃r,kH []=r:=⟨_,rfl⟩;rw[b]at c hl ⊢;have a:r.take 32=r:=af U;refine Yg zc ?_;simp[zc];refine gx.un ?_;refine kU.u ?_;simp;refine Yc (c) ?_;simp[hl,a]
def adY:Wf T 49 [.gi] [] (Is (.agg (cl fU (jX [])))):=by rw[OY];have c:=Wh;have hl:=rE [];obtain⟨r,b⟩:∃r,kH []=r:=⟨_,rfl⟩;rw[b]at c hl ⊢;have a:r.take 32=r:=af U;refine Yg zc ?_;simp[zc];refine gx.un ?_;refine kU.u ?_;simp;refine Yc (c) ?_;simp[hl,a]
def V'{v:List gg}{d:D}(a:dV v d)(b:v.l<=64):Wf T 41 [d] [] (Is (.agg (cl fU (jX v)))):=by
 rcases a with rfl|⟨rfl,rfl⟩
 .by_cases h:v = []
  .subst h;exact adV
  .exact V9 v (ay.2 h) b
 .exact adU
def ad0{v:List gg}{d:D}(a:dV v d)(b:v.l<=64):Wf T 49 [d] [] (Is (.agg (cl fU (jX v)))):=by
 rcases a with rfl|⟨rfl,rfl⟩
 .by_cases h:v = []
  .subst h;exact adZ
  .exact Wa v (ay.2 h) b
 .exact adY
structure gV where
 who:Int
 lo:Int
 hi:Int
 es:List gg
 root:List Int
 deriving Inhabited
def mR(c:gV)(i:Int):Bool:=decide (c.lo<=i/\i<c.hi)
def mb(c:gV)(i:Int):gg:=gt c.es (i-c.lo)
def sd(cl:List gV)(i:Int):List gg:=(cl.filter λc=>mR c i).map λc=>mb c i
def xx{cl:List gV}{i:Int}{r:gg}:r∈sd cl i↔∃c∈cl,mR c i=cc/\mb c i=r:=by
 unfold sd;rw[az];constructor
 .grind
 .grind
def th:List Int->Int
 | [] => -1
 | a::r=>r.foldl min a
def yL:List Int->Int
 | [] => -1
 | a::r=>r.foldl max a
theorem foldl_min:∀(r:List Int) (a:Int),(r.foldl min a=a\/r.foldl min a∈r)/\r.foldl min a<=a/\∀y∈r,r.foldl min a<=y
 | [],a=>⟨.inl rfl,dZ _,fZ⟩
 | b::r,a=>by
  obtain⟨h1,e,d⟩:=foldl_min r (min a b);rw[cj];refine⟨?_,U,λy c=>?_⟩
  .grind
  .grind
theorem foldl_max:∀(r:List Int) (a:Int),(r.foldl max a=a\/r.foldl max a∈r)/\a<=r.foldl max a/\∀y∈r,y<=r.foldl max a
 | [],a=>⟨.inl rfl,dZ _,fZ⟩
 | b::r,a=>by
  obtain⟨h1,e,d⟩:=foldl_max r (max a b);rw[cj];refine⟨?_,U,λy c=>?_⟩
  .grind
  .grind
def Av{l:List Int}(h:l≠[]):th l∈l:=by
 cases l with
 | nil=>exact absurd rfl h
 | cons a r=>
  rcases(foldl_min r a).1 with e|e
  .exact av.2 (.inl e)
  .exact bf _ e
def EO{l:List Int}{y:Int}(h:y∈l):th l<=y:=by
 cases l with
 | nil=>cases h
 | cons a r=>
  rcases av.1 h with rfl|h
  .exact(foldl_min r y).2.1
  .exact(foldl_min r a).2.2 y h
def Oq{l:List Int}(h:l≠[]):yL l∈l:=by
 cases l with
 | nil=>exact absurd rfl h
 | cons a r=>
  rcases(foldl_max r a).1 with e|e
  .exact av.2 (.inl e)
  .exact bf _ e
def Oe{l:List Int}{y:Int}(h:y∈l):y<=yL l:=by
 cases l with
 | nil=>cases h
 | cons a r=>
  rcases av.1 h with rfl|h
  .exact(foldl_max r y).2.1
  .exact(foldl_max r a).2.2 y h
def oB(l:List gg):Int:=th ((l.filter λr=>decide (r.1≠2)).map λr=>r.2)
def oG(l:List gg):gg:=l.headD default
def nQ(l:List gg):Bool:=l.any λr=>decide (r≠oG l)
def VL{l:List gg}:nQ l=cc↔∃r∈l,r≠oG l:=by simp[nQ]
def VK{l:List gg}:nQ l=en↔∀r∈l,r=oG l:=by simp[nQ]
def GO{l:List gg}(h:l≠[]):oG l∈l:=by
 cases l with
 | nil=>exact absurd rfl h
 | cons a r=>exact List.mem_cons_self
def ahw{l:List gg}(h:∃r∈l,r.1≠2):∃r∈l,r.1≠2/\r.2=oB l:=by
 obtain⟨r,b,c⟩:=h
 have:=Av (l:=(l.filter λr=>decide (r.1≠2)).map λr=>r.2) λe=>by have:r.2∈(l.filter λr=>decide (r.1≠2)).map λr=>r.2:=az.2 ⟨r,aS.2 ⟨b,by simpa using c⟩,rfl⟩;rw[e]at this;cases this
 obtain⟨q,a,e⟩:=az.1 this;rw[aS]at a;exact⟨q,a.1,by simpa using a.2,e⟩
def ja(l:List gg)(o:Int):List Int:=(l.filter λr=>decide (r.1=o)).map λr=>r.2
def Au{l:List gg}{o n:Int}:n∈ja l o↔(o,n)∈l:=by
 unfold ja;rw[az];constructor
 .grind
 .simp_all
def ZO{l:List gg}{o:Int}:(ja l o).l=l.l↔∀r∈l,r.1=o:=by unfold ja;rw[ek,ey];simp
def oP(l:List gg):gg:=
 if ja l 3≠[]then(1,th (ja l 3)+1)else if l≠[]/\(ja l 1).l=l.l then(3,yL (ja l 1)+1)else(2,0)
def Ov(A:mc)(cl:List gV)(i n:Int):List gg:=(gt A.nx i).map λj=>if nQ (sd cl j)=en/\(oG (sd cl j)).2<n then oG (sd cl j)else(2,0)
def tt(A:mc)(cl:List gV)(i:Int)(c:gV):Bool:=
 mR c i&&(if A.ov i=cc then decide (mb c i≠(A.rs i,0))else
  if (oP (Ov A cl i (oB (sd cl i)))).1≠2 then decide (mb c i≠oP (Ov A cl i (oB (sd cl i))))else decide ((mb c i).1≠2/\(mb c i).2=oB (sd cl i)))
def nH(r:gg):Bool:=decide (r=(2,0)\/((r.1=1\/r.1=3)/\0<=r.2))
section
variable{A:mc}{V:List gg}{cl:List gV}{N:Int}
theorem adl{i:Int}(c:∀r∈sd cl i,nH r=cc)(f:nQ (sd cl i)=cc):∃r∈sd cl i,r.1≠2:=by
 obtain⟨r,b,g⟩:=VL.1 f;have h0:=GO (l:=sd cl i) λe=>by rw[e]at b;cases b
 have a:=c r b;have d:=c _ h0;simp only[nH,decide_eq_true_eq]at a d;rcases a with a|a
 .grind
 .grind
theorem aoJ{i:Int}(k:∀r∈sd cl i,nH r=cc)(f:nQ (sd cl i)=cc):∃c∈cl,tt A cl i c=true:=by
 have two:∀w:gg,∃c∈cl,mR c i=cc/\mb c i≠w:=λw=>by
  obtain⟨r,a,g⟩:=VL.1 f;have h0:=GO (l:=sd cl i) λe=>by rw[e]at a;cases a
  by_cases h:r=w
  .obtain⟨c,h1,d,b⟩:=xx.1 h0;exact⟨c,h1,d,by rw[b,<-h];exactλe=>g e.symm⟩
  .obtain⟨c,h1,d,b⟩:=xx.1 a;exact⟨c,h1,d,by rw[b];exact h⟩
 unfold tt
 by_cases m:A.ov i=cc
 .simp_all
 .by_cases j:(oP (Ov A cl i (oB (sd cl i)))).1≠2
  .simp_all
  .obtain⟨r,a,d,e⟩:=ahw (adl k f);obtain⟨c,h1,b,rfl⟩:=xx.1 a;exact⟨c,h1,by rw[b,if_neg m,if_neg j];simpa using ⟨d,e⟩⟩
end
theorem U4:∀(n:Nat) (a b:List Int),a.l=n->b.l=n->mO (bb n mQ.int) (cl fU a) (cl fU b)=cp (decide (a=b))
 | 0,[],[],_,_=>by simp[oV,mO]
 | n+1,x::a,y::b,ha,hb=>by
  have c:=U4 n a b (by simpa using ha) (by simpa using hb);rw[nb,nb,zG,zG,br]
  show(match uG .int (.val (.int .u8 x)) (.val (.int .u8 y)),mO (bb n mQ.int) (cl fU a) (cl fU b)with
   | some a,cp b=>cp (a&&b)
   | _,_=>none)=_
  rw[c];show cp (decide (x=y)&&decide (a=b))=_;rw[<-cZ];congr 1;exact decide_eq_decide.2 fZ
def UB:List mQ:=bb 32 mQ.int
def abJ:UB = [.int,.int,.int,.int,.int,.int,.int,.int,.int,.int,.int,.int,.int,.int,.int,.int,.int,.int,.int,.int,.int,.int,.int,.int,.int,.int,.int,.int,.int,.int,.int,.int]:=rfl
def dE(em:Bool)(es:List gg):D:=if em then .gi else iw es
structure Cw where
 c:gV
 em:Bool
 deriving Inhabited
def Cw.cells(x:Cw):List D:=[.i x.c.who,.i x.c.lo,.i x.c.hi,dE x.em x.c.es]++cl fU x.c.root
structure Cw.ok(x:Cw):Prop where
 em:x.em=cc->x.c.es = []
 es:x.c.es.l<=64
 root:x.c.root.l=32
 lo : -1000000<=x.c.lo/\x.c.lo<=1000000
 hi : -1000000<=x.c.hi/\x.c.hi<=1000000
def adb{em:Bool}{es:List gg}(h:em=cc->es = []):dV es (dE em es):=by
 unfold dE;cases em
 .exact .inl rfl
 .exact .inr ⟨h rfl,rfl⟩
def VE{em:Bool}{es:List gg}(h:em=cc->es = [])(H:gd):mY .slice (dE em es) H=cp (.i es.l):=by
 unfold dE;cases em
 .simp
 .rw[h rfl];simp
@[simp] theorem asU(em:Bool)(es:List gg):closed (dE em es)=true:=by unfold dE;cases em<;>simp
def snd(c:gV):Bool:=decide (0<=c.lo/\c.lo<=c.hi/\(c.es.l:Int)=c.hi-c.lo/\c.root=jX c.es)
def adX(x:Cw)(b:x.ok):Wf T 48 [.agg x.cells] [] (Is (.b (snd x.c))):=by
 have e:=ad0 (adb b.em) b.es;have g:=yT x.c.es;have f:=b.root;have o:=b.lo;have m:=b.hi;have n:=b.es;have a:=VE b.em;obtain⟨⟨who,lo,hi,es,root⟩,em⟩:=x;unfold Cw.cells snd;dsimp only at *;obtain⟨r,l⟩:∃r,jX es=r:=⟨_,rfl⟩;rw[l]at e g ⊢;obtain⟨E,h⟩:∃E,dE em es=E:=⟨_,rfl⟩;have j:closed E=true:=by rw[<-h];simp
 rw[h]at e a ⊢;have k:root.take 32=root:=af U;have c:=U4 32 root r f g;rw[show bb 32 mQ.int=UB from rfl,abJ]at c
 by_cases h1:0<=lo
 .by_cases d:lo<=hi
  .by_cases i:(es.l:Int)=hi-lo
   .refine Yg wI ?_;simp[wI,h1,d,a];refine jT a ?_;refine iZ.c rfl rfl e (by simp[j]) fZ ?_;simp[k,c,i]
   .refine Yg wI ?_;simp[wI,h1,d,a];refine jT a ?_;simp[i]
  .refine Yg wI ?_;simp[wI,h1,d]
 .refine Yg wI ?_;simp[wI,h1]
@[irreducible] def EZ(l:List Int):List Int:=(l++zs 32).take 32
theorem amS(l:List Int):(EZ l).l=32:=by unfold EZ;simp
def Tj{l:List Int}(h:l.l=32):EZ l=l:=by unfold EZ;rw[aW U,af U]
@[irreducible] def iI(x:Cw):List D:=[.i x.c.who,.i x.c.lo,.i x.c.hi,dE x.em x.c.es]++cl fU (EZ x.c.root)
theorem GD(x:Cw):iI x = [.i x.c.who,.i x.c.lo,.i x.c.hi,dE x.em x.c.es]++cl fU (EZ x.c.root):=by unfold iI;rfl
def Qs{x:Cw}(h:x.ok):iI x=x.cells:=by rw[GD,Tj h.root];rfl
instance:Fl iI 36:=⟨λx=>by rw[GD];simp[amS],λx=>by rw[GD];simp[gK]⟩
def jr(n:Int)(c:gV):Bool:=snd c&&decide (c.hi<=n)
def Pd{c:gV}(h:snd c=cc):0<=c.lo/\c.lo<=c.hi/\(c.es.l:Int)=c.hi-c.lo:=by unfold snd at h;have:=of_decide_eq_true h;exact⟨this.1,this.2.1,this.2.2.1⟩
structure wM(l:List Int)(d:D):Prop where
 cl:closed d=cc
 len:∀H,mY .slice d H=cp (.i l.l)
 idx:∀(n:Int) (k:IntKind) (P:D->Prop),oA (mC 1 d (.val (.int k n))) P .mk=((0<=n/\n<l.l)/\P (.gC [.i (gt l n)]))
def wM.e:wM [] .gi:=⟨rfl,λ_=>fZ,λn k P=>by
 have:mC 1 .gi (.val (.int k n))=none:=rfl;rw[this];simp
 omega⟩
def aek{a b:List Int}{x y:D}(l:wM a x)(k:wM b y)(h:a.l=b.l)(r:a.l<=4000000000):Wf T 132 [x,y] [] (Is (.b (decide (a=b)))):=by
 have c:=l.len;have g:=k.len;have f:=l.idx;have d:=k.idx;have o:=l.cl;have n:=k.cl;refine Yg JW ?_;simp[JW];refine gx.e (0:Int) (λi=>[(0,x),(1,y),(5,.i i)]) (λi=>[]) (λi=>(0<=i/\i<=a.l)/\∀j:Int,0<=j->j<i->gt a j=gt b j) (λi=>(a.l-i).n) ?_ ?_
 .exact⟨fZ,λj j0 j1=>U⟩
 rintro i ⟨⟨i0,q⟩,m⟩;dsimp only at i0 q m ⊢
 by_cases hi:i<a.l
 .simp[c,g,f,d,o,n,hi];(with_reducible repeat' first|refine Xk ?_<;>try simp[c,g,f,d,o,n]|refine Xs ?_ ?_<;>intro h<;>(try intro s)<;>(try simp[h,c,g,f,d,o,n])<;>try omega|refine Xg ?_|omega)
  .refine LJ.e (i+1) ?_;refine⟨U,iM,λj j0 j1=>?_⟩
   by_cases e:j=i
   .rw[e];assumption
   .exact m j j0 U
  .rintro rfl;exact absurd rfl ‹_›
 .have p:i=a.l:=by omega
  subst p;simp[c];refine bg h λj j0 j1=>?_;have:=m j U U;rw[iX U U,iX U U]at this;exact this
def We{a b:List Int}{x y:D}(f:wM a x)(d:wM b y)(k:a.l<=4000000000):Wf T 74 [x,y] [] (Is (.b (decide (a=b)))):=by
 have i:=f.len;have g:=d.len;have n:=f.cl;have m:=d.cl
 by_cases h:a.l=b.l
 .have c:=aek f d h k;refine Yg C0 ?_;simp[C0,i,g,h];refine gy.c rfl rfl c (by simp[n,m]) fZ ?_;simp
 .have j:¬a=b:=λe=>h (by rw[e]);have l:¬(a.l:Int)=b.l:=U;refine Yg C0 ?_;simp[C0,i,g,h,l,j]
structure Dm(l:List gg)(d:D):Prop where
 cl:closed d=cc
 len:∀H,mY .slice d H=cp (.i l.l)
 idx:∀(n:Int) (k:IntKind) (P:D->Prop),oA (mC 2 d (.val (.int k n))) P .mk=((0<=n/\n<l.l)/\P (.gC [.i (gt l n).1,.i (gt l n).2]))
def Dm.e:Dm [] .gi:=⟨rfl,λ_=>fZ,λn k P=>by
 have:mC 2 .gi (.val (.int k n))=none:=rfl;rw[this];simp
 omega⟩
def ad6{a b:List gg}{x y:D}(l:Dm a x)(k:Dm b y)(t:a.l<=4000000000):Wf T 79 [x,y] [] (Is (.b (decide (a=b)))):=by
 have c:=l.len;have d:=k.len;have g:=l.idx;have f:=k.idx;have o:=l.cl;have n:=k.cl
 by_cases h:a.l=b.l
 .refine Yg C2 ?_;simp[C2,c,d,h];refine nL c d h ?_;refine gx.e (0:Int) (λi=>[(0,x),(1,y),(5,.i i)]) (λi=>[]) (λi=>(0<=i/\i<=a.l)/\∀j:Int,0<=j->j<i->gt a j=gt b j) (λi=>(a.l-i).n) ?_ ?_
  .exact⟨fZ,λj j0 j1=>U⟩
  rintro i ⟨⟨i0,r⟩,m⟩;dsimp only at i0 r m ⊢
  by_cases hi:i<a.l
  .simp[c,d,g,f,o,n,hi];(with_reducible repeat' first|refine Xk ?_<;>try simp[c,d,g,f,o,n]|refine Xs ?_ ?_<;>intro h<;>(try intro u)<;>(try simp[h,c,d,g,f,o,n])<;>try omega|refine Xg ?_|omega)
   .refine LJ.e (i+1) ?_;refine⟨U,iM,λj j0 j1=>?_⟩
    by_cases e:j=i
    .rw[e];exact dh jZ jZ
    .exact m j j0 U
   .rintro rfl;exact h ⟨rfl,rfl⟩
  .have p:i=a.l:=by omega
   subst p;simp[c];refine bg h λj j0 j1=>?_;have:=m j U U;rw[iX U U,iX U U]at this;exact this
 .have q:¬a=b:=λe=>h (by rw[e]);have s:¬(a.l:Int)=b.l:=U;refine Yg C2 ?_;simp[C2,c,d,h,s,q]
def adN{a b:List Int}{x y:D}(j:wM a x)(i:wM b y)(k:a.l<=4000000000)(p q e f:Int):Wf T 29 [.agg [.i p,x,.i e],.agg [.i q,y,.i f]] [] (Is (.b (decide (p=q/\a=b/\e=f)))):=by
 have g:=j.cl;have d:=i.cl;have c:=We j i k
 by_cases h1:p=q
 .by_cases h:a=b
  .rw[decide_eq_true h]at c;refine Yg y8 ?_;simp[y8,h1,g,d];refine gy.c rfl rfl c (by simp[g,d]) fZ ?_;simp[h]
  .rw[decide_eq_false h]at c;refine Yg y8 ?_;simp[y8,h1,g,d];refine gy.c rfl rfl c (by simp[g,d]) fZ ?_;simp[h]
 .refine Yg y8 ?_;simp[y8,h1,g,d]
def adQ{v w:List gg}{a b:List Int}{x y r s:D}(l:Dm v r)(k:Dm w s)(n:wM a x)(m:wM b y)(p:v.l<=4000000000)(o:a.l<=4000000000)(e f:Int):Wf T 32 [.agg [r,x,.i e],.agg [s,y,.i f]] [] (Is (.b (decide (v=w/\a=b/\e=f)))):=by
 have j:=n.cl;have i:=m.cl;have h:=l.cl;have cs:=k.cl;have c:=We n m o;have d:=ad6 l k p
 by_cases h1:v=w
 .rw[decide_eq_true h1]at d
  by_cases g:a=b
  .rw[decide_eq_true g]at c;refine Yg y9 ?_;simp[y9,j,i,h,cs];refine gy.c rfl rfl d (by simp[h,cs]) fZ ?_;simp[h1,g];refine gy.c rfl rfl c (by simp[j,i]) fZ ?_;simp[h1,g]
  .rw[decide_eq_false g]at c;refine Yg y9 ?_;simp[y9,j,i,h,cs];refine gy.c rfl rfl d (by simp[h,cs]) fZ ?_;simp[h1,g];refine gy.c rfl rfl c (by simp[j,i]) fZ ?_;simp[h1,g]
 .rw[decide_eq_false h1]at d;refine Yg y9 ?_;simp[y9,j,i,h,cs];refine gy.c rfl rfl d (by simp[h,cs]) fZ ?_;simp[h1]
set_option maxHeartbeats 8000000
def wm(m:Int)(r:gg):Int:=if r.1≠2/\(m<0\/r.2<m)then r.2 else m
def xv(l:List gg):Int:=l.foldl wm (-1)
def aht(l:List gg)(r:gg):xv (l ++ [r])=wm (xv l) r:=by unfold xv;rw[dx];rfl
def dd(a b:Int)(q:gg):(!decide (a=q.1) || !decide (b=q.2)) = !decide ((a,b)=q):=by obtain⟨x,y⟩:=q;rw[<-Bool.not_and,<-cZ];congr 1;exact decide_eq_decide.2 fZ
def Cw.full(x:Cw):Prop:=x.ok/\(x.c.lo<x.c.hi->(x.c.es.l:Int)=x.c.hi-x.c.lo)
def Cw.WW{x:Cw}(h:x.full){i:Int}(a:mR x.c i=cc):x.em=en/\x.c.lo<=i/\i-x.c.lo<x.c.es.l:=by
 unfold mR at a;rw[decide_eq_true_iff]at a;have b:=h.2 U;refine⟨?_,a.1,U⟩
 cases e:x.em with
 | false=>rfl
 | true=>
  have:=h.1.em e;rw[this]at b;simp at b;omega
def cs(L:List Cw):List gV:=L.map Cw.c
def km(p:gV->Bool):List gV->Nat->List Int
 | _,0=>[]
 | cl,n+1=>if p (gt cl (n:Int))=cc then km p cl n ++ [(n:Int)]else km p cl n
end Go.Proofs.YtmehofoficaelaaGreatDoor
namespace Go.Proofs.YtmehofoficaelaaGreatDoor
open Go Go.AL Classical
def idx(p:gV->Bool)(cl:List gV):List Int:=(upto cl.l).filter λk=>p (gt cl k)
def SU{p:gV->Bool}{cl:List gV}{k:Int}:k∈idx p cl↔(0<=k/\k<cl.l)/\p (gt cl k)=true:=by unfold idx;rw[aS,jJ]
def Cc{p:gV->Bool}{cl:List gV}:idx p cl≠[]↔∃c∈cl,p c=true:=by
 constructor
 .intro h;obtain⟨k,a⟩:=dO _ h;rw[SU]at a;exact⟨_,gF a.1.1 a.1.2,a.2⟩
 .rintro⟨c,d,b⟩ h;obtain⟨k,k0,k1,rfl⟩:=yM.1 d;have:k∈idx p cl:=SU.2 ⟨⟨k0,k1⟩,b⟩;rw[h]at this;cases this
inductive Jd where
 | v (a:Int) (l:List Int)
 | none
 | vm
 deriving DecidableEq
def F7(cl:List gV)(a i:Int):Int:=if nQ (sd cl i)=cc/\(a<0\/oB (sd cl i)<oB (sd cl a))then i else a
def lE(cl:List gV)(n:Nat):Int:=(upto n).foldl (F7 cl) (-1)
noncomputable def nj(A:mc)(n:Nat)(ad:gV->Bool)(cl:List gV):Jd:=
 if idx (λc => !ad c) cl≠[]then .v (-1) (idx (λc => !ad c) cl)
 else if∃i∈upto n,sd cl i = []then .vm
 else match (upto n).find? λi=>decide (idx (λc=>mR c i && !nH (mb c i)) cl≠[])with
  | some i=>.v i (idx (λc=>mR c i && !nH (mb c i)) cl)
  | Option.none=>if lE cl n<0 then .none else .v (lE cl n) (idx (tt A cl (lE cl n)) cl)
def Jl(n:Nat):upto (n+1)=upto n ++ [(n:Int)]:=by simp[upto,List.range_succ]
theorem Mk(cl:List gV):∀n:Nat,(lE cl n = -1/\∀j:Int,0<=j->j<n->nQ (sd cl j)=en) \/
  ((0<=lE cl n/\lE cl n<n)/\nQ (sd cl (lE cl n))=cc/\∀j:Int,0<=j->j<n->nQ (sd cl j)=cc->oB (sd cl (lE cl n))<=oB (sd cl j))
 | 0=>.inl ⟨rfl,λj h0 h1=>U⟩
 | n+1=>by
  have e:lE cl (n+1)=F7 cl (lE cl n) n:=by unfold lE;rw[Jl,dx];rfl
  rw[e];generalize c:lE cl n=a;have b:=Mk cl n;rw[c]at b;unfold F7
  by_cases d:nQ (sd cl n)=cc
  .grind
  .grind
section
variable{A:mc}{V:List gg}{cl:List gV}{n:Nat}{ad:gV->Bool}
theorem agT(h:nj A n ad cl = .none):(∀c∈cl,ad c=cc)/\∀i:Int,0<=i->i<n->sd cl i≠[]/\nQ (sd cl i)=false:=by
 unfold nj at h;split at h
 .cases h
 rename_i BI;split at h
 .cases h
 rename_i a
 refine⟨λc a=>by
  cases e:ad c with
  | true=>rfl
  | false=>exact absurd (Cc.2 ⟨c,a,(by show(!ad c)=cc;rw[e];rfl)⟩) BI,?_⟩
 split at h
 .cases h
 split at h
 .rename_i d;rcases Mk cl n with⟨_,e⟩|⟨h1,_,_⟩
  .exact λi i0 b=>⟨λh0=>a ⟨i,jJ.2 ⟨i0,b⟩,h0⟩,e i i0 b⟩
  .omega
 .cases h
end
@[simp] theorem av8(o:Int):ja [] o = []:=rfl
@[simp] theorem av3:th [] = -1:=rfl
@[simp] theorem av2:yL [] = -1:=rfl
theorem ahG(l:List Int)(x:Int):th (l ++ [x])=if l = []then x else min (th l) x:=by
 cases l with
 | nil=>rfl
 | cons a r=>simp[th,dx]
def ahs{l:List gg}(h:∀r∈l,r.1≠2->0<=r.2):xv l=oB l:=by
 suffices ∀(l m:List gg),(∀r∈m++l,r.1≠2->0<=r.2)->l.foldl wm (oB m)=oB (m++l)from by have:=this l [] (by simpa using h);rw[bI]at this;exact this
 intro l
 induction l with
 | nil=>intro m _;simp
 | cons a r i=>
  intro m c;rw[cj]
  have e:wm (oB m) a=oB (m ++ [a]):=by
   unfold wm;have g:=c a fZ;unfold oB;rw[dt,di]
   by_cases d:a.1=2
   .grind
   .have g:=g d;have hs:((([a]:List gg).filter λr=>decide (r.1≠2)).map λr=>r.2) = [a.2]:=by simp[d]
    rw[hs,ahG]
    by_cases b:((m.filter λr=>decide (r.1≠2)).map λr=>r.2) = []
    .rw[if_pos b,b];rw[if_pos ⟨d,.inl jh⟩]
    .rw[if_neg b];have j:=Av b;obtain⟨q,f,n⟩:=az.1 j;rw[aS]at f;have k:=c q (by simp[f.1]) (by simpa using f.2)
     by_cases hl:a.2<th ((m.filter λr=>decide (r.1≠2)).map λr=>r.2)
     .grind
     .grind
  rw[e,i (m ++ [a]) (by simpa using c)];simp
def x5(cl:List gV)(n j:Int):gg:=if nQ (sd cl j)=en/\(oG (sd cl j)).2<n then oG (sd cl j)else(2,0)
def ZN(A:mc)(cl:List gV)(i n:Int):Ov A cl i n=(gt A.nx i).map (x5 cl n):=rfl
theorem YU{p q:gV->Bool}{cl:List gV}:∀ {n:Nat},n<=cl.l->(∀c∈cl,p c=q c)->km p cl n=km q cl n
 | 0,_,_=>rfl
 | n+1,h,hp=>by rw[km,km,YU U hp,hp _ (gF U U)]
def wg(p:gV->Bool)(cl:List gV):km p cl cl.l=idx p cl:=by
 unfold idx
 suffices ∀n:Nat,km p cl n=(upto n).filter λk=>p (gt cl k)from this _
 intro n
 induction n with
 | zero=>rfl
 | succ n a=>
  rw[km,a,Jl,dt]
  by_cases h:p (gt cl (n:Int))=cc
  .grind
  .grind
def oE(left ls:List Int):List Int:=((upto left.l).filter λp => !ls.contains p).map λp=>gt left p
noncomputable def CP(A:mc)(n:Nat)(ad:gV->Bool)(cl:List gV):Nat->List Int->List Int×Jd
 | 0,left=>(left,.none)
 | f+1,left=>match nj A n ad (left.map λk=>gt cl k)with
  | .v _ ls=>CP A n ad cl f (oE left ls)
  | j=>(left,j)
def p9(n:Nat):(upto n).l=n:=by simp[upto]
def anc{left ls:List Int}{p:Int}(c:p∈ls)(h0:0<=p)(h1:p<left.l):(oE left ls).l<left.l:=by
 unfold oE;rw[ek];have a:=List.length_filter_le (λp => !ls.contains p) (upto left.l);rw[p9]at a;refine Nat.lt_of_le_of_ne a λe=>?_;have:(upto left.l).l=left.l:=p9 _;rw[<-this]at e;rw[this]at e;have b:((upto left.l).filter λp => !ls.contains p).l=(upto left.l).l:=by rw[e,this]
 rw[ey]at b;have:=b p (jJ.2 ⟨h0,h1⟩);simp[c]at this
section
variable{A:mc}{V:List gg}{cl:List gV}{n:Nat}{ad:gV->Bool}
end
theorem WH{p:Int->Bool}:∀ {n:Nat} {i:Int},0<=i->i<n->p i=cc->(∀j:Int,0<=j->j<i->p j=en)->(upto n).find? p=cp i
 | 0,i,h0,h1,_,_=>U
 | n+1,i,h0,h1,hp,hn=>by
  rw[Jl,List.find?_append]
  by_cases e:i=n
  .have:(upto n).find? p=none:=dW.2 λj a=>by rw[jJ]at a;rw[hn j a.1 U];simp
   rw[this,e];rw[e]at hp;simp[hp]
  .rw[WH h0 U hp hn];rfl
def afe{p:Int->Bool}{n:Nat}(h:∀j:Int,0<=j->j<n->p j=en):(upto n).find? p=none:=
 dW.2 λj a=>by rw[jJ]at a;rw[h j a.1 a.2];simp
section
variable{A:mc}{n:Nat}{ad:gV->Bool}{cl:List gV}
def imp(cl:List gV)(i:Int):List Int:=km (λc=>mR c i && !nH (mb c i)) cl cl.l
theorem agO(h:km (λc => !ad c) cl cl.l≠[]):nj A n ad cl = .v (-1) (km (λc => !ad c) cl cl.l):=by unfold nj;rw[wg]at h ⊢;rw[if_pos h]
theorem agQ(h:km (λc => !ad c) cl cl.l = []){i:Int}(i0:0<=i)(a:i<n)(hi:sd cl i = []):nj A n ad cl = .vm:=by unfold nj;rw[wg]at h;rw[if_neg (λq=>q h),if_pos ⟨i,jJ.2 ⟨i0,a⟩,hi⟩]
theorem agR(h:km (λc => !ad c) cl cl.l = [])(hs:∀j:Int,0<=j->j<n->sd cl j≠[]){i:Int}(i0:0<=i)(b:i<n)(hi:imp cl i≠[])(a:∀j:Int,0<=j->j<i->imp cl j = []):nj A n ad cl = .v i (imp cl i):=by
 unfold nj;rw[wg]at h;rw[if_neg (λq=>q h),if_neg]
 .rw[WH i0 b]
  .show Jd.v i _=_;unfold imp;rw[wg]
  .rw[decide_eq_true_iff,<-wg];exact hi
  .intro j j0 j1;rw[decide_eq_false_iff_not,<-wg];exactλq=>q (a j j0 j1)
 .rintro⟨j,a,e⟩;rw[jJ]at a;exact hs j a.1 a.2 e
theorem agP(h:km (λc => !ad c) cl cl.l = [])(hs:∀j:Int,0<=j->j<n->sd cl j≠[])(a:∀j:Int,0<=j->j<n->imp cl j = []):nj A n ad cl=if lE cl n<0 then .none else .v (lE cl n) (km (tt A cl (lE cl n)) cl cl.l):=by
 unfold nj;rw[wg]at h;rw[if_neg (λq=>q h),if_neg]
 .rw[afe λj j0 j1=>by
   rw[decide_eq_false_iff_not,<-wg]
   exactλq=>q (a j j0 j1)]
  rw[wg]
 .rintro⟨j,a,e⟩;rw[jJ]at a;exact hs j a.1 a.2 e
theorem imp_nil{i:Int}(h:imp cl i = []):∀r∈sd cl i,nH r=true:=λr a=>by
 obtain⟨c,b,h1,rfl⟩:=xx.1 a;unfold imp at h;rw[wg]at h
 cases e:nH (mb c i)with
 | true=>rfl
 | false=>exact absurd h (Cc.2 ⟨c,b,by simp[h1,e]⟩)
end
abbrev kn:=List (gg×List Int)
def oi(r:gg)(k:Int):kn->kn
 | []=>[(r,[k])]
 | (q,x)::t=>if q=r then(q,x ++ [k])::t else(q,x)::oi r k t
def px(p:gV->Bool)(s:gV->gg)(cl:List gV):Nat->kn
 | 0=>[]
 | n+1=>if p (gt cl (n:Int))=cc then oi (s (gt cl (n:Int))) n (px p s cl n)else px p s cl n
theorem An{p:gV->Bool}{cl:List gV}{k:Int}:∀ {n:Nat},k∈km p cl n↔(0<=k/\k<n)/\p (gt cl k)=cc
 | 0=>by simp[km];omega
 | n+1=>by
  rw[km]
  by_cases h:p (gt cl (n:Int))=cc
  .rw[if_pos h,aj,An,b4];constructor
   .grind
   .grind
  .rw[if_neg h,An];constructor
   .grind
   .grind
theorem EK(p:gV->Bool)(cl:List gV):∀n:Nat,(km p cl n).Pairwise (· < ·)
 | 0=>.nil
 | n+1=>by
  rw[km]
  by_cases h:p (gt cl (n:Int))=cc
  .rw[if_pos h,bN]
   exact⟨EK p cl n,List.pairwise_singleton _ _,λa d b c=>by
    rw[b4]at c;have:=(An.1 d).1
    omega⟩
  .rw[if_neg h];exact EK p cl n
def ub(r:gg):kn->List Int
 | []=>[]
 | (q,x)::t=>if q=r then x else ub r t
theorem SS{r q:gg}{k:Int}:∀ {G:kn},q∈(oi r k G).map (·.1)↔q=r\/q∈G.map (·.1)
 | []=>by simp[oi]
 | (a,x)::t=>by
  rw[oi]
  by_cases h:a=r
  .grind
  .rw[if_neg h,aE,av,SS,aE,av];constructor
   .grind
   .grind
theorem WZ{r:gg}{k:Int}:∀ {G:kn},(G.map (·.1)).Nodup->((oi r k G).map (·.1)).Nodup
 | [],_=>by simp[oi]
 | (a,x)::t,h=>by
  rw[aE,cN]at h;rw[oi]
  by_cases e:a=r
  .grind
  .rw[if_neg e,aE,cN];refine⟨λb=>?_,WZ h.2⟩;rcases SS.1 b with h1|h1
   .exact e h1
   .exact h.1 h1
theorem Zt{r q:gg}{k:Int}:∀ {G:kn},ub q (oi r k G)=if q=r then ub q G ++ [k]else ub q G
 | []=>by
  by_cases h:q=r
  .subst h;simp[oi,ub]
  .rw[if_neg h];simp[oi,ub,cz h]
 | (a,x)::t=>by
  rw[oi]
  by_cases e:a=r
  .subst e;rw[if_pos rfl]
   by_cases h:q=a
   .subst h;simp[ub]
   .rw[if_neg h];simp[ub,cz h]
  .rw[if_neg e,ub,ub,Zt]
   by_cases h:a=q
   .grind
   .grind
theorem Zu{q:gg}{x:List Int}:∀ {G:kn},(G.map (·.1)).Nodup->((q,x)∈G↔q∈G.map (·.1)/\x=ub q G)
 | [],_=>fZ
 | (a,y)::t,h=>by
  rw[aE,cN]at h;rw[av,Zu h.2,aE,av,ub]
  by_cases e:a=q
  .grind
  .grind
section
variable{p:gV->Bool}{s:gV->gg}{cl:List gV}
theorem GR:∀n:Nat,((px p s cl n).map (·.1)).Nodup
 | 0=>.nil
 | n+1=>by
  rw[px];split
  .exact WZ (GR n)
  .exact GR n
theorem W4{q:gg}:∀n:Nat,ub q (px p s cl n)=km (λc=>p c&&decide (s c=q)) cl n
 | 0=>rfl
 | n+1=>by
  rw[px,km,<-W4 n]
  by_cases h:p (gt cl (n:Int))=cc
  .rw[if_pos h,Zt]
   by_cases e:q=s (gt cl (n:Int))
   .grind
   .grind
  .grind
theorem Nl{q:gg}:∀ {n:Nat},q∈(px p s cl n).map (·.1)↔∃k:Int,(0<=k/\k<n)/\p (gt cl k)=cc/\s (gt cl k)=q
 | 0=>by
  constructor
  .intro h;simp[px]at h
  .grind
 | n+1=>by
  rw[px]
  by_cases h:p (gt cl (n:Int))=cc
  .rw[if_pos h,SS,Nl];constructor
   .grind
   .grind
  .rw[if_neg h,Nl];constructor
   .grind
   .grind
theorem QG{q:gg}{x:List Int}{n:Nat}(h:(q,x)∈px p s cl n):x=km (λc=>p c&&decide (s c=q)) cl n/\x≠[]:=by
 have h1:=(Zu (GR n)).1 h;rw[W4]at h1;refine⟨h1.2,λe=>?_⟩;obtain⟨k,d,b,a⟩:=Nl.1 h1.1;have:k∈x:=by rw[h1.2];exact An.2 ⟨d,by simp[b,a]⟩
 rw[e]at this;cases this
end
def gU(cl:List gV)(i:Int):kn:=px (λc=>mR c i) (λc=>mb c i) cl cl.l
def x9{cl:List gV}{i:Int}{q:gg}:q∈(gU cl i).map (·.1)↔q∈sd cl i:=by
 unfold gU;rw[Nl,xx];constructor
 .rintro⟨k,h1,b,a⟩;exact⟨_,gF h1.1 h1.2,b,a⟩
 .rintro⟨c,h1,b,a⟩;obtain⟨k,k0,k1,rfl⟩:=yM.1 h1;exact⟨k,⟨k0,k1⟩,b,a⟩
def No{cl:List gV}{i:Int}:(gU cl i).l=0↔sd cl i = []:=by
 rw[aA];constructor
 .intro h;refine bn.2 λq b=>?_;have:=x9.2 b;rw[h]at this;cases this
 .intro h
  cases e:gU cl i with
  | nil=>rfl
  | cons a t=>
   have:a.1∈sd cl i:=x9.1 (by rw[e];simp);rw[h]at this;cases this
def GU{cl:List gV}{i:Int}:1<(gU cl i).l↔nQ (sd cl i)=true:=by
 have f:((gU cl i).map (·.1)).Nodup:=GR _;constructor
 .intro h
  cases c:nQ (sd cl i)with
  | true=>rfl
  | false=>
   have c:=VK.1 c
   match e:gU cl i,h with
   | a::b::t,_=>
    rw[e]at f;have k:a.1∈sd cl i:=x9.1 (by rw[e];simp);have j:b.1∈sd cl i:=x9.1 (by rw[e];simp);simp only[aE,cN,av,not_or]at f;exact absurd ((c _ k).trans (c _ j).symm) f.1.1
 .intro h;unfold nQ at h;rw[List.any_eq_true]at h;obtain⟨r,d,h1⟩:=h;have h1:r≠oG (sd cl i):=by simpa using h1
  have g:oG (sd cl i)∈sd cl i:=GO λe=>by rw[e]at d;cases d
  have a:=x9.2 d;have b:=x9.2 g
  match e:gU cl i with
  | []=>rw[e]at a;cases a
  | [x]=>
   rw[e]at a b;simp only[aE,List.map_nil,b4]at a b;exact absurd (a.trans b.symm) h1
  | x::y::t=>simp
def W5{cl:List gV}{i:Int}{x:gg×List Int}(h:gU cl i = [x]):x.1=oG (sd cl i):=by
 have h1:x.1∈sd cl i:=x9.1 (by rw[h];simp)
 have a:nQ (sd cl i)=false:=by
  cases e:nQ (sd cl i)with
  | false=>rfl
  | true=>
   have:=GU.2 e;rw[h]at this;simp at this
 exact VK.1 a _ h1
def ahv{a b:List gg}(h:∀r,r∈a↔r∈b):oB a=oB b:=by
 unfold oB;have c:∀n,n∈(a.filter λr=>decide (r.1≠2)).map (λr=>r.2)↔n∈(b.filter λr=>decide (r.1≠2)).map (λr=>r.2):=λn=>n9;obtain⟨A,g⟩:∃A,(a.filter λr=>decide (r.1≠2)).map (λr=>r.2)=A:=⟨_,rfl⟩;obtain⟨B,f⟩:∃B,(b.filter λr=>decide (r.1≠2)).map (λr=>r.2)=B:=⟨_,rfl⟩;rw[g,f]at c ⊢
 by_cases e:A = []
 .have:B = []:=bn.2 λn d=>by grind
  rw[e,this]
 .have i:B≠[]:=λq=>e (bn.2 λn d=>jS);exact Int.le_antisymm (EO ((c _).2 (Av i))) (EO ((c _).1 (Av e)))
theorem Ff:∀ {a b:List Int},a.Pairwise (· < ·)->b.Pairwise (· < ·)->(∀k,k∈a↔k∈b)->a=b
 | [],[],_,_,_=>rfl
 | [],y::t,_,_,h=>by have:=(h y).2 fZ;cases this
 | x::t,[],_,_,h=>by have:=(h x).1 fZ;cases this
 | x::s,y::t,ha,hb,h=>by
  rw[aT]at ha hb
  have e:x=y:=by
   rcases av.1 ((h x).1 fZ)with e|e
   .exact e
   .rcases av.1 ((h y).2 fZ)with c|c
    .exact c.symm
    .grind
  subst e;congr 1;refine Ff ha.2 hb.2 λk=>?_;have:=h k;rw[av,av]at this;constructor
  .grind
  .grind
def KS:KK:=.ints [.i64,.i64]
def lJ(r:gg):Value:=.agg #[.int .i64 r.1,.int .i64 r.2]
def oI(v:Nat)(x:List Int):D:=.gf v (x.l-1) 1 0 x.l
def rC(x:List Int):Ob:=.row 3 (x.l-1) (cl f1 x)
def jd(Q:Nat->Nat):Nat->kn->List (Value×D)
 | _,[]=>[]
 | i,(q,x)::t=>(lJ q,oI (Q i) x)::jd Q (i+1) t
def oj(r:gg):kn->Option (Nat×List Int)
 | []=>none
 | (q,x)::t=>if q=r then cp (0,x)else(oj r t).map λp=>(p.1+1,p.2)
def Zc(a b:gg):nY (lJ a) (lJ b)=decide (a=b):=by
 obtain⟨f,e⟩:=a;obtain⟨d,b2⟩:=b;unfold lJ nY
 by_cases h1:f=d
 .by_cases c:e=b2
  .simp_all
  .simp[c]
 .simp[h1]
theorem SN(Q:Nat->Nat)(r:gg):∀(G:kn) (i j:Nat),yK (lJ r) (jd Q i G) j=(oj r G).map λp=>(j+p.1,oI (Q (i+p.1)) p.2)
 | [],_,_=>rfl
 | (q,x)::t,i,j=>by
  rw[jd,yK,Zc,oj]
  by_cases h:q=r
  .subst h;simp
  .rw[if_neg (by simpa using cz h),if_neg h,SN Q r t (i+1) (j+1)]
   cases oj r t with
   | none=>rfl
   | some p=>simp[a8,dw 1]
theorem SQ(Q:Nat->Nat)(r:gg)(d:D):∀(G:kn) (i:Nat),mE (jd Q i G) (lJ r) d=match oj r G with
  | some p=>(jd Q i G).set p.1 (lJ r,d)
  | none=>jd Q i G ++ [(lJ r,d)]
 | [],_=>rfl
 | (q,x)::t,i=>by
  rw[jd,mE,Zc,oj]
  by_cases h:q=r
  .subst h;simp
  .rw[if_neg (by simpa using cz h),if_neg h,SQ Q r d t (i+1)]
   cases oj r t with
   | none=>rfl
   | some p=>simp
theorem zJ{r:gg}{k:Int}:∀ {G:kn} {t:Nat} {x:List Int},oj r G=cp (t,x)->G[t]? = cp (r,x)/\oi r k G=G.set t (r,x ++ [k])
 | [],_,_,h=>by cases h
 | (q,y)::g,t,x,h=>by
  rw[oj]at h;rw[oi]
  by_cases e:q=r
  .grind
  .rw[if_neg e]at h ⊢
   cases a:oj r g with
   | none=>rw[a]at h;cases h
   | some p=>
    rw[a]at h;cases h;obtain⟨h1,b⟩:=zJ (k:=k) (t:=p.1) (x:=p.2) a;exact⟨by simpa using h1,by rw[b];simp⟩
theorem W0{r:gg}{k:Int}:∀ {G:kn},oj r G=none->oi r k G=G ++ [(r,[k])]
 | [],_=>rfl
 | (q,y)::g,h=>by
  rw[oj]at h;rw[oi]
  by_cases e:q=r
  .grind
  .rw[if_neg e]at h ⊢
   cases a:oj r g with
   | none=>rw[W0 a];rfl
   | some p=>rw[a]at h;cases h
@[simp] theorem Bl(Q:Nat->Nat):∀(G:kn) (i:Nat),(jd Q i G).l=G.l
 | [],_=>rfl
 | (q,x)::t,i=>by rw[jd,aI,Bl Q t,aI]
theorem vt(Q:Nat->Nat):∀(G:kn) (i t:Nat),(jd Q i G)[t]? = (G[t]?).map λx=>(lJ x.1,oI (Q (i+t)) x.2)
 | [],_,_=>rfl
 | (q,x)::g,i,0=>rfl
 | (q,x)::g,i,t+1=>by rw[jd,dp,dp,vt Q g (i+1) t,a8,dw 1]
theorem V2{Q Q':Nat->Nat}:∀ {G:kn} {i:Nat},(∀t,t<G.l->Q (i+t)=Q' (i+t))->jd Q i G=jd Q' i G
 | [],_,_=>rfl
 | (q,x)::g,i,h=>by
  have h0:=h 0 fZ;rw[cA]at h0
  rw[jd,jd,h0,V2 (Q:=Q) (Q':=Q') λt a=>by
   have:=h (t+1) gL;rw[(U:i+(t+1)=i+1+t)]at this
   exact this]
theorem V3(Q:Nat->Nat){r:gg}{y:List Int}:∀(G:kn) (i t:Nat),t<G.l->jd Q i (G.set t (r,y))=(jd Q i G).set t (lJ r,oI (Q (i+t)) y)
 | [],_,_,h=>by simp at h
 | (q,x)::g,i,0,_=>rfl
 | (q,x)::g,i,t+1,h=>by rw[eh,jd,jd,eh,V3 Q g (i+1) t (by simpa using h),(U:i+1+t=i+(t+1))]
theorem V4(Q:Nat->Nat){r:gg}{y:List Int}:∀(G:kn) (i:Nat),jd Q i (G ++ [(r,y)])=jd Q i G ++ [(lJ r,oI (Q (i+G.l)) y)]
 | [],_=>rfl
 | (q,x)::g,i=>by rw[cE,jd,jd,V4 Q g (i+1),cE,aI,(U:i+1+g.l=i+(g.l+1))]
structure mw(H:gd)(ck sr n:Nat)(M:Nat->kn)(ow:Nat->Nat×Nat×Nat)(P:Nat->Nat)(Q:Nat->Nat->Nat):Prop where
 fc:ow ck=(0,0,0)
 fs:ow sr=(1,0,0)
 row:H[sr]? = cp (.row 170 0 ((List.range n).map λj=>D.gH (P j)))
 mp:∀j,j<n->H[P j]? = cp (.map KS (jd (Q j) 0 (M j)))/\ow (P j)=(2,j,0)
 ls:∀j,j<n->∀t x,(M j)[t]? = cp x->H[Q j t]? = cp (rC x.2)/\ow (Q j t)=(3,j,t)
section
variable{H H':gd}{ck sr n:Nat}{M:Nat->kn}{ow:Nat->Nat×Nat×Nat}{P:Nat->Nat}{Q:Nat->Nat->Nat}
theorem mw.mono(h:mw H ck sr n M ow P Q)(b:∀v o,H[v]? = cp o->v≠ck->H'[v]? = cp o):mw H' ck sr n M ow P Q:=by
 have ne:∀v,ow v≠(0,0,0)->v≠ck:=λv f e=>f (by rw[e];exact h.fc);refine⟨h.fc,h.fs,b _ _ h.row (ne _ (by rw[h.fs];simp)),λj c=>?_,λj c t x d=>?_⟩
 .obtain⟨h1,a⟩:=h.mp j c;exact⟨b _ _ h1 (ne _ (by rw[a];simp)),a⟩
 .obtain⟨h1,a⟩:=h.ls j c t x d;exact⟨b _ _ h1 (ne _ (by rw[a];simp)),a⟩
def wD(M:Nat->kn)(j:Nat)(G:kn):Nat->kn:=λi=>if i=j then G else M i
theorem mw.old(h:mw H ck sr n M ow P Q){j t:Nat}{r:gg}{x:List Int}{k:Int}(g:j<n)(s:oj r (M j)=cp (t,x))
  (h1:H'[P j]? = cp (.map KS ((jd (Q j) 0 (M j)).set t (lJ r,oI (Q j t) (x ++ [k]))))) (A:H'[Q j t]? = cp (rC (x ++ [k])))
  (f:∀v o,H[v]? = cp o->v≠P j->v≠Q j t->ow v≠(0,0,0)->H'[v]? = cp o):mw H' ck sr n (wD M j (oi r k (M j))) ow P Q:=by
 obtain⟨m,l⟩:=zJ (k:=k) s;have z:t<(M j).l:=(ae.1 m).1;have lt:=(h.ls j g t _ m).2;have d:=(h.mp j g).2;have ne:∀v w,ow v≠ow w->v≠w:=λv w q e=>q (by rw[e]);refine⟨h.fc,h.fs,f _ _ h.row (ne _ _ (by rw[h.fs,d];simp)) (ne _ _ (by rw[h.fs,lt];simp)) (by rw[h.fs];simp),λi hi=>?_,λi hi u y b=>?_⟩
 .obtain⟨c,a⟩:=h.mp i hi;refine⟨?_,a⟩;unfold wD
  by_cases e:i=j
  .subst e;rw[if_pos rfl,h1,l,V3 _ _ _ _ z,aR]
  .grind
 .unfold wD at b
  by_cases e:i=j
  .subst e;rw[if_pos rfl,l,bT]at b
   by_cases p:t=u
   .grind
   .rw[if_neg p]at b;obtain⟨c,a⟩:=h.ls i hi u y b;exact⟨f _ _ c (ne _ _ (by rw[a,d];simp)) (ne _ _ (by rw[a,lt];simp[cz p])) (by rw[a];simp),a⟩
  .rw[if_neg e]at b;obtain⟨c,a⟩:=h.ls i hi u y b;exact⟨f _ _ c (ne _ _ (by rw[a,d];simp)) (ne _ _ (by rw[a,lt];simp[e])) (by rw[a];simp),a⟩
theorem mw.new(h:mw H ck sr n M ow P Q){j v:Nat}{r:gg}{k:Int}(z:j<n)(t:oj r (M j)=none)(C:ck<v)(q:H.l<=v)
  (h1:H'[P j]? = cp (.map KS (jd (Q j) 0 (M j) ++ [(lJ r,oI v [k])]))) (E:H'[v]? = cp (rC [k]))
  (f:∀w o,H[w]? = cp o->w≠P j->ow w≠(0,0,0)->H'[w]? = cp o) :
  ∃b Q',mw H' ck sr n (wD M j (oi r k (M j))) b P Q'/\∀w,w≠v->b w=ow w:=by
 have B:=W0 (k:=k) t;have d:=(h.mp j z).2;have ne:∀v w,ow v≠ow w->v≠w:=λv w q e=>q (by rw[e]);have lv:∀w o,H[w]? = cp o->w≠v:=λw o p=>jS
 let b:Nat->Nat×Nat×Nat:=λw=>if w=v then(3,j,(M j).l)else ow w
 let Q':Nat->Nat->Nat:=λi u=>if i=j/\u=(M j).l then v else Q i u
 have hP:∀i,i<n->P i≠v:=λi hi=>lv _ _ (h.mp i hi).1;have A:∀i u x,i<n->(M i)[u]? = cp x->Q i u≠v:=λi u x hi s=>lv _ _ (h.ls i hi u x s).1;have hs:sr≠v:=lv _ _ h.row;refine⟨b,Q',⟨?_,?_,f _ _ h.row (ne _ _ (by rw[h.fs,d];simp)) (by rw[h.fs];simp),λi hi=>?_,λi hi u y c=>?_⟩,λw p=>if_neg p⟩
 .show(if ck=v then _ else _)=_;rw[if_neg U];exact h.fc
 .show(if sr=v then _ else _)=_;rw[if_neg hs];exact h.fs
 .obtain⟨m,a⟩:=h.mp i hi;refine⟨?_,?_⟩
  .unfold wD
   by_cases e:i=j
   .subst e;rw[if_pos rfl,h1,B,V4,aR];have l:jd (Q' i) 0 (M i)=jd (Q i) 0 (M i):=V2 λu D=>jS;have g:Q' i (M i).l=v:=jS;rw[l,g]
   .rw[if_neg e];have l:Q' i=Q i:=funext λu=>jS;rw[l];exact f _ _ m (ne _ _ (by rw[a,d];simp[e])) (by rw[a];simp)
  .grind
 .unfold wD at c
  by_cases e:i=j/\u=(M j).l
  .grind
  .have c:(M i)[u]? = cp y:=by grind
   obtain⟨m,a⟩:=h.ls i hi u y c;have g:Q' i u=Q i u:=jS;rw[g];refine⟨f _ _ m (ne _ _ (by rw[a,d];simp)) (by rw[a];simp),?_⟩;show(if Q i u=v then _ else _)=_;rw[if_neg (A i u y hi c)];exact a
