/- Part 41 of DisputeMatchesReference. -/
import Derived.Test.YtmehofoficaelaaGreatDoorM40
set_option linter.all false
open And renaming intro→aE
open List renaming foldl_append→bb,replicate→bs,length_map→b4,map_append→cj,length_filter_le→cp,length→List.l
open Bool renaming true→di,false→dr
open Int renaming toNat→Int.n
namespace Go.Proofs.YtmehofoficaelaaGreatDoor
open Go Go.AL Classical
set_option maxRecDepth 10000
set_option maxHeartbeats 8000000
noncomputable def FR(A:mf)(n:Nat)(v:List gj)(i:Int):List D:=
 if v.l≠n then [.b dr,.i 70]else if i<0\/(n:Int)<=i then [.b dr,.i 1]else [.b (decide (gt v i=tv A v i)),.i 0]
def XP(g:gv)(hg:gZ g)(l:List Pos)(b:mY g l)(h0:0<l.l)(v:List gj)(m:v.l<=4000)(e:∀k:Int,0<=k->k<v.l->-4000<=(gt v k).2/\(gt v k).2<=4000)(i:Int) :
  Wf T 37 [dG g,gT l,iu v,.i i] [] (Is (.agg (FR (iv g l (gy g l)) l.l v i))):=by
 have d:=b.len;have cn:=f52 g hg l b h0;have j:(gy g l).l=l.l:=by simp[gy]
 unfold FR
 by_cases a:v.l=l.l
 .rw[if_neg (λh=>h a)]
  by_cases hi:i<0\/(l.l:Int)<=i
  .rw[if_pos hi]
   have c:Wf T 81 [dG g,gT l,iu v,.i i] [] (Is (.tup [.b dr,.i 1])):=by
    refine Yg Aj ?_;simp[Aj];refine Yc (cn) ?_;simp;(with_reducible repeat' first|refine Xk ?_<;>try simp[a]|refine Xs ?_ ?_<;>intro h<;>(try intro f)<;>(try simp[h,a])<;>try omega|refine Xg ?_|omega)
   refine Yg Ae ?_;simp[Ae];refine Yc (c) ?_;simp
  .rw[if_neg hi];have c:=afE g hg l b h0 v a e i U U;refine Yg Ae ?_;simp[Ae];refine Yc (c) ?_;simp
 .rw[if_pos a]
  have c:Wf T 81 [dG g,gT l,iu v,.i i] [] (Is (.tup [.b dr,.i 70])):=by
   refine Yg Aj ?_;simp[Aj];refine Yc (cn) ?_;simp;(with_reducible repeat' first|refine Xk ?_<;>try simp[a]|refine Xs ?_ ?_<;>intro h<;>(try intro f)<;>(try simp[h,a])<;>try omega|refine Xg ?_|omega)
  refine Yg Ae ?_;simp[Ae];refine Yc (c) ?_;simp
set_option maxHeartbeats 4000000
def af8:Wf T 207 [.gp] [] (Is (dU (pad []))):=by
 obtain⟨B,c⟩:∃B,yY 0=B:=⟨_,rfl⟩;have z:B.l=8:=by rw[<-c];rfl
 have w:∀i:Int,0<=i->i<8->gt B i=IntKind.u8.wrap (nu .u64 0 (56-8*i)):=λi i0 d=>by rw[<-c];exact NA _ i0 d
 obtain⟨p,h⟩:∃p,BF 0=p:=⟨_,rfl⟩;have A:p=63-(0+8) % 64:=by rw[<-h];rfl
 have hP:pad []=128::zs p++B:=by rw[pad];show []++128::(bs (BF 0) 0++yY 0)=_;rw[c,h,wQ];simp
 obtain⟨C,n⟩:∃C,128::zs p=C:=⟨_,rfl⟩;rw[hP,n];clear hP c h;have m:IntKind.u64.wrap (0:Int)=0:=rfl;have j:IntKind.u64.wrap (0)=8*0:=rfl;refine Yg Eb ?_;simp[Eb];refine gi ?_;refine gx.e ((2,[128]):Nat×List Int) (λy=>[(0,.gp),(3,.gh 0 y.1 1 0 y.2.l)]) (λy=>[.row 5 y.1 (cl fU y.2),.row 5 0 [.val (.int .u8 128)]]) (λy=>∃k:Nat,k<=p/\y.2=128::zs k) (λy=>0+1+p-y.2.l) ?_ ?_
 .exact⟨0,U,gf⟩
 rintro⟨g,q⟩ ⟨k,k0,a⟩;dsimp only at k0 a ⊢;have D:q.l=0+1+k:=by rw[a];simp;omega
 have f:gJ ((q.l:Int)+8) 64=((q.l:Int)+8) % 64:=jO U
 by_cases t:k<p
 .have h1:¬((q.l:Int)+8) % 64=0:=by omega
  have s:q ++ [0]=128::zs (k+1):=by rw[a,<-QR];simp
  simp[f,h1];refine iU f ?_;refine LJ.e (g+1,q ++ [0]) ?_;exact⟨gO,k+1,t,s⟩
 .have o:k=p:=by omega
  subst o;have h1:((q.l:Int)+8) % 64=0:=U;rw[n]at a;subst a;simp[f,h1,m,j];refine jT m j ?_;refine gx.e ((0,g,q):Int×Nat×List Int) (λy=>[(3,.gh 0 y.2.1 1 0 y.2.2.l),(4,.val (.int .u64 0)),(5,.i y.1)]) (λy=>[.row 5 y.2.1 (cl fU y.2.2),.row 5 0 [.val (.int .u8 128)]]) (λy=>(0<=y.1/\y.1<=8)/\y.2.2=q++B.take y.1.n) (λy=>(8-y.1).n) ?_ ?_
  .simp
  rintro⟨i,v,u⟩ ⟨⟨i0,d⟩,b⟩;dsimp only at i0 d b ⊢;have x:u.l=q.l+i.n:=by rw[b];simp;omega
  by_cases hi:i<8
  .have e:=QH (l:=B) i0 U;rw[w i i0 hi]at e;simp[hi];refine gi ?_;refine LJ.e (i+1,v+1,u ++ [IntKind.u8.wrap (nu .u64 0 (56-8*i))]) ?_;exact⟨U,gU,by rw[e,b,aN]⟩
  .have r:i=8:=by omega
   subst r;have e:u=q++B:=by rw[b,af U]
   subst e;simp;refine gi ?_;rw[zb,cj]
def afV:Wf T 141 [.gp] [] (Is (.agg (cl fU (lh [])))):=by
 have o:=af8;have p:=X4;have x:=abV [];simp only[dh]at x;obtain⟨P,hP⟩:∃P,pad []=P:=⟨_,rfl⟩;obtain⟨S,hS⟩:∃S,CI=S:=⟨_,rfl⟩;have t:S.l=8:=by rw[<-hS];rfl
 obtain⟨r,m⟩:∃r,lh []=r:=⟨_,rfl⟩;have d:zV (rH P S (P.l / 64))=r:=by rw[<-m,lh,hP,hS]
 rw[hP]at o x;rw[hS]at p;rw[m];clear hP hS m;refine Yg D' ?_;simp[D'];refine Yc (o) ?_;simp;refine Yc (p) ?_;simp[t];refine gx.e ((0,S):Int×List Int) (λy=>[(2,.ptr 0 0 0),(3,dU P),(4,.ptr 1 0 0),(5,.i y.1)]) (λy=>[.row 70 0 (cl fU (zs 32)),.row 323 0 (cl fW y.2)]) (λy=>∃n:Nat,y.1=64*n/\y.1<=P.l/\y.2=rH P S n) (λy=>(P.l+64-y.1).n) ?_ ?_
 .exact⟨0,gf,gf,by simp[NC]⟩
 rintro⟨i,s⟩ ⟨n,gQ,l,hs⟩;dsimp only at gQ l hs ⊢;have a:s.l=8:=by rw[hs];exact EA P t n
 by_cases hi:i<P.l
 .have f:s.take 8=s:=af U;have w:((P.drop i.n).take 64).l=64:=by rw[aG,aX];omega
  have e:=ND P S n;rw[<-hs,(U:64*n=i.n)]at e;have G:(i+64).n-i.n=64:=U;obtain⟨B,F⟩:∃B,(P.drop i.n).take 64=B:=⟨_,rfl⟩;rw[F]at w e;have c:=X5 s B a w;have z:=Nx (s:=s) (b:=B) a;obtain⟨A,I⟩:∃A,uQ s B=A:=⟨_,rfl⟩;rw[I]at c e z;simp[hi,a,f];refine kG a f G ?_;rw[G,F];have v:s.drop 8 = []:=bV U;refine Yt (c) ?_;simp[z,a,f];refine gi ?_;refine LJ.i (i+64,A) (by first|rfl|simp[v]) (by first|rfl|simp[v]) rfl rfl ?_;exact⟨U,n+1,U,U,e.symm⟩
 .have k:n=P.l / 64:=by omega
  rw[<-k,<-hs]at d;have J:r.l=32:=by rw[<-d];exact F0 s
  have q:∀j:Int,0<=j->j<32->gt r j=IntKind.u8.wrap (nu .u32 (gt s (j / 4)) (24-8*(j % 4))):=λj j0 j1=>by rw[<-d];exact P3 s j0 j1
  clear d hs o p;simp[hi];refine gi ?_;refine gx.e ((0,zs 32):Int×List Int) (λy=>[(2,.ptr 0 0 0),(4,.ptr 1 0 0),(6,.ptr 2 0 0),(7,.i y.1)]) (λy=>[.row 70 0 (cl fU (zs 32)),.row 323 0 (cl fW s),.row 70 0 (cl fU y.2)]) (λy=>(0<=y.1/\y.1<=32)/\y.2.l=32/\∀j:Int,0<=j->j<y.1->gt y.2 j=gt r j) (λy=>(32-y.1).n) ?_ ?_
  .exact⟨gf,gf,λj j0 j1=>absurd j1 gI⟩
  rintro⟨i,u⟩ ⟨⟨i0,l⟩,g,C⟩;dsimp only at i0 l g C ⊢
  by_cases hi:i<32
  .have D:wI i 4=i / 4:=wJ i0 U U;have E:gJ i 4=i % 4:=jO i0;simp[hi,D,E];refine jT D E ?_;refine LJ.i (i+1,pt u i (gt r i)) (by first|rfl|simp[q i i0 hi]) (by first|rfl|simp[q i i0 hi]) rfl rfl ?_;refine⟨U,gU,by rw[jg i0 U];exact g,λj j0 j1=>?_⟩;dsimp only at j1 ⊢;rw[qj i0 U j0]
   by_cases e:j=i
   .grind
   .grind
  .have k:i=32:=by omega
   subst k
   have e:u=r:=by refine bj U λj j0 j1=>?_;have h:=C j U U;rw[iV U U,iV U U]at h;exact h
   subst e;have H:u.take 32=u:=af U;simp[g,H]
def afZ:Wf T 155 [.gp] [] (Is (.agg (cl fU (lh [])))):=by
 have Q:=agc;obtain⟨B,t⟩:∃B,yY 0=B:=⟨_,rfl⟩;have W:B.l=8:=by rw[<-t];rfl
 have R:∀i:Int,0<=i->i<8->gt B i=IntKind.u8.wrap (nu .u64 0 (56-8*i)):=λi i0 n=>by rw[<-t];exact NA _ i0 n
 obtain⟨p,A⟩:∃p,BF 0=p:=⟨_,rfl⟩;have X:p=63-(0+8) % 64:=by rw[<-A];rfl
 have hP:pad []=128::zs p++B:=by rw[pad];show []++128::(bs (BF 0) 0++yY 0)=_;rw[t,A,wQ];simp
 obtain⟨C,D⟩:∃C,128::zs p=C:=⟨_,rfl⟩;rw[D]at hP;have V:C.l=0+1+p:=by rw[<-D];simp;omega
 obtain⟨r,z⟩:∃r,lh []=r:=⟨_,rfl⟩;obtain⟨S,hS⟩:∃S,CI=S:=⟨_,rfl⟩;have w:S.l=8:=by rw[<-hS];rfl
 have m:zV (rH (C++B) S ((C++B).l / 64))=r:=by rw[<-z,lh,hP,hS]
 rw[z];clear hP t A z;have I:S.take 8=S:=af U;have o:IntKind.u64.wrap (0:Int)=0:=rfl;have d:IntKind.u64.wrap (0)=8*0:=rfl;refine Yz Ao (jm 36 [2] Ao.body) ?_;simp[Ao,jm,kS,nR,nU,oo,mm,Wj,hS];refine Yc (Q) ?_;simp;refine gi ?_;refine gx.e ((0,[128]):Nat×List Int) (λy=>[(0,.gp),(2,.ptr 0 0 0),(3,.gh 2 y.1 1 0 y.2.l)]) (λy=>[.row 70 0 (cl fU (zs 32)),.row 5 0 [.val (.int .u8 128)],.row 5 y.1 (cl fU y.2)]) (λy=>∃k:Nat,k<=p/\y.2=128::zs k) (λy=>0+1+p-y.2.l) ?_ ?_
 .exact⟨0,U,gf⟩
 rintro⟨g,q⟩ ⟨k,k0,s⟩;dsimp only at k0 s ⊢;have C9:q.l=0+1+k:=by rw[s];simp;omega
 have b:gJ ((q.l:Int)+8) 64=((q.l:Int)+8) % 64:=jO U
 by_cases M:k<p
 .have h1:¬((q.l:Int)+8) % 64=0:=by omega
  have L:q ++ [0]=128::zs (k+1):=by rw[s,<-QR];simp
  simp[b,h1];refine iU b ?_;refine LJ.e (g+1,q ++ [0]) ?_;exact⟨gO,k+1,M,L⟩
 .have H:k=p:=by omega
  subst H;have h1:((q.l:Int)+8) % 64=0:=U;rw[D]at s;subst s;simp[b,h1,o,d];refine jT o d ?_;refine gx.st ny ?_;refine gx.e ((0,g,q):Int×Nat×List Int) (λy=>[(0,.gp),(2,.ptr 0 0 0),(3,.gh 2 y.2.1 1 0 y.2.2.l),(4,.i (56-8*y.1))]) (λy=>[.row 70 0 (cl fU (zs 32)),.row 5 0 [.val (.int .u8 128)],.row 5 y.2.1 (cl fU y.2.2)]) (λy=>(0<=y.1/\y.1<=8)/\y.2.2=q++B.take y.1.n) (λy=>(8-y.1).n) ?_ ?_
  .simp
  rintro⟨i,O,u⟩ ⟨⟨i0,n⟩,a⟩;dsimp only at i0 n a ⊢;have c:u.l=q.l+i.n:=by rw[a];simp;omega
  by_cases hi:i<8
  .have e:=QH (l:=B) i0 U;rw[R i i0 hi]at e;have K:0<=56-8*i:=U;simp[K,d,o];(with_reducible repeat' first|refine Xk ?_<;>try simp[d,o]|refine Xs ?_ ?_<;>intro h<;>(try intro Z)<;>(try simp[h,d,o])<;>try omega|refine Xg ?_|omega);refine LJ.i (i+1,O+1,u ++ [IntKind.u8.wrap (nu .u64 0 (56-8*i))]) (by first|rfl|simp[(U:56-8*(i+1)=56-8*i-8)]) (by first|rfl|simp[(U:56-8*(i+1)=56-8*i-8)]) rfl rfl ?_;exact⟨U,gU,by rw[e,a,aN]⟩
  .have x:i=8:=by omega
   subst x;obtain⟨P,hP⟩:∃P,q++B=P:=⟨_,rfl⟩;have OP:P.l=q.l+8:=by rw[<-hP];simp;omega
   have e:u=P:=by rw[a,af U,hP]
   rw[hP]at m;clear c a hP;subst e;simp;refine gi ?_;refine gE.n (by simp[w,I];rfl) ?_;rw[<-zb];refine Yc (X6 u) ?_;simp;refine uP.r (f:=274) (first:=[]) (cap:=[.gH [dU u],.gH [.i 64]]) rfl rfl rfl rfl ?_;simp;refine Wf.mono (X8 u S U U w) ?_;rintro _ H' rfl;have J:=EA u w (u.l / 64);obtain⟨v,F⟩:∃v,rH u S (u.l / 64)=v:=⟨_,rfl⟩;rw[F]at m J ⊢;clear F;have Y:r.l=32:=by rw[<-m];exact F0 v
   have E:∀j:Int,0<=j->j<32->gt r j=IntKind.u8.wrap (nu .u32 (gt v (j / 4)) (24-8*(j % 4))):=λj j0 j1=>by rw[<-m];exact P3 v j0 j1
   clear m;refine⟨[(5,.ptr 3 0 0)],.ready,gf,?_⟩;simp;refine gx.st ny ?_;refine gx.kg [4] dr ((0,zs 32):Int×List Int) (λy=>[(2,.ptr 0 0 0),(5,.ptr 3 0 0),(7,.ptr 5 0 0),(42,.i y.1)]) (λy=>[.row 70 0 (cl fU (zs 32)),.row 5 0 [.val (.int .u8 128)],.dead,.row 323 0 (cl fW v),.ka,.row 70 0 (cl fU y.2)]) (λy=>(0<=y.1/\y.1<=32)/\y.2.l=32/\∀j:Int,0<=j->j<y.1->gt y.2 j=gt r j) (λy=>(32-y.1).n) ?_ gf (by first|rfl|(simp[iY];done)|(simp[*];done)) rfl rfl rfl ?_
   .exact⟨gf,gf,λj j0 j1=>absurd j1 gI⟩
   rintro⟨i,u⟩ ⟨⟨i0,n⟩,c,a⟩;dsimp only at i0 n c a ⊢
   by_cases hi:i<32
   .have b:wI i 4=i / 4:=wJ i0 U U;have G:gJ i 4=i % 4:=jO i0;simp[hi,b,G];refine jT b G ?_;refine LJ.i (i+1,pt u i (gt r i)) (by first|rfl|simp[E i i0 hi]) (by first|rfl|simp[E i i0 hi]) rfl rfl ?_;refine⟨U,gU,by rw[jg i0 U];exact c,λj j0 j1=>?_⟩;dsimp only at j1 ⊢;rw[qj i0 U j0]
    by_cases e:j=i
    .grind
    .grind
   .have x:i=32:=by omega
    subst x
    have e:u=r:=by refine bj U λj j0 j1=>?_;have h:=a j U U;rw[iV U U,iV U U]at h;exact h
    subst e;have N:u.take 32=u:=af U;simp[c,N]
def Qe:kZ []=lh []:=by rw[kZ];exact acp 0
def XX:Wf T 88 [qe []] [] (Is (.agg (cl fU (lh [])))):=by have c:=afV;have hl:=sW [];obtain⟨r,b⟩:∃r,lh []=r:=⟨_,rfl⟩;rw[b]at c hl ⊢;have a:r.take 32=r:=af U;refine Yg Ak ?_;simp[Ak];refine Yc (c) ?_;simp[hl,a]
def XY:Wf T 97 [.gp] [] (Is (.agg (cl fU (lh [])))):=by have c:=afZ;have hl:=sW [];obtain⟨r,b⟩:∃r,lh []=r:=⟨_,rfl⟩;rw[b]at c hl ⊢;have a:r.take 32=r:=af U;refine Yg An ?_;simp[An];refine Yc (c) ?_;simp[hl,a]
def dV(v:List gj)(d:D):Prop:=d=iu v\/(v = []/\d = .gp)
def afo:Wf T 41 [iu []] [] (Is (.agg (cl fU (kZ [])))):=by
 rw[Qe];have c:=XX;have hl:=sW [];obtain⟨r,b⟩:∃r,lh []=r:=⟨_,rfl⟩;rw[b]at c hl ⊢;have a:r.take 32=r:=af U;refine Yg Ag ?_;simp[Ag];refine gx.un ?_;refine lG.u ?_;simp
 refine gE.r rfl rfl c (by simp[EI]) (by simp[flat]) gf ?_;simp[hl,a]
def afn:Wf T 41 [.gp] [] (Is (.agg (cl fU (kZ [])))):=by rw[Qe];have c:=XX;have hl:=sW [];obtain⟨r,b⟩:∃r,lh []=r:=⟨_,rfl⟩;rw[b]at c hl ⊢;have a:r.take 32=r:=af U;refine Yg Ag ?_;simp[Ag];refine gx.un ?_;refine lG.u ?_;simp;refine gE.r rfl rfl c (by simp[EI]) (by simp[flat]) gf ?_;simp[hl,a]
def afs:Wf T 49 [iu []] [] (Is (.agg (cl fU (kZ [])))):=by rw[Qe];have c:=XY;have hl:=sW [];obtain⟨r,b⟩:∃r,lh []=r:=⟨_,rfl⟩;rw[b]at c hl ⊢;have a:r.take 32=r:=af U;refine Yg Ah ?_;simp[Ah];refine gx.un ?_;refine lG.u ?_;simp;refine Yc (c) ?_;simp[hl,a]
def afr:Wf T 49 [.gp] [] (Is (.agg (cl fU (kZ [])))):=by rw[Qe];have c:=XY;have hl:=sW [];obtain⟨r,b⟩:∃r,lh []=r:=⟨_,rfl⟩;rw[b]at c hl ⊢;have a:r.take 32=r:=af U;refine Yg Ah ?_;simp[Ah];refine gx.un ?_;refine lG.u ?_;simp;refine Yc (c) ?_;simp[hl,a]
def RD{v:List gj}{d:D}(a:dV v d)(b:v.l<=64):Wf T 41 [d] [] (Is (.agg (cl fU (kZ v)))):=by
 rcases a with rfl|⟨rfl,rfl⟩
 .by_cases h:v = []
  .subst h;exact afo
  .exact XR v (ao.2 h) b
 .exact afn
def afu{v:List gj}{d:D}(a:dV v d)(b:v.l<=64):Wf T 49 [d] [] (Is (.agg (cl fU (kZ v)))):=by
 rcases a with rfl|⟨rfl,rfl⟩
 .by_cases h:v = []
  .subst h;exact afs
  .exact XS v (ao.2 h) b
 .exact afr
theorem Q8:∀(n:Nat) (a b:List Int),a.l=n->b.l=n->nL (bs n nI.int) (cl fU a) (cl fU b)=some (decide (a=b))
 | 0,[],[],_,_=>by simp[pN,nL]
 | n+1,x::a,y::b,ha,hb=>by
  have c:=Q8 n a b (by simpa using ha) (by simpa using hb);rw[nS,nS,AO,AO,bw]
  show(match vV .int (.val (.int .u8 x)) (.val (.int .u8 y)),nL (bs n nI.int) (cl fU a) (cl fU b)with
   | some a,some b=>some (a&&b)
   | _,_=>none)=_
  rw[c];show some (decide (x=y)&&decide (a=b))=_;rw[<-cu];congr 1;exact decide_eq_decide.2 gf
def QS:List nI:=bs 32 nI.int
def VV:QS = [.int,.int,.int,.int,.int,.int,.int,.int,.int,.int,.int,.int,.int,.int,.int,.int,.int,.int,.int,.int,.int,.int,.int,.int,.int,.int,.int,.int,.int,.int,.int,.int]:=rfl
def dE(em:Bool)(es:List gj):D:=if em then .gp else iu es
structure Cw where
 c:gR
 em:Bool
 deriving Inhabited
def Cw.cells(x:Cw):List D:=[.i x.c.who,.i x.c.lo,.i x.c.hi,dE x.em x.c.es]++cl fU x.c.root
structure Cw.ok(x:Cw):Prop where
 em:x.em=di->x.c.es = []
 es:x.c.es.l<=64
 root:x.c.root.l=32
 lo : -1000000<=x.c.lo/\x.c.lo<=1000000
 hi : -1000000<=x.c.hi/\x.c.hi<=1000000
def W9{em:Bool}{es:List gj}(h:em=di->es = []):dV es (dE em es):=by
 unfold dE;cases em
 .exact .inl rfl
 .exact .inr ⟨h rfl,rfl⟩
def Rp{em:Bool}{es:List gj}(h:em=di->es = [])(H:gg):oa .slice (dE em es) H=some (.i es.l):=by
 unfold dE;cases em
 .simp
 .rw[h rfl];simp
@[simp] theorem auF(em:Bool)(es:List gj):closed (dE em es)=true:=by unfold dE;cases em<;>simp
def snd(c:gR):Bool:=decide (0<=c.lo/\c.lo<=c.hi/\(c.es.l:Int)=c.hi-c.lo/\c.root=kZ c.es)
def afq(x:Cw)(b:x.ok):Wf T 48 [.agg x.cells] [] (Is (.b (snd x.c))):=by
 have e:=afu (W9 b.em) b.es;have f:=BK x.c.es;have l:=b.root;have n:=b.lo;have o:=b.hi;have m:=b.es;have a:=Rp b.em;obtain⟨⟨who,lo,hi,es,root⟩,em⟩:=x;unfold Cw.cells snd;dsimp only at *;obtain⟨r,k⟩:∃r,kZ es=r:=⟨_,rfl⟩;rw[k]at e f ⊢;obtain⟨E,g⟩:∃E,dE em es=E:=⟨_,rfl⟩;have i:closed E=true:=by rw[<-g];simp
 rw[g]at e a ⊢;have j:root.take 32=root:=af U;have c:=Q8 32 root r l f;rw[show bs 32 nI.int=QS from rfl,VV]at c
 by_cases h1:0<=lo
 .by_cases d:lo<=hi
  .by_cases h:(es.l:Int)=hi-lo
   .refine Yg xT ?_;simp[xT,h1,d,a];refine iU a ?_;refine ji.c rfl rfl e (by simp[i]) gf ?_;simp[j,c,h]
   .refine Yg xT ?_;simp[xT,h1,d,a];refine iU a ?_;simp[h]
  .refine Yg xT ?_;simp[xT,h1,d]
 .refine Yg xT ?_;simp[xT,h1]
def afQ(x:Cw)(b:x.ok):Wf T 127 [.agg x.cells] [] (Is (.b (snd x.c))):=by
 have e:=RD (W9 b.em) b.es;have f:=BK x.c.es;have l:=b.root;have n:=b.lo;have o:=b.hi;have m:=b.es;have a:=Rp b.em;obtain⟨⟨who,lo,hi,es,root⟩,em⟩:=x;unfold Cw.cells snd;dsimp only at *;obtain⟨r,k⟩:∃r,kZ es=r:=⟨_,rfl⟩;rw[k]at e f ⊢;obtain⟨E,g⟩:∃E,dE em es=E:=⟨_,rfl⟩;have i:closed E=true:=by rw[<-g];simp
 rw[g]at e a ⊢;have j:root.take 32=root:=af U;have c:=Q8 32 root r l f;rw[show bs 32 nI.int=QS from rfl,VV]at c
 by_cases h1:0<=lo
 .by_cases d:lo<=hi
  .by_cases h:(es.l:Int)=hi-lo
   .refine Yg xV ?_;simp[xV,h1,d,a];refine iU a ?_;refine ji.c rfl rfl e (by simp[i]) gf ?_;simp[j,c,h]
   .refine Yg xV ?_;simp[xV,h1,d,a];refine iU a ?_;simp[h]
  .refine Yg xV ?_;simp[xV,h1,d]
 .refine Yg xV ?_;simp[xV,h1]
@[irreducible] def F6(l:List Int):List Int:=(l++zs 32).take 32
theorem aoA(l:List Int):(F6 l).l=32:=by unfold F6;simp
def UF{l:List Int}(h:l.l=32):F6 l=l:=by unfold F6;rw[aZ U,af U]
@[irreducible] def gK(x:Cw):List D:=[.i x.c.who,.i x.c.lo,.i x.c.hi,dE x.em x.c.es]++cl fU (F6 x.c.root)
theorem HX(x:Cw):gK x = [.i x.c.who,.i x.c.lo,.i x.c.hi,dE x.em x.c.es]++cl fU (F6 x.c.root):=by unfold gK;rfl
def AN{x:Cw}(h:x.ok):gK x=x.cells:=by rw[HX,UF h.root];rfl
instance:Fl gK 36:=⟨λx=>by rw[HX];simp[aoA],λx=>by rw[HX];simp[gN]⟩
def iT(n:Int)(c:gR):Bool:=snd c&&decide (c.hi<=n)
def JY{c:gR}(h:snd c=di):0<=c.lo/\c.lo<=c.hi/\(c.es.l:Int)=c.hi-c.lo:=by unfold snd at h;have:=of_decide_eq_true h;exact⟨this.1,this.2.1,this.2.2.1⟩
def Oi(x:Cw)(a:x.ok)(i:Int):Wf T 68 [.agg x.cells,.i i] [] (Is (.b (ke x.c i))):=by
 obtain⟨⟨who,lo,hi,es,root⟩,em⟩:=x;have b:=a.root;unfold Cw.cells ke;dsimp only at *
 by_cases h1:lo<=i
 .refine Yg D5 ?_;simp[D5,h1]
 .refine Yg D5 ?_;simp[D5,h1]
def afA(r:gj):Wf T 77 [.agg [.i r.1,.i r.2]] [] (Is (.b (lV r))):=by
 obtain⟨a,b⟩:=r;unfold lV;dsimp only
 by_cases e:a=2
 .subst e
  by_cases c:b=0
  .subst c;refine Yg vN ?_;simp[vN]
  .refine Yg vN ?_;simp[vN,c]
 .by_cases c:a=1
  .subst c;refine Yg vN ?_;simp[vN]
  .by_cases d:a=3
   .subst d;refine Yg vN ?_;simp[vN]
   .refine Yg vN ?_;simp[vN,e,c,d]
def afx(x:Cw)(a:x.ok)(n:Int):Wf T 69 [.agg x.cells,.i n] [] (Is (.b (iT n x.c))):=by
 have c:=afQ x a;have d:=a.root;have g:(x.cells).l=36:=by unfold Cw.cells;simp[d]
 have f:x.cells.take 36=x.cells:=af U;unfold iT;obtain⟨b,e⟩:∃b,snd x.c=b:=⟨_,rfl⟩;rw[e]at c ⊢;obtain⟨⟨who,lo,hi,es,root⟩,em⟩:=x;unfold Cw.cells at *;dsimp only at *;simp only[cy,bI]at c;refine Yg KG ?_;simp[KG,d];refine Yc (c) ?_;simp;cases b
 .exact nb
 .exact nb
structure nQ(l:List Int)(d:D):Prop where
 cl:closed d=di
 len:∀H,oa .slice d H=some (.i l.l)
 idx:∀(n:Int) (k:IntKind) (P:D->Prop),oA (ni 1 d (.val (.int k n))) P .mk=((0<=n/\n<l.l)/\P (.gH [.i (gt l n)]))
def nQ.I(l:List Int):nQ l (dI l):=⟨gf,λ_=>gf,λn k P=>gf⟩
def nQ.e:nQ [] .gp:=⟨rfl,λ_=>gf,λn k P=>by
 have:ni 1 .gp (.val (.int k n))=none:=rfl;rw[this];simp
 omega⟩
def nQ.N(l:List Int):nQ l (dN 1 f1 l):=by
 cases l with
 | nil=>exact nQ.e
 | cons a r=>exact nQ.I (a::r)
def afR{a b:List Int}{x y:D}(l:nQ a x)(k:nQ b y)(h:a.l=b.l)(r:a.l<=4000000000):Wf T 132 [x,y] [] (Is (.b (decide (a=b)))):=by
 have c:=l.len;have g:=k.len;have f:=l.idx;have d:=k.idx;have o:=l.cl;have n:=k.cl;refine Yg K5 ?_;simp[K5];refine gx.e (0:Int) (λi=>[(0,x),(1,y),(5,.i i)]) (λi=>[]) (λi=>(0<=i/\i<=a.l)/\∀j:Int,0<=j->j<i->gt a j=gt b j) (λi=>(a.l-i).n) ?_ ?_
 .exact⟨gf,λj j0 j1=>U⟩
 rintro i ⟨⟨i0,q⟩,m⟩;dsimp only at i0 q m ⊢
 by_cases hi:i<a.l
 .simp[c,g,f,d,o,n,hi];(with_reducible repeat' first|refine Xk ?_<;>try simp[c,g,f,d,o,n]|refine Xs ?_ ?_<;>intro h<;>(try intro s)<;>(try simp[h,c,g,f,d,o,n])<;>try omega|refine Xg ?_|omega)
  .refine LJ.e (i+1) ?_;refine⟨U,gU,λj j0 j1=>?_⟩
   by_cases e:j=i
   .rw[e];assumption
   .exact m j j0 U
  .rintro rfl;exact absurd rfl ‹_›
 .have p:i=a.l:=by omega
  subst p;simp[c];refine bj h λj j0 j1=>?_;have:=m j U U;rw[iV U U,iV U U]at this;exact this
def XW{a b:List Int}{x y:D}(f:nQ a x)(d:nQ b y)(k:a.l<=4000000000):Wf T 74 [x,y] [] (Is (.b (decide (a=b)))):=by
 have i:=f.len;have g:=d.len;have n:=f.cl;have m:=d.cl
 by_cases h:a.l=b.l
 .have c:=afR f d h k;refine Yg D6 ?_;simp[D6,i,g,h];refine gE.c rfl rfl c (by simp[n,m]) gf ?_;simp
 .have j:¬a=b:=λe=>h (by rw[e]);have l:¬(a.l:Int)=b.l:=U;refine Yg D6 ?_;simp[D6,i,g,h,l,j]
structure wT(l:List gj)(d:D):Prop where
 cl:closed d=di
 len:∀H,oa .slice d H=some (.i l.l)
 idx:∀(n:Int) (k:IntKind) (P:D->Prop),oA (ni 2 d (.val (.int k n))) P .mk=((0<=n/\n<l.l)/\P (.gH [.i (gt l n).1,.i (gt l n).2]))
def wT.I(l:List gj):wT l (iu l):=⟨gf,λ_=>gf,λn k P=>gf⟩
def wT.e:wT [] .gp:=⟨rfl,λ_=>gf,λn k P=>by
 have:ni 2 .gp (.val (.int k n))=none:=rfl;rw[this];simp
 omega⟩
def afC{a b:List gj}{x y:D}(l:wT a x)(k:wT b y)(t:a.l<=4000000000):Wf T 79 [x,y] [] (Is (.b (decide (a=b)))):=by
 have c:=l.len;have d:=k.len;have g:=l.idx;have f:=k.idx;have o:=l.cl;have n:=k.cl
 by_cases h:a.l=b.l
 .refine Yg D7 ?_;simp[D7,c,d,h];refine kG c d h ?_;refine gx.e (0:Int) (λi=>[(0,x),(1,y),(5,.i i)]) (λi=>[]) (λi=>(0<=i/\i<=a.l)/\∀j:Int,0<=j->j<i->gt a j=gt b j) (λi=>(a.l-i).n) ?_ ?_
  .exact⟨gf,λj j0 j1=>U⟩
  rintro i ⟨⟨i0,r⟩,m⟩;dsimp only at i0 r m ⊢
  by_cases hi:i<a.l
  .simp[c,d,g,f,o,n,hi];(with_reducible repeat' first|refine Xk ?_<;>try simp[c,d,g,f,o,n]|refine Xs ?_ ?_<;>intro h<;>(try intro u)<;>(try simp[h,c,d,g,f,o,n])<;>try omega|refine Xg ?_|omega)
   .refine LJ.e (i+1) ?_;refine⟨U,gU,λj j0 j1=>?_⟩
    by_cases e:j=i
    .rw[e];exact cL jX jX
    .exact m j j0 U
   .rintro rfl;exact h ⟨rfl,rfl⟩
  .have q:i=a.l:=by omega
   subst q;simp[c];refine bj h λj j0 j1=>?_;have:=m j U U;rw[iV U U,iV U U]at this;exact this
 .have p:¬a=b:=λe=>h (by rw[e]);have s:¬(a.l:Int)=b.l:=U;refine Yg D7 ?_;simp[D7,c,d,h,s,p]
def afg{a b:List Int}{x y:D}(j:nQ a x)(i:nQ b y)(k:a.l<=4000000000)(p q e f:Int):Wf T 29 [.agg [.i p,x,.i e],.agg [.i q,y,.i f]] [] (Is (.b (decide (p=q/\a=b/\e=f)))):=by
 have g:=j.cl;have d:=i.cl;have c:=XW j i k
 by_cases h1:p=q
 .by_cases h:a=b
  .rw[decide_eq_true h]at c;refine Yg Ab ?_;simp[Ab,h1,g,d];refine gE.c rfl rfl c (by simp[g,d]) gf ?_;simp[h]
  .rw[decide_eq_false h]at c;refine Yg Ab ?_;simp[Ab,h1,g,d];refine gE.c rfl rfl c (by simp[g,d]) gf ?_;simp[h]
 .refine Yg Ab ?_;simp[Ab,h1,g,d]
def afi{v w:List gj}{a b:List Int}{x y r s:D}(l:wT v r)(k:wT w s)(n:nQ a x)(m:nQ b y)(p:v.l<=4000000000)(o:a.l<=4000000000)(e f:Int):Wf T 32 [.agg [r,x,.i e],.agg [s,y,.i f]] [] (Is (.b (decide (v=w/\a=b/\e=f)))):=by
 have j:=n.cl;have i:=m.cl;have h:=l.cl;have cs:=k.cl;have c:=XW n m o;have d:=afC l k p
 by_cases h1:v=w
 .rw[decide_eq_true h1]at d
  by_cases g:a=b
  .rw[decide_eq_true g]at c;refine Yg Ad ?_;simp[Ad,j,i,h,cs];refine gE.c rfl rfl d (by simp[h,cs]) gf ?_;simp[h1,g];refine gE.c rfl rfl c (by simp[j,i]) gf ?_;simp[h1,g]
  .rw[decide_eq_false g]at c;refine Yg Ad ?_;simp[Ad,j,i,h,cs];refine gE.c rfl rfl d (by simp[h,cs]) gf ?_;simp[h1,g];refine gE.c rfl rfl c (by simp[j,i]) gf ?_;simp[h1,g]
 .rw[decide_eq_false h1]at d;refine Yg Ad ?_;simp[Ad,j,i,h,cs];refine gE.c rfl rfl d (by simp[h,cs]) gf ?_;simp[h1]
set_option maxHeartbeats 8000000
def wE(m:Int)(r:gj):Int:=if r.1≠2/\(m<0\/r.2<m)then r.2 else m
def sh(l:List gj):Int:=l.foldl wE (-1)
def f0(l:List gj):gj:=if l = []then(0,0)else l5 l
def aa0(l:List gj)(r:gj):sh (l ++ [r])=wE (sh l) r:=by unfold sh;rw[bb];rfl
def ae9(l:List gj)(r:gj):f0 (l ++ [r])=if l = []then r else f0 l:=by
 unfold f0
 cases l with
 | nil=>rfl
 | cons a t=>rfl
def aeQ(l:List gj)(r:gj):lH (l ++ [r])=(lH l||decide (r≠f0 (l ++ [r]))):=by
 cases l with
 | nil=>
  unfold lH f0;simp[l5]
 | cons a t=>
  unfold lH f0;simp[l5]
def apo(cl:List gR)(c:gR)(i:Int):sd (cl ++ [c]) i=if ke c i=di then sd cl i ++ [jH c i]else sd cl i:=by
 unfold sd;rw[cT,cj]
 by_cases h:ke c i=di
 .simp[h]
 .simp[h]
def apn(cl:List gR)(i:Int):(sd cl i).l<=cl.l:=by unfold sd;rw[b4];exact cp _ _
def dd(a b:Int)(q:gj):(!decide (a=q.1) || !decide (b=q.2)) = !decide ((a,b)=q):=by obtain⟨x,y⟩:=q;rw[<-Bool.not_and,<-cu];congr 1;exact decide_eq_decide.2 gf
def Cw.full(x:Cw):Prop:=x.ok/\(x.c.lo<x.c.hi->(x.c.es.l:Int)=x.c.hi-x.c.lo)
def Cw.AS{x:Cw}(h:x.full){i:Int}(a:ke x.c i=di):x.em=dr/\x.c.lo<=i/\i-x.c.lo<x.c.es.l:=by
 unfold ke at a;rw[decide_eq_true_iff]at a;have b:=h.2 U;refine⟨?_,a.1,U⟩
 cases e:x.em with
 | false=>rfl
 | true=>
  have:=h.1.em e;rw[this]at b;simp at b;omega
def cs(L:List Cw):List gR:=L.map Cw.c
def HU(L:List Cw)(B:∀x∈L,x.full)(F:L.l<=4000000000)(i:Int)(hi : -1000000<=i/\i<=1000000):Wf T 76 [.sl 36 (L.map gK),.i i] [] (Is (.agg [.i ((sd (cs L) i).l:Nat),.i (f0 (sd (cs L) i)).1,.i (f0 (sd (cs L) i)).2,.b (lH (sd (cs L) i)),.i (sh (sd (cs L) i))])):=by
 obtain⟨R,w⟩:∃R,sd (cs L) i=R:=⟨_,rfl⟩;rw[w];refine Yg KL ?_;simp[KL];refine gx.e ((0,[]):Int×List gj) (λy=>[(0,.sl 36 (L.map gK)),(1,.i i),(4,.ptr 0 0 0),(5,.ptr 1 0 0),(6,.i y.1)]) (λy=>[.row 183 0 [.i 0,.i 0,.i 0,.b dr,.i 0],.row 183 0 [.i (y.2.l:Nat),.i (f0 y.2).1,.i (f0 y.2).2,.b (lH y.2),.i (sh y.2)]]) (λy=>(0<=y.1/\y.1<=L.l)/\y.2=sd (cs (L.take y.1.n)) i) (λy=>(L.l-y.1).n) ?_ ?_
 .exact⟨gf,rfl⟩
 rintro⟨k,s⟩ ⟨⟨k0,k1⟩,hs⟩;dsimp only at k0 k1 hs ⊢
 have E:s.l<=L.l:=by have:=apn (cs (L.take k.n)) i;rw[<-hs]at this;simp[cs]at this;omega
 by_cases j:k<L.l
 .have e:=BS (l:=L) k0 j;have g:=B _ (gF k0 j);have d:=Oi (gt L k) g.1 i;have o:=λh=>Cw.AS g (i:=i) h
  have a:sd (cs (L.take (k+1).n)) i=if ke (gt L k).c i=di then s ++ [jH (gt L k).c i]else s:=by rw[e,hs];unfold cs;rw[cj];exact apo _ _ _
  have u:=AN g.1;rw[<-u]at d;have c:(gK (gt L k)).l=36:=Fl.len _;have n:gN (gK (gt L k))=true:=Fl.cl _;have b:(gK (gt L k)).take 36=gK (gt L k):=af U;obtain⟨p,A⟩:∃p,ke (gt L k).c i=p:=⟨_,rfl⟩;rw[A]at d a o;cases p
  .rw[if_neg gf]at a;simp[j];refine jT c b ?_;simp[c,b];refine gE.c rfl rfl d (by simp[n]) gf ?_;simp;refine gi ?_;refine LJ.e (k+1,s) ?_;exact⟨U,gU,a.symm⟩
  .rw[if_pos rfl]at a;obtain⟨em,j0,j1⟩:=o rfl;simp[j];refine jT c b ?_;simp[c,b];refine gE.c rfl rfl d (by simp[n]) gf ?_
   have f:gK (gt L k)=D.i (gt L k).c.who::D.i (gt L k).c.lo::D.i (gt L k).c.hi::iu (gt L k).c.es::cl fU (gt L k).c.root:=by rw[u];unfold Cw.cells dE;rw[em];rfl
   have C:=g.1.lo;obtain⟨r,v⟩:∃r,jH (gt L k).c i=r:=⟨_,rfl⟩;obtain⟨t,q⟩:=r;have m:gt (gt L k).c.es (i-(gt L k).c.lo)=(t,q):=v;rw[v]at a;clear n b c d;simp[f];(with_reducible repeat' first|refine Xk ?_<;>try simp[f,m]|refine Xs ?_ ?_<;>intro h<;>(try intro G)<;>(try simp[h,f,m])<;>try omega|refine Xg ?_|omega)
   all_goals clear m f
   all_goals refine LJ.i (k+1,s ++ [(t,q)]) gf ?_ rfl rfl ⟨U,gU,a.symm⟩
   all_goals clear a
   all_goals simp[ae9,aeQ,aa0,wE]
   all_goals simp_all
   all_goals first|(intros;omega)|(simp[dd];done)|(refine⟨by simp[dd],?_⟩;intros;omega)
 .have z:k=L.l:=by omega
  subst z;rw[af U,w]at hs;subst hs;simp
def jw(p:gR->Bool):List gR->Nat->List Int
 | _,0=>[]
 | cl,n+1=>if p (gt cl (n:Int))=di then jw p cl n ++ [(n:Int)]else jw p cl n
def RI(L:List Cw)(F:∀x∈L,x.full)(I:L.l<=4000000000)(i:Int)(hi : -1000000<=i/\i<=1000000)(w:gj):Wf T 133 [.sl 36 (L.map gK),.i i,.agg [.i w.1,.i w.2]] [] (Is (dI (jw (λc=>ke c i&&decide (jH c i≠w)) (cs L) L.l))):=by
 obtain⟨R,v⟩:∃R,jw (λc=>ke c i&&decide (jH c i≠w)) (cs L) L.l=R:=⟨_,rfl⟩;rw[v];refine Yg K6 ?_;simp[K6];refine gx.e ((0,[]):Int×List Int) (λy=>[(0,.sl 36 (L.map gK)),(1,.i i),(5,.ptr 0 0 0),(7,.gh 1 y.2.l 1 0 y.2.l),(8,.i y.1)]) (λy=>[.row 86 0 [.i w.1,.i w.2],.row 3 y.2.l (cl f1 y.2)]) (λy=>(0<=y.1/\y.1<=L.l)/\y.2=jw (λc=>ke c i&&decide (jH c i≠w)) (cs L) y.1.n/\y.2.l<=y.1.n) (λy=>(L.l-y.1).n) ?_ ?_
 .exact⟨gf,rfl,gf⟩
 rintro⟨k,s⟩ ⟨⟨k0,k1⟩,hs,C⟩;dsimp only at k0 k1 hs C ⊢
 by_cases b:k<L.l
 .have j:=F _ (gF k0 b);have l:=Oi (gt L k) j.1 i;have q:=λh=>Cw.AS j (i:=i) h
  have A:gt (cs L) k=(gt L k).c:=by unfold cs;rw[iV k0 (by rw[b4];exact b),iV k0 b,List.getElem_map]
  have a:jw (λc=>ke c i&&decide (jH c i≠w)) (cs L) (k+1).n=if (ke (gt L k).c i&&decide (jH (gt L k).c i≠w))=di then s ++ [k]else s:=by rw[(U:(k+1).n=k.n+1),jw,(U:((k.n:Nat):Int)=k),A,<-hs]
  have t:=AN j.1;rw[<-t]at l;have g:(gK (gt L k)).l=36:=Fl.len _;have z:gN (gK (gt L k))=true:=Fl.cl _;have d:(gK (gt L k)).take 36=gK (gt L k):=af U;obtain⟨p,E⟩:∃p,ke (gt L k).c i=p:=⟨_,rfl⟩;rw[E]at l a q;cases p
  .rw[if_neg gf]at a;simp[b];refine jT g d ?_;simp[g,d];refine ji.c rfl rfl l (by simp[z]) gf ?_;simp;refine gi ?_;refine LJ.e (k+1,s) ?_;exact⟨U,gU,a.symm,gI⟩
  .obtain⟨em,j0,j1⟩:=q rfl
   have o:gK (gt L k)=D.i (gt L k).c.who::D.i (gt L k).c.lo::D.i (gt L k).c.hi::iu (gt L k).c.es::cl fU (gt L k).c.root:=by rw[t];unfold Cw.cells dE;rw[em];rfl
   have H:=j.1.lo;obtain⟨r,u⟩:∃r,jH (gt L k).c i=r:=⟨_,rfl⟩;rw[u,dz]at a;obtain⟨n,m⟩:=r;obtain⟨w1,w2⟩:=w;have f:gt (gt L k).c.es (i-(gt L k).c.lo)=(n,m):=u;simp[b];refine jT g d ?_;simp[g,d];refine ji.c rfl rfl l (by simp[z]) gf ?_;simp[o];(with_reducible repeat' first|refine Xk ?_<;>try simp[o,f]|refine Xs ?_ ?_<;>intro h<;>(try intro J)<;>(try simp[h,o,f])<;>try omega|refine Xg ?_|omega)
   .have e:(n,m)=(w1,w2):=by rw[<-f];exact cL jX jX
    rw[if_neg (by rw[e];simp)]at a;refine LJ.e (k+1,s) ?_;exact⟨U,gU,a.symm,gI⟩
   .have e:(n,m)≠(w1,w2):=λG=>h (by rw[f,G];exact⟨rfl,rfl⟩);rw[if_pos (by exact decide_eq_true e)]at a;refine LJ.e (k+1,s ++ [k]) ?_;exact⟨U,gU,a.symm,gO⟩
 .have B:k=L.l:=by omega
  subst B;rw[(U:((L.l:Int)).n=L.l),v]at hs;subst hs;simp
@[simp] theorem axO(o:Int):ia [] o = []:=rfl
@[simp] theorem axH:oc [] = -1:=rfl
@[simp] theorem ai3:pH [] = -1:=rfl
theorem abi(l:List Int)(x:Int):oc (l ++ [x])=if l = []then x else min (oc l) x:=by
 cases l with
 | nil=>rfl
 | cons a r=>simp[oc,bb]
def ai4(l:List Int)(x:Int):pH (l ++ [x])=if l = []then x else max (pH l) x:=by
 cases l with
 | nil=>rfl
 | cons a r=>simp[pH,bb]
def abt{l:List gj}{x:gj}{o:Int}(h:x.1=o):ia (l ++ [x]) o=ia l o ++ [x.2]:=by simp[ia,h]
def abr{l:List gj}{x:gj}{o:Int}(h:x.1≠o):ia (l ++ [x]) o=ia l o:=by simp[ia,h]
def abh{l:List Int}(h:∀x∈l,0<=x):0<=oc l↔l≠[]:=by
 constructor
 .rintro h1 rfl;exact absurd h1 jr
 .exact λh1=>h _ (xK h1)
def YG(l:List gj):f0 l=l5 l:=by
 unfold f0
 cases l with
 | nil=>rfl
 | cons a r=>rfl
def T1{l:List gj}(h:∀r∈l,r.1≠2->0<=r.2):sh l=oB l:=by
 suffices ∀(l m:List gj),(∀r∈m++l,r.1≠2->0<=r.2)->l.foldl wE (oB m)=oB (m++l)from by have:=this l [] (by simpa using h);rw[bI]at this;exact this
 intro l
 induction l with
 | nil=>intro m _;simp
 | cons a r i=>
  intro m d;rw[cD]
  have e:wE (oB m) a=oB (m ++ [a]):=by
   unfold wE;have g:=d a gf;unfold oB;rw[cT,cj]
   by_cases f:a.1=2
   .grind
   .have g:=g f;have hs:((([a]:List gj).filter λr=>decide (r.1≠2)).map λr=>r.2) = [a.2]:=by simp[f]
    rw[hs,abi]
    by_cases b:((m.filter λr=>decide (r.1≠2)).map λr=>r.2) = []
    .rw[if_pos b,b];rw[if_pos ⟨f,.inl jr⟩]
    .rw[if_neg b];have j:=xK b;obtain⟨q,c,k⟩:=au.1 j;rw[aO]at c;have n:=d q (by simp[c.1]) (by simpa using c.2)
     by_cases hl:a.2<oc ((m.filter λr=>decide (r.1≠2)).map λr=>r.2)
     .grind
     .grind
  rw[e,i (m ++ [a]) (by simpa using d)];simp
def q'(cl:List gR)(n j:Int):gj:=if lH (sd cl j)=dr/\(l5 (sd cl j)).2<n then l5 (sd cl j)else(2,0)
def PM(A:mf)(cl:List gR)(i n:Int):PL A cl i n=(gt A.nx i).map (q' cl n):=rfl
theorem TN{p q:gR->Bool}{cl:List gR}:∀ {n:Nat},n<=cl.l->(∀c∈cl,p c=q c)->jw p cl n=jw q cl n
 | 0,_,_=>rfl
 | n+1,h,hp=>by rw[jw,jw,TN U hp,hp _ (gF U U)]
def vo(p:gR->Bool)(cl:List gR):jw p cl cl.l=idx p cl:=by
 unfold idx
 suffices ∀n:Nat,jw p cl n=(upto n).filter λk=>p (gt cl k)from this _
 intro n
 induction n with
 | zero=>rfl
 | succ n a=>
  rw[jw,a,D0,cT]
  by_cases h:p (gt cl (n:Int))=di
  .grind
  .grind
end Go.Proofs.YtmehofoficaelaaGreatDoor
namespace Go.Proofs.YtmehofoficaelaaGreatDoor
open Go Go.AL Classical
def nO(left ls:List Int):List Int:=((upto left.l).filter λp => !ls.contains p).map λp=>gt left p
noncomputable def J1(A:mf)(n:Nat)(ad:gR->Bool)(cl:List gR):Nat->List Int->List Int×Jd
 | 0,left=>(left,.none)
 | f+1,left=>match nj A n ad (left.map λk=>gt cl k)with
  | .v _ ls=>J1 A n ad cl f (nO left ls)
  | j=>(left,j)
def ai6{left ls:List Int}{k:Int}:k∈nO left ls↔∃p:Int,(0<=p/\p<left.l)/\p ∉ ls/\gt left p=k:=by
 unfold nO;rw[au];constructor
 .rintro⟨p,a,e⟩;rw[aO,jF]at a;exact⟨p,a.1,by simpa using a.2,e⟩
 .rintro⟨p,h1,b,e⟩;exact⟨p,aO.2 ⟨jF.2 h1,by simpa using b⟩,e⟩
def qx(n:Nat):(upto n).l=n:=by simp[upto]
def aoV{left ls:List Int}{p:Int}(c:p∈ls)(h0:0<=p)(h1:p<left.l):(nO left ls).l<left.l:=by
 unfold nO;rw[b4];have a:=cp (λp => !ls.contains p) (upto left.l);rw[qx]at a;refine Nat.lt_of_le_of_ne a λe=>?_;have:(upto left.l).l=left.l:=qx _;rw[<-this]at e;rw[this]at e;have b:((upto left.l).filter λp => !ls.contains p).l=(upto left.l).l:=by rw[e,this]
 rw[eI]at b;have:=b p (jF.2 ⟨h0,h1⟩);simp[c]at this
section
variable{A:mf}{V:List gj}{cl:List gR}{n:Nat}{ad:gR->Bool}
end
theorem RO{p:Int->Bool}:∀ {n:Nat} {i:Int},0<=i->i<n->p i=di->(∀j:Int,0<=j->j<i->p j=dr)->(upto n).find? p=some i
 | 0,i,h0,h1,_,_=>U
 | n+1,i,h0,h1,hp,hn=>by
  rw[D0,List.find?_append]
  by_cases e:i=n
  .have:(upto n).find? p=none:=ei.2 λj a=>by rw[jF]at a;rw[hn j a.1 U];simp
   rw[this,e];rw[e]at hp;simp[hp]
  .rw[RO h0 U hp hn];rfl
def Yo{p:Int->Bool}{n:Nat}(h:∀j:Int,0<=j->j<n->p j=dr):(upto n).find? p=none:=
 ei.2 λj a=>by rw[jF]at a;rw[h j a.1 a.2];simp
section
variable{A:mf}{n:Nat}{ad:gR->Bool}{cl:List gR}
def imp(cl:List gR)(i:Int):List Int:=jw (λc=>ke c i && !lV (jH c i)) cl cl.l
theorem aam(h:jw (λc => !ad c) cl cl.l≠[]):nj A n ad cl = .v (-1) (jw (λc => !ad c) cl cl.l):=by unfold nj;rw[vo]at h ⊢;rw[if_pos h]
theorem aao(h:jw (λc => !ad c) cl cl.l = []){i:Int}(i0:0<=i)(a:i<n)(hi:sd cl i = []):nj A n ad cl = .vY:=by unfold nj;rw[vo]at h;rw[if_neg (λq=>q h),if_pos ⟨i,jF.2 ⟨i0,a⟩,hi⟩]
theorem aap(h:jw (λc => !ad c) cl cl.l = [])(hs:∀j:Int,0<=j->j<n->sd cl j≠[]){i:Int}(i0:0<=i)(b:i<n)(hi:imp cl i≠[])(a:∀j:Int,0<=j->j<i->imp cl j = []):nj A n ad cl = .v i (imp cl i):=by
 unfold nj;rw[vo]at h;rw[if_neg (λq=>q h),if_neg]
 .rw[RO i0 b]
  .show Jd.v i _=_;unfold imp;rw[vo]
  .rw[decide_eq_true_iff,<-vo];exact hi
  .intro j j0 j1;rw[decide_eq_false_iff_not,<-vo];exactλq=>q (a j j0 j1)
 .rintro⟨j,a,e⟩;rw[jF]at a;exact hs j a.1 a.2 e
theorem aan(h:jw (λc => !ad c) cl cl.l = [])(hs:∀j:Int,0<=j->j<n->sd cl j≠[])(a:∀j:Int,0<=j->j<n->imp cl j = []):nj A n ad cl=if kW cl n<0 then .none else .v (kW cl n) (jw (o3 A cl (kW cl n)) cl cl.l):=by
 unfold nj;rw[vo]at h;rw[if_neg (λq=>q h),if_neg]
 .rw[Yo λj j0 j1=>by
   rw[decide_eq_false_iff_not,<-vo]
   exactλq=>q (a j j0 j1)]
  rw[vo]
 .rintro⟨j,a,e⟩;rw[jF]at a;exact hs j a.1 a.2 e
theorem imp_nil{i:Int}(h:imp cl i = []):∀r∈sd cl i,lV r=true:=λr a=>by
 obtain⟨c,b,h1,rfl⟩:=wF.1 a;unfold imp at h;rw[vo]at h
 cases e:lV (jH c i)with
 | true=>rfl
 | false=>exact absurd h (Dm.2 ⟨c,b,by simp[h1,e]⟩)
def uR(cl:List gR):Nat->Int×Int
 | 0=>(-1,0)
 | n+1=>if lH (sd cl n)=di/\((uR cl n).1<0\/sh (sd cl n)<(uR cl n).2)then((n:Int),sh (sd cl n))else uR cl n
theorem We(a:∀j:Int,0<=j->j<n->∀r∈sd cl j,lV r=di):∀m:Nat,m<=n->(uR cl m).1=kW cl m/\(0<=(uR cl m).1->(uR cl m).1<m/\(uR cl m).2=oB (sd cl (uR cl m).1))
 | 0,_=>⟨rfl,λh=>by
  have:(0:Int)<=-1:=h
  omega⟩
 | m+1,hm=>by
  obtain⟨h1,c⟩:=We a m U
  have hl:sh (sd cl (m:Int))=oB (sd cl (m:Int)):=T1 λr b c=>by
   have:=a m U U r b;simp only[lV,decide_eq_true_eq]at this;rcases this with e|e
   .grind
   .exact e.2
  have e:kW cl (m+1)=B' cl (kW cl m) m:=by unfold kW;rw[D0,bb];rfl
  rw[e,uR];unfold B';rw[<-h1,hl]
  by_cases h0:(uR cl m).1<0
  .grind
  .grind
end
set_option maxRecDepth 10000
set_option maxHeartbeats 8000000
noncomputable def EJ(a b:List gj)(m:Nat):Int:=match (upto m).find? λi=>decide (gt a i≠gt b i)with
 | some i=>i
 | none=>if a.l=b.l then -1 else m
def Xh{a b:List gj}{m:Nat}{i:Int}(i0:0<=i)(c:i<m)(e:gt a i≠gt b i)(d:∀j:Int,0<=j->j<i->gt a j=gt b j):EJ a b m=i:=by unfold EJ;rw[RO i0 c (by simpa using e) λj j0 j1=>by simp[d j j0 j1]]
def Xf{a b:List gj}{m:Nat}(c:∀j:Int,0<=j->j<m->gt a j=gt b j):EJ a b m=if a.l=b.l then -1 else(m:Int):=by unfold EJ;rw[Yo λj j0 j1=>by simp[c j j0 j1]]
def afl(a b:List gj)(t:a.l<=4000)(s:b.l<=4000){m:Nat}(r:min a.l b.l=m):Wf T 35 [iu a,iu b] [] (Is (.i (EJ a b m))):=by
 have n:min (a.l:Int) b.l=m:=U;refine Yg Kx ?_;simp[Kx,n];refine gx.e (0:Int) (λy=>[(0,iu a),(1,iu b),(5,.i m),(12,.i m),(13,.i y)]) (λy=>[]) (λy=>(0<=y/\y<=m)/\∀j:Int,0<=j->j<y->gt a j=gt b j) (λy=>(m-y).n) ?_ ?_
 .exact⟨gf,λj j0 j1=>U⟩
 rintro i ⟨⟨i0,p⟩,g⟩;dsimp only at i0 p g ⊢
 by_cases hi:i<m
 .have f:i<a.l:=by omega
  have d:i<b.l:=U
  by_cases c:gt a i=gt b i
  .simp[hi,c,f,d,i0];(with_reducible repeat' first|refine Xk ?_<;>try simp[hi,c,f,d,i0]|refine Xs ?_ ?_<;>intro h<;>(try intro l)<;>(try simp[h,hi,c,f,d,i0])<;>try omega|refine Xg ?_|omega);refine LJ.e (i+1) ?_;refine⟨U,gU,λj j0 j1=>?_⟩
   by_cases e:j=i
   .rw[e,c]
   .exact g j j0 U
  .have q:=Xh i0 hi c g;have k:¬((gt a i).1=(gt b i).1/\(gt a i).2=(gt b i).2):=λh=>c (cL h.1 h.2);simp[hi,c,f,d,i0,k];(with_reducible repeat' first|refine Xk ?_<;>try simp[hi,c,f,d,i0,k]|refine Xs ?_ ?_<;>intro h<;>(try intro l)<;>(try simp[h,hi,c,f,d,i0,k])<;>try omega|refine Xg ?_|omega)
 .have o:i=m:=by omega
  subst o;have q:=Xf g;simp;(with_reducible repeat' first|refine Xk ?_<;>try simp|refine Xs ?_ ?_<;>intro h<;>(try intro l)<;>(try simp[h])<;>try omega|refine Xg ?_|omega)
def afm(a b:List gj)(u:a.l<=4000)(t:b.l<=4000){m:Nat}(s:min a.l b.l=m):Wf T 36 [iu a,iu b] [] (Is (.i (EJ a b m))):=by
 have d:min (a.l:Int) b.l=m:=U;refine Yg Ky ?_;simp[Ky,d];refine gx.e (0:Int) (λy=>[(0,iu a),(1,iu b),(5,.i y)]) (λy=>[]) (λy=>(0<=y/\y<=m)/\∀j:Int,0<=j->j<y->gt a j=gt b j) (λy=>(m-y).n) ?_ ?_
 .exact⟨gf,λj j0 j1=>U⟩
 rintro i ⟨⟨i0,q⟩,k⟩;dsimp only at i0 q k ⊢
 by_cases hi:i<m
 .have g:i<a.l:=by omega
  have f:i<b.l:=U
  by_cases c:gt a i=gt b i
  .simp[hi,c,g,f,i0];(with_reducible repeat' first|refine Xk ?_<;>try simp[hi,c,g,f,i0]|refine Xs ?_ ?_<;>intro h<;>(try intro o)<;>(try simp[h,hi,c,g,f,i0])<;>try omega|refine Xg ?_|omega);refine LJ.e (i+1) ?_;refine⟨U,gU,λj j0 j1=>?_⟩
   by_cases e:j=i
   .rw[e,c]
   .exact k j j0 U
  .have r:=Xh i0 hi c k;have l:¬((gt a i).1=(gt b i).1/\(gt a i).2=(gt b i).2):=λh=>c (cL h.1 h.2);simp[hi,c,g,f,i0,l];(with_reducible repeat' first|refine Xk ?_<;>try simp[hi,c,g,f,i0,l]|refine Xs ?_ ?_<;>intro h<;>(try intro o)<;>(try simp[h,hi,c,g,f,i0,l])<;>try omega|refine Xg ?_|omega)
 .have p:i=m:=by omega
  subst p;have r:=Xf k
  by_cases h1:(m:Int)<a.l
  .have n:¬(m:Int)<b.l:=by omega
   simp[h1,n,d];(with_reducible repeat' first|refine Xk ?_<;>try simp[h1,n,d]|refine Xs ?_ ?_<;>intro h<;>(try intro o)<;>(try simp[h,h1,n,d])<;>try omega|refine Xg ?_|omega)
  .simp[h1,d];(with_reducible repeat' first|refine Xk ?_<;>try simp[h1,d]|refine Xs ?_ ?_<;>intro h<;>(try intro o)<;>(try simp[h,h1,d])<;>try omega|refine Xg ?_|omega)
def sQ(l:List Int):Int:=if l = []then 0 else oc l
def sR(l:List Int):Int:=if l = []then 0 else pH l
@[simp] theorem axK:sQ []=0:=rfl
@[simp] theorem axM:sR []=0:=rfl
theorem abl{l:List Int}{a:Int}:sQ (l ++ [a])=if l.l=0\/a<sQ l then a else sQ l:=by
 cases l with
 | nil=>simp[sQ,oc]
 | cons b r=>
  simp[sQ,oc,bb];omega
def abp{l:List Int}{a:Int}:sR (l ++ [a])=if l.l=0\/sR l<a then a else sR l:=by
 cases l with
 | nil=>simp[sR,pH]
 | cons b r=>
  simp[sR,pH,bb];omega
def abj{M:List gj}(h:M≠[]):mr M=if 0<(ia M 3).l then(1,sQ (ia M 3)+1)else if (ia M 1).l=M.l then(3,sR (ia M 1)+1)else(2,0):=by
 unfold mr
 by_cases a:ia M 3 = []
 .rw[if_neg (λq=>q a),if_neg (c:=0<(ia M 3).l) (by rw[a];simp)]
  by_cases h1:(ia M 1).l=M.l
  .have:ia M 1≠[]:=λe=>by rw[e]at h1;exact h (aC.1 h1.symm)
   rw[if_pos ⟨h,h1⟩,if_pos (c:=(ia M 1).l=M.l) h1,sR,if_neg this]
  .rw[if_neg (λq=>h1 q.2),if_neg (c:=(ia M 1).l=M.l) h1]
 .rw[if_pos a,if_pos (ao.2 a),sQ,if_neg a]
def abk{l:List Int}{b:Int}(h:∀y∈l,-b<=y/\y<=b)(a:0<=b) : -b<=sQ l/\sQ l<=b:=by
 unfold sQ;split
 .omega
 .exact h _ (xK ‹_›)
def abo{l:List Int}{b:Int}(h:∀y∈l,-b<=y/\y<=b)(a:0<=b) : -b<=sR l/\sR l<=b:=by
 unfold sR;split
 .omega
 .exact h _ (Bv ‹_›)
def afS(v:List gj)(x:List Int)(gQ:∀k∈x,0<=k/\k<v.l)(O:0<x.l)(W:x.l<=4000000000)(P:∀k:Int,0<=k->k<v.l->-4000<=(gt v k).2/\(gt v k).2<=4000) :
  Wf T 134 [iu v,dI x] [] (Is (.agg [.i (mr (x.map λk=>gt v k)).1,.i (mr (x.map λk=>gt v k)).2])):=by
 have L:=R9 P gQ;have p:=abj (M:=x.map λk=>gt v k) (by simpa using ao.1 O);refine Yg K7 ?_;simp[K7];refine gx.e ((0,[],[]):Int×List Int×List Int) (λy=>[(0,iu v),(1,dI x),(4,.ptr 0 0 0),(5,.i (sQ y.2.1)),(6,.i (sR y.2.2)),(7,.i y.2.1.l),(8,.i y.2.2.l),(9,.i y.1)]) (λy=>[.row 86 0 [.i 0,.i 0]]) (λy=>(0<=y.1/\y.1<=x.l)/\y.2.1=ia ((x.take y.1.n).map λk=>gt v k) 3/\y.2.2=ia ((x.take y.1.n).map λk=>gt v k) 1) (λy=>(x.l-y.1).n) ?_ ?_
 .simp
 rintro⟨k,A,B⟩ ⟨⟨k0,k1⟩,E,D⟩;dsimp only at k0 k1 E D ⊢
 have S:A.l<=k.n:=by have:=By ((x.take k.n).map λk=>gt v k) 3;rw[<-E,b4,aG]at this;omega
 have V:B.l<=k.n:=by have:=By ((x.take k.n).map λk=>gt v k) 1;rw[<-D,b4,aG]at this;omega
 by_cases g:k<x.l
 .have c:=gQ _ (gF k0 g);have e:(x.take (k+1).n).map (λk=>gt v k)=(x.take k.n).map (λk=>gt v k) ++ [gt v (gt x k)]:=by rw[Gr k0 g,cj];rfl
  obtain⟨r,i⟩:∃r,gt v (gt x k)=r:=⟨_,rfl⟩;rw[i]at e;have C:=abl (l:=A) (a:=r.2);have z:=abp (l:=B) (a:=r.2);have K:r.1=3->ia ((x.take (k+1).n).map λk=>gt v k) 3=A ++ [r.2]:=λh=>by rw[e,BA h,E]
  have I:r.1≠3->ia ((x.take (k+1).n).map λk=>gt v k) 3=A:=λh=>by rw[e,Bz h,E]
  have J:r.1=1->ia ((x.take (k+1).n).map λk=>gt v k) 1=B ++ [r.2]:=λh=>by rw[e,BA h,D]
  have G:r.1≠1->ia ((x.take (k+1).n).map λk=>gt v k) 1=B:=λh=>by rw[e,Bz h,D]
  obtain⟨H,m⟩:=r;dsimp only at C z K I J G;obtain⟨t,s⟩:∃t,sQ A=t:=⟨_,rfl⟩;obtain⟨mx,u⟩:∃mx,sR B=mx:=⟨_,rfl⟩;rw[s]at C;rw[u]at z;rw[s,u];have j:((x.l:Int)-(k+1)).n<((x.l:Int)-k).n/\(0<=k+1/\k+1<=x.l):=U
  by_cases d:H=3
  .have q:=G U;have w:=K d
   by_cases o:A.l=0\/m<t
   .rw[if_pos o]at C
    by_cases f:A.l=0
    .simp[g,i,c.1,c.2,d,f];refine kG (aE g i) (aE c.1 c.2) (aE d f) ?_;refine LJ.i (k+1,A ++ [m],B) (by simp[C,u,f]) rfl rfl rfl ⟨j.1,j.2,w.symm,q.symm⟩
    .have n:m<t:=o.resolve_left f;simp[g,i,c.1,c.2,d,f,n];refine o5 (aE g i) (aE c.1 c.2) (aE d f) n ?_;refine LJ.i (k+1,A ++ [m],B) (by simp[C,u]) rfl rfl rfl ⟨j.1,j.2,w.symm,q.symm⟩
   .rw[if_neg o]at C;have f:¬A.l=0:=λh=>o (.inl h);have n:¬m<t:=λh=>o (.inr h);simp[g,i,c.1,c.2,d,f,n];refine o5 (aE g i) (aE c.1 c.2) (aE d f) n ?_;refine LJ.i (k+1,A ++ [m],B) (by simp[C,u]) rfl rfl rfl ⟨j.1,j.2,w.symm,q.symm⟩
  .have w:=I d
   by_cases h1:H=1
   .have q:=J h1
    by_cases o:B.l=0\/mx<m
    .rw[if_pos o]at z
     by_cases f:B.l=0
     .simp[g,i,c.1,c.2,d,h1,f];refine o5 (aE g i) (aE c.1 c.2) (aE d h1) f ?_;refine LJ.i (k+1,A,B ++ [m]) (by simp[z,s,f]) rfl rfl rfl ⟨j.1,j.2,w.symm,q.symm⟩
     .have n:mx<m:=o.resolve_left f;simp[g,i,c.1,c.2,d,h1,f,n];refine o5 (aE g i) (aE c.1 c.2) (aE d h1) (aE f n) ?_;refine LJ.i (k+1,A,B ++ [m]) (by simp[z,s]) rfl rfl rfl ⟨j.1,j.2,w.symm,q.symm⟩
    .rw[if_neg o]at z;have f:¬B.l=0:=λh=>o (.inl h);have n:¬mx<m:=λh=>o (.inr h);simp[g,i,c.1,c.2,d,h1,f,n];refine o5 (aE g i) (aE c.1 c.2) (aE d h1) (aE f n) ?_;refine LJ.i (k+1,A,B ++ [m]) (by simp[z,s]) rfl rfl rfl ⟨j.1,j.2,w.symm,q.symm⟩
   .have q:=G h1;simp[g,i,c.1,c.2,d,h1];refine kG (aE g i) (aE c.1 c.2) (aE d h1) ?_;refine LJ.i (k+1,A,B) (by simp[s,u]) rfl rfl rfl ⟨j.1,j.2,w.symm,q.symm⟩
 .have N:k=x.l:=by omega
  subst N;rw[Int.toNat_natCast,cQ]at E D;rw[<-E,<-D,b4]at p;have R:=abk (l:=A) (b:=4000) (λy F=>by rw[E]at F;have:=L _ (uK.1 F);exact this) U;have Q:=abo (l:=B) (b:=4000) (λy F=>by rw[D]at F;have:=L _ (uK.1 F);exact this) U;obtain⟨t,s⟩:∃t,sQ A=t:=⟨_,rfl⟩;obtain⟨mx,u⟩:∃mx,sR B=mx:=⟨_,rfl⟩;rw[s]at R p ⊢;rw[u]at Q p ⊢
  by_cases d:0<A.l
  .rw[if_pos d]at p;rw[p];simp[d];exact V0 d
  .rw[if_neg d]at p
   by_cases h1:B.l=x.l
   .rw[if_pos h1]at p;rw[p];simp[d,h1];exact V1 d h1
   .rw[if_neg h1]at p;rw[p];simp[d,h1];exact V1 d h1
