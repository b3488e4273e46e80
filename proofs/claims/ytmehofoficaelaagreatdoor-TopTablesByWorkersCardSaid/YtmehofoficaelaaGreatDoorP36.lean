/- 36 -/
import Derived.Test.YtmehofoficaelaaGreatDoorP35
set_option linter.all false
open List renaming map_cons→aE,mem_singleton→bf,range'→cc,map_append→cp,replicate→di,range→eh,getD_eq_getElem?_getD→ej,getElem?_eq_getElem→eB,map_nil→eK,range'_append_1→fa,Pairwise→fp,length_map→ga,length→List.l
open Nat renaming le_refl→dx
open Go.IntKind renaming u8→ek,u64→ez,i64→eL
open Bool renaming false→ep,true→er,and_eq_true→fx
open Option renaming some→fb
open Int renaming toNat→Int.n
namespace Go.Proofs.YtmehofoficaelaaGreatDoor
open Go Go.AL Classical
set_option maxRecDepth 10000
set_option maxHeartbeats 4000000
def aiH:Wf T 207 [.gV] [] (Is (dU (pad []))):=by
 obtain⟨B,c⟩:∃B,zO 0=B:=⟨_,rfl⟩;have A:B.l=8:=by rw[<-c];rfl
 have w:∀i:Int,0<=i->i<8->gt B i=ek.wrap (nV .u64 0 (56-8*i)):=λi i0 d=>by rw[<-c];exact Px _ i0 d
 obtain⟨p,h⟩:∃p,Ct 0=p:=⟨_,rfl⟩;have z:p=63-(0+8) % 64:=by rw[<-h];rfl
 have hP:pad []=128::zs p++B:=by rw[pad];show []++128::(di (Ct 0) 0++zO 0)=_;rw[c,h,xy];simp
 obtain⟨C,n⟩:∃C,128::zs p=C:=⟨_,rfl⟩;rw[hP,n];clear hP c h;have m:ez.wrap (0:Int)=0:=rfl;have j:ez.wrap (0)=8*0:=rfl;refine Yg Fs ?_;simp[Fs];refine gU ?_;refine gZ.e ((2,[128]):Nat×List Int) (λy=>[(0,.gV),(3,.gR 0 y.1 1 0 y.2.l)]) (λy=>[.row 5 y.1 (cl fU y.2),.row 5 0 [.val (.int .u8 128)]]) (λy=>∃k:Nat,k<=p/\y.2=128::zs k) (λy=>0+1+p-y.2.l) ?_ ?_
 .exact⟨0,U,gP⟩
 rintro⟨g,q⟩ ⟨k,k0,a⟩;dsimp only at k0 a ⊢;have D:q.l=0+1+k:=by rw[a];simp;omega
 have f:iu ((q.l:Int)+8) 64=((q.l:Int)+8) % 64:=kK U
 by_cases t:k<p
 .have h1:¬((q.l:Int)+8) % 64=0:=by omega
  have s:q ++ [0]=128::zs (k+1):=by rw[a,<-S1];simp
  simp[f,h1];refine jM f ?_;refine LJ.e (g+1,q ++ [0]) ?_;exact⟨iz,k+1,t,s⟩
 .have o:k=p:=by omega
  subst o;have h1:((q.l:Int)+8) % 64=0:=U;rw[n]at a;subst a;simp[f,h1,m,j];refine ko m j ?_;refine gZ.e ((0,g,q):Int×Nat×List Int) (λy=>[(3,.gR 0 y.2.1 1 0 y.2.2.l),(4,.val (.int .u64 0)),(5,.i y.1)]) (λy=>[.row 5 y.2.1 (cl fU y.2.2),.row 5 0 [.val (.int .u8 128)]]) (λy=>(0<=y.1/\y.1<=8)/\y.2.2=q++B.take y.1.n) (λy=>(8-y.1).n) ?_ ?_
  .simp
  rintro⟨i,v,u⟩ ⟨⟨i0,d⟩,b⟩;dsimp only at i0 d b ⊢;have x:u.l=q.l+i.n:=by rw[b];simp;omega
  by_cases hi:i<8
  .have e:=SO (l:=B) i0 U;rw[w i i0 hi]at e;simp[hi];refine gU ?_;refine LJ.e (i+1,v+1,u ++ [ek.wrap (nV .u64 0 (56-8*i))]) ?_;exact⟨U,jc,by rw[e,b,aO]⟩
  .have r:i=8:=by omega
   subst r;have e:u=q++B:=by rw[b,af U]
   subst e;simp;refine gU ?_;rw[zX,cp]
def aiu:Wf T 141 [.gV] [] (Is (.agg (cl fU (lI [])))):=by
 have o:=aiH;have p:=aaM;have x:=adW [];simp only[dp]at x;obtain⟨P,hP⟩:∃P,pad []=P:=⟨_,rfl⟩;obtain⟨S,hS⟩:∃S,DC=S:=⟨_,rfl⟩;have t:S.l=8:=by rw[<-hS];rfl
 obtain⟨r,m⟩:∃r,lI []=r:=⟨_,rfl⟩;have d:AN (sy P S (P.l / 64))=r:=by rw[<-m,lI,hP,hS]
 rw[hP]at o x;rw[hS]at p;rw[m];clear hP hS m;refine Yg Fo ?_;simp[Fo];refine Yc (o) ?_;simp;refine Yc (p) ?_;simp[t];refine gZ.e ((0,S):Int×List Int) (λy=>[(2,.ptr 0 0 0),(3,dU P),(4,.ptr 1 0 0),(5,.i y.1)]) (λy=>[.row 70 0 (cl fU (zs 32)),.row 323 0 (cl fW y.2)]) (λy=>∃n:Nat,y.1=64*n/\y.1<=P.l/\y.2=sy P S n) (λy=>(P.l+64-y.1).n) ?_ ?_
 .exact⟨0,gP,gP,by simp[Pz]⟩
 rintro⟨i,s⟩ ⟨n,iG,l,hs⟩;dsimp only at iG l hs ⊢;have a:s.l=8:=by rw[hs];exact FQ P t n
 by_cases hi:i<P.l
 .have f:s.take 8=s:=af U;have w:((P.drop i.n).take 64).l=64:=by rw[aM,aU];omega
  have e:=PA P S n;rw[<-hs,(U:64*n=i.n)]at e;have G:(i+64).n-i.n=64:=U;obtain⟨B,F⟩:∃B,(P.drop i.n).take 64=B:=⟨_,rfl⟩;rw[F]at w e;have c:=aaN s B a w;have z:=Pv (s:=s) (b:=B) a;obtain⟨A,I⟩:∃A,vM s B=A:=⟨_,rfl⟩;rw[I]at c e z;simp[hi,a,f];refine kf a f G ?_;rw[G,F];have v:s.drop 8 = []:=bF U;refine Yt (c) ?_;simp[z,a,f];refine gU ?_;refine LJ.i (i+64,A) (by first|rfl|simp[v]) (by first|rfl|simp[v]) rfl rfl ?_;exact⟨U,n+1,U,U,e.symm⟩
 .have k:n=P.l / 64:=by omega
  rw[<-k,<-hs]at d;have J:r.l=32:=by rw[<-d];exact Hv s
  have q:∀j:Int,0<=j->j<32->gt r j=ek.wrap (nV .u32 (gt s (j / 4)) (24-8*(j % 4))):=λj j0 j1=>by rw[<-d];exact R8 s j0 j1
  clear d hs o p;simp[hi];refine gU ?_;refine gZ.e ((0,zs 32):Int×List Int) (λy=>[(2,.ptr 0 0 0),(4,.ptr 1 0 0),(6,.ptr 2 0 0),(7,.i y.1)]) (λy=>[.row 70 0 (cl fU (zs 32)),.row 323 0 (cl fW s),.row 70 0 (cl fU y.2)]) (λy=>(0<=y.1/\y.1<=32)/\y.2.l=32/\∀j:Int,0<=j->j<y.1->gt y.2 j=gt r j) (λy=>(32-y.1).n) ?_ ?_
  .exact⟨gP,gP,λj j0 j1=>absurd j1 iv⟩
  rintro⟨i,u⟩ ⟨⟨i0,l⟩,g,C⟩;dsimp only at i0 l g C ⊢
  by_cases hi:i<32
  .have D:vF i 4=i / 4:=xq i0 U U;have E:iu i 4=i % 4:=kK i0;simp[hi,D,E];refine ko D E ?_;refine LJ.i (i+1,pt u i (gt r i)) (by first|rfl|simp[q i i0 hi]) (by first|rfl|simp[q i i0 hi]) rfl rfl ?_;refine⟨U,jc,by rw[jy i0 U];exact g,λj j0 j1=>?_⟩;dsimp only at j1 ⊢;rw[mY i0 U j0]
   by_cases e:j=i
   .grind
   .grind
  .have k:i=32:=by omega
   subst k
   have e:u=r:=by refine bH U λj j0 j1=>?_;have h:=C j U U;rw[jU U U,jU U U]at h;exact h
   subst e;have H:u.take 32=u:=af U;simp[g,H]
def aiy:Wf T 155 [.gV] [] (Is (.agg (cl fU (lI [])))):=by
 have Q:=aiL;obtain⟨B,t⟩:∃B,zO 0=B:=⟨_,rfl⟩;have QE:B.l=8:=by rw[<-t];rfl
 have R:∀i:Int,0<=i->i<8->gt B i=ek.wrap (nV .u64 0 (56-8*i)):=λi i0 n=>by rw[<-t];exact Px _ i0 n
 obtain⟨p,A⟩:∃p,Ct 0=p:=⟨_,rfl⟩;have W:p=63-(0+8) % 64:=by rw[<-A];rfl
 have hP:pad []=128::zs p++B:=by rw[pad];show []++128::(di (Ct 0) 0++zO 0)=_;rw[t,A,xy];simp
 obtain⟨C,D⟩:∃C,128::zs p=C:=⟨_,rfl⟩;rw[D]at hP;have V:C.l=0+1+p:=by rw[<-D];simp;omega
 obtain⟨r,z⟩:∃r,lI []=r:=⟨_,rfl⟩;obtain⟨S,hS⟩:∃S,DC=S:=⟨_,rfl⟩;have w:S.l=8:=by rw[<-hS];rfl
 have m:AN (sy (C++B) S ((C++B).l / 64))=r:=by rw[<-z,lI,hP,hS]
 rw[z];clear hP t A z;have H:S.take 8=S:=af U;have o:ez.wrap (0:Int)=0:=rfl;have d:ez.wrap (0)=8*0:=rfl;refine Yz A' (jY 36 [2] A'.body) ?_;simp[A',jY,lV,po,py,pY,nQ,Zl,hS];refine Yc (Q) ?_;simp;refine gU ?_;refine gZ.e ((0,[128]):Nat×List Int) (λy=>[(0,.gV),(2,.ptr 0 0 0),(3,.gR 2 y.1 1 0 y.2.l)]) (λy=>[.row 70 0 (cl fU (zs 32)),.row 5 0 [.val (.int .u8 128)],.row 5 y.1 (cl fU y.2)]) (λy=>∃k:Nat,k<=p/\y.2=128::zs k) (λy=>0+1+p-y.2.l) ?_ ?_
 .exact⟨0,U,gP⟩
 rintro⟨g,q⟩ ⟨k,k0,s⟩;dsimp only at k0 s ⊢;have Kr:q.l=0+1+k:=by rw[s];simp;omega
 have b:iu ((q.l:Int)+8) 64=((q.l:Int)+8) % 64:=kK U
 by_cases M:k<p
 .have h1:¬((q.l:Int)+8) % 64=0:=by omega
  have L:q ++ [0]=128::zs (k+1):=by rw[s,<-S1];simp
  simp[b,h1];refine jM b ?_;refine LJ.e (g+1,q ++ [0]) ?_;exact⟨iz,k+1,M,L⟩
 .have I:k=p:=by omega
  subst I;have h1:((q.l:Int)+8) % 64=0:=U;rw[D]at s;subst s;simp[b,h1,o,d];refine ko o d ?_;refine gZ.st lO ?_;refine gZ.e ((0,g,q):Int×Nat×List Int) (λy=>[(0,.gV),(2,.ptr 0 0 0),(3,.gR 2 y.2.1 1 0 y.2.2.l),(4,.i (56-8*y.1))]) (λy=>[.row 70 0 (cl fU (zs 32)),.row 5 0 [.val (.int .u8 128)],.row 5 y.2.1 (cl fU y.2.2)]) (λy=>(0<=y.1/\y.1<=8)/\y.2.2=q++B.take y.1.n) (λy=>(8-y.1).n) ?_ ?_
  .simp
  rintro⟨i,O,u⟩ ⟨⟨i0,n⟩,a⟩;dsimp only at i0 n a ⊢;have c:u.l=q.l+i.n:=by rw[a];simp;omega
  by_cases hi:i<8
  .have e:=SO (l:=B) i0 U;rw[R i i0 hi]at e;have J:0<=56-8*i:=U;simp[J,d,o];(with_reducible repeat' first|refine Xk ?_<;>try simp[d,o]|refine Xs ?_ ?_<;>intro h<;>(try intro Y)<;>(try simp[h,d,o])<;>try omega|refine Xg ?_|omega);refine LJ.i (i+1,O+1,u ++ [ek.wrap (nV .u64 0 (56-8*i))]) (by first|rfl|simp[(U:56-8*(i+1)=56-8*i-8)]) (by first|rfl|simp[(U:56-8*(i+1)=56-8*i-8)]) rfl rfl ?_;exact⟨U,jc,by rw[e,a,aO]⟩
  .have x:i=8:=by omega
   subst x;obtain⟨P,hP⟩:∃P,q++B=P:=⟨_,rfl⟩;have Z:P.l=q.l+8:=by rw[<-hP];simp;omega
   have e:u=P:=by rw[a,af U,hP]
   rw[hP]at m;clear c a hP;subst e;simp;refine gU ?_;refine ik.n (by simp[w,H];rfl) ?_;rw[<-zX];refine Yc (aaO u) ?_;simp;refine sT.r (f:=274) (first:=[]) (cap:=[.ie [dU u],.ie [.i 64]]) rfl rfl rfl rfl ?_;simp;refine Wf.mono (aaR u S U U w) ?_;rintro _ H' rfl;have K:=FQ u w (u.l / 64);obtain⟨v,F⟩:∃v,sy u S (u.l / 64)=v:=⟨_,rfl⟩;rw[F]at m K ⊢;clear F;have X:r.l=32:=by rw[<-m];exact Hv v
   have E:∀j:Int,0<=j->j<32->gt r j=ek.wrap (nV .u32 (gt v (j / 4)) (24-8*(j % 4))):=λj j0 j1=>by rw[<-m];exact R8 v j0 j1
   clear m;refine⟨[(5,.ptr 3 0 0)],.ready,gP,?_⟩;simp;refine gZ.st lO ?_;refine gZ.kg [4] ep ((0,zs 32):Int×List Int) (λy=>[(2,.ptr 0 0 0),(5,.ptr 3 0 0),(7,.ptr 5 0 0),(42,.i y.1)]) (λy=>[.row 70 0 (cl fU (zs 32)),.row 5 0 [.val (.int .u8 128)],.dead,.row 323 0 (cl fW v),.jJ,.row 70 0 (cl fU y.2)]) (λy=>(0<=y.1/\y.1<=32)/\y.2.l=32/\∀j:Int,0<=j->j<y.1->gt y.2 j=gt r j) (λy=>(32-y.1).n) ?_ gP (by first|rfl|(simp[jw];done)|(simp[*];done)) rfl rfl rfl ?_
   .exact⟨gP,gP,λj j0 j1=>absurd j1 iv⟩
   rintro⟨i,u⟩ ⟨⟨i0,n⟩,c,a⟩;dsimp only at i0 n c a ⊢
   by_cases hi:i<32
   .have b:vF i 4=i / 4:=xq i0 U U;have G:iu i 4=i % 4:=kK i0;simp[hi,b,G];refine ko b G ?_;refine LJ.i (i+1,pt u i (gt r i)) (by first|rfl|simp[E i i0 hi]) (by first|rfl|simp[E i i0 hi]) rfl rfl ?_;refine⟨U,jc,by rw[jy i0 U];exact c,λj j0 j1=>?_⟩;dsimp only at j1 ⊢;rw[mY i0 U j0]
    by_cases e:j=i
    .grind
    .grind
   .have x:i=32:=by omega
    subst x
    have e:u=r:=by refine bH U λj j0 j1=>?_;have h:=a j U U;rw[jU U U,jU U U]at h;exact h
    subst e;have N:u.take 32=u:=af U;simp[c,N]
def Si:lN []=lI []:=by rw[lN];exact aet 0
def aaH:Wf T 88 [rA []] [] (Is (.agg (cl fU (lI [])))):=by have c:=aiu;have hl:=tm [];obtain⟨r,b⟩:∃r,lI []=r:=⟨_,rfl⟩;rw[b]at c hl ⊢;have a:r.take 32=r:=af U;refine Yg A8 ?_;simp[A8];refine Yc (c) ?_;simp[hl,a]
def aaI:Wf T 97 [.gV] [] (Is (.agg (cl fU (lI [])))):=by have c:=aiy;have hl:=tm [];obtain⟨r,b⟩:∃r,lI []=r:=⟨_,rfl⟩;rw[b]at c hl ⊢;have a:r.take 32=r:=af U;refine Yg A9 ?_;simp[A9];refine Yc (c) ?_;simp[hl,a]
def dV(v:List gT)(d:D):Prop:=d=iS v\/(v = []/\d = .gV)
def ah3:Wf T 41 [iS []] [] (Is (.agg (cl fU (lN [])))):=by rw[Si];have c:=aaH;have hl:=tm [];obtain⟨r,b⟩:∃r,lI []=r:=⟨_,rfl⟩;rw[b]at c hl ⊢;have a:r.take 32=r:=af U;refine Yg A6 ?_;simp[A6];refine gZ.un ?_;refine kT.u ?_;simp;refine ik.r rfl rfl c (by simp[F3]) (by simp[flat]) gP ?_;simp[hl,a]
def ah2:Wf T 41 [.gV] [] (Is (.agg (cl fU (lN [])))):=by rw[Si];have c:=aaH;have hl:=tm [];obtain⟨r,b⟩:∃r,lI []=r:=⟨_,rfl⟩;rw[b]at c hl ⊢;have a:r.take 32=r:=af U;refine Yg A6 ?_;simp[A6];refine gZ.un ?_;refine kT.u ?_;simp;refine ik.r rfl rfl c (by simp[F3]) (by simp[flat]) gP ?_;simp[hl,a]
def ah7:Wf T 49 [iS []] [] (Is (.agg (cl fU (lN [])))):=by rw[Si];have c:=aaI;have hl:=tm [];obtain⟨r,b⟩:∃r,lI []=r:=⟨_,rfl⟩;rw[b]at c hl ⊢;have a:r.take 32=r:=af U;refine Yg A7 ?_;simp[A7];refine gZ.un ?_;refine kT.u ?_;simp;refine Yc (c) ?_;simp[hl,a]
def ah6:Wf T 49 [.gV] [] (Is (.agg (cl fU (lN [])))):=by rw[Si];have c:=aaI;have hl:=tm [];obtain⟨r,b⟩:∃r,lI []=r:=⟨_,rfl⟩;rw[b]at c hl ⊢;have a:r.take 32=r:=af U;refine Yg A7 ?_;simp[A7];refine gZ.un ?_;refine kT.u ?_;simp;refine Yc (c) ?_;simp[hl,a]
def ah4{v:List gT}{d:D}(a:dV v d)(b:v.l<=64):Wf T 41 [d] [] (Is (.agg (cl fU (lN v)))):=by
 rcases a with rfl|⟨rfl,rfl⟩
 .by_cases h:v = []
  .subst h;exact ah3
  .exact aaE v (ay.2 h) b
 .exact ah2
def Jx{v:List gT}{d:D}(a:dV v d)(b:v.l<=64):Wf T 49 [d] [] (Is (.agg (cl fU (lN v)))):=by
 rcases a with rfl|⟨rfl,rfl⟩
 .by_cases h:v = []
  .subst h;exact ah7
  .exact aaF v (ay.2 h) b
 .exact ah6
set_option maxHeartbeats 8000000
structure oF(g:gY)(m:List Int):Prop where
 len:m.l=g.kinds.l
 num:∀a∈m,1<=a/\a<=6
def tT(m:List Int)(x:Int):Int:=if 0<=iC x then gt m (iC x)else 0
def tg(m cs:List Int):Nat->Int
 | 0=>0
 | i+1=>tg m cs i+tT m (gt cs (i:Int))
def sq(m a b:List Int):Nat->Int
 | 0=>0
 | i+1=>sq m a b i+gt m (i:Int)*(gt a (i:Int)+gt b (i:Int))
def zx(r:Int):Int:=if r=0 then 0 else if r=3 then 2 else 1
def jn(m:List Int)(p:Pos):Int:=tg m p.cs p.cs.l+sq m p.h0 p.h1 m.l+zx p.iw
@[simp] theorem aBs(m cs:List Int):tg m cs 0=0:=rfl
@[simp] theorem aBt(m a b:List Int):sq m a b 0=0:=rfl
theorem alZ{m cs:List Int}{i:Int}(i0:0<=i):tg m cs (i+1).n=tg m cs i.n+tT m (gt cs i):=by have h:(i+1).n=i.n+1:=U;have a:((i.n:Nat):Int)=i:=U;rw[h,tg,a]
def al0{m a b:List Int}{i:Int}(i0:0<=i):sq m a b (i+1).n=sq m a b i.n+gt m i*(gt a i+gt b i):=by have h:(i+1).n=i.n+1:=U;have c:((i.n:Nat):Int)=i:=U;rw[h,sq,c]
section
variable{g:gY}{m:List Int}{p:Pos}
theorem ac6(b:g.kinds.l<=2){x:Int}(h:0<=x/\x<=2*g.kinds.l)(a:0<=iC x):iC x<g.kinds.l:=by
 unfold iC at *;split at a
 .rw[if_pos km];omega
 .omega
theorem ac2(hg:iE g)(a:oF g m)(c:ja g p){x:Int}(b:x∈p.cs):0<=tT m x/\tT m x<=6:=by
 unfold tT;split
 .rename_i h;have:=ac6 hg.kinds.2 (c.cs x b) h;have:=a.num _ (ij h (by rw[a.len];exact this));omega
 .omega
theorem RL(hg:iE g)(b:oF g m)(a:ja g p):∀i:Nat,i<=p.cs.l->0<=tg m p.cs i/\tg m p.cs i<=6*i
 | 0,_=>gP
 | i+1,h=>by have h1:=RL hg b a i U;have c:=ac2 hg b a (ij (l:=p.cs) (n:=(i:Int)) U U);rw[tg];omega
theorem aml{a b:Int}(h1:1<=a/\a<=6)(c:0<=b/\b<=16):0<=a*b/\a*b<=96:=by have e:=gJ (by omega:0<=a) c.1;have d:=Int.mul_le_mul h1.2 c.2 c.1 (by omega:(0:Int)<=6);omega
theorem ac3(b:oF g m)(a:ja g p){i:Int}(i0:0<=i)(c:i<m.l):(0<=gt p.h0 i+gt p.h1 i/\gt p.h0 i+gt p.h1 i<=16)/\0<=gt m i*(gt p.h0 i+gt p.h1 i)/\gt m i*(gt p.h0 i+gt p.h1 i)<=96:=by have f:=a.h0.len;have e:=a.h1.len;have d:=b.len;have k:=a.h0.at_ i i0 U;have j:=a.h1.at_ i i0 U;have h:0<=gt p.h0 i+gt p.h1 i/\gt p.h0 i+gt p.h1 i<=16:=U;exact⟨h,aml (b.num _ (ij i0 c)) h⟩
theorem RN(b:oF g m)(a:ja g p):∀i:Nat,i<=m.l->0<=sq m p.h0 p.h1 i/\sq m p.h0 p.h1 i<=96*i
 | 0,_=>gP
 | i+1,h=>by have h1:=RN b a i U;have c:=ac3 b a (i:=(i:Int)) U U;rw[sq];omega
theorem aej(hg:iE g)(b:ja g p):p.iw=0\/p.iw=1\/p.iw=2\/p.iw=3:=by have h1:=hg.iw;have a:=b.iw;rcases(U:g.iw=0\/g.iw=1\/g.iw=2)with e|e|e<;>rw[e]at a<;>simp at a<;>omega
theorem ar4(r:Int):0<=zx r/\zx r<=2:=by unfold zx;(repeat' split)<;>omega
theorem alG(hg:iE g)(b:oF g m)(a:ja g p):0<=jn m p/\jn m p<=1000:=by have h1:=RL hg b a p.cs.l (dx _);have i:=RN b a m.l (dx _);have h:=ar4 p.iw;have f:=a.size;have e:=hg.kC.size;have d:=hg.kinds;have c:=b.len;unfold jn;omega
theorem tz:bits BinOp.and eL 1 0=0:=jo
theorem tA:bits BinOp.and eL 2 1=0:=jo
theorem tB:bits BinOp.and eL 3 2=2:=jo
theorem f114(hg:iE g)(d:oF g m)(c:ja g p):Wf T 102 [.agg [dI m],dP p] [] (Is (.i (jn m p))):=by
 have o:=hg.kinds;have u:=c.size;have q:=hg.kC.size;have r:=d.len;have t:=c.h0.len;have s:=c.h1.len;refine Yg M4 ?_;simp[M4];refine gZ.e (0:Int) (λy=>[(2,.ptr 0 0 0),(3,.ptr 1 0 0),(5,.i (tg m p.cs y.n)),(14,dI p.cs),(15,.i p.cs.l),(16,.i y)]) (λy=>[.row 56 0 [dI m],.row 46 0 p.cells]) (λy=>0<=y/\y<=p.cs.l) (λy=>(p.cs.l-y).n) ?_ ?_
 .simp
 rintro i ⟨i0,k⟩;dsimp only at i0 k ⊢
 by_cases hi:i<p.cs.l
 .have hs:=alZ (m:=m) (cs:=p.cs) i0;have iG:=RL hg d c i.n U;have l:=ij i0 hi;have f:=ac2 hg d c l;have n:=ac6 o.2 (c.cs _ l);simp[hi];refine gU ?_;refine Yc (f84 _) ?_;simp;unfold tT at hs f;refine ma ?_ ?_<;>intro h
  .rw[if_pos km]at hs f;refine gU ?_;refine LJ.i (i+1) (by first|rfl|simp[hs]) (by first|rfl|simp[hs]) rfl rfl ?_;omega
  .rw[if_neg U]at hs;refine LJ.i (i+1) (by first|rfl|simp[hs]) (by first|rfl|simp[hs]) rfl rfl ?_;omega
 have j:i=p.cs.l:=U;subst j;simp;have x:=RL hg d c p.cs.l (dx _);unfold jn;generalize tg m p.cs p.cs.l=A at *;refine gZ.e (0:Int) (λy=>[(3,.ptr 1 0 0),(5,.i (A+sq m p.h0 p.h1 y.n)),(36,dI m),(37,.i m.l),(38,.i y)]) (λy=>[.row 56 0 [dI m],.row 46 0 p.cells]) (λy=>0<=y/\y<=m.l) (λy=>(m.l-y).n) ?_ ?_
 .simp
 rintro i ⟨i0,k⟩;dsimp only at i0 k ⊢
 by_cases hi:i<m.l
 .have hs:=al0 (m:=m) (a:=p.h0) (b:=p.h1) i0;have iG:=RN d c i.n U;have v:=ac3 d c i0 hi;simp[hi];refine gU ?_;refine LJ.i (i+1) (by first|rfl|simp[hs,Int.add_assoc]) (by first|rfl|simp[hs,Int.add_assoc]) rfl rfl ?_;omega
 have j:i=m.l:=U;subst j;simp;have w:=RN d c m.l (dx _);generalize sq m p.h0 p.h1 m.l=B at *;rcases aej hg c with e|e|e|e
 .refine gZ.un ?_;refine kT.u ?_;simp[e,tz,tA,tB];simp[zx,tz,tA,tB]
 .refine gZ.un ?_;refine kT.u ?_;simp[e,tz,tA,tB];refine kf tz tA tB ?_;refine kT.u ?_;simp[e,tz,tA,tB];simp[zx,tz,tA,tB]
 .refine gZ.un ?_;refine kT.u ?_;simp[e,tz,tA,tB];refine kf tz tA tB ?_;refine kT.u ?_;simp[e,tz,tA,tB];simp[zx,tz,tA,tB]
 .refine gZ.un ?_;refine kT.u ?_;simp[e,tz,tA,tB];refine kf tz tA tB ?_;refine kT.u ?_;simp[e,tz,tA,tB];refine kf tz tA tB ?_;refine kT.u ?_;simp[e,tz,tA,tB];simp[zx,tz,tA,tB,Int.add_assoc]
end
end Go.Proofs.YtmehofoficaelaaGreatDoor
namespace Go.AL
open Go
def kI:Nat->List (Int×List Int)->List (Value×D)
 | _,[]=>[]
 | k,e::r=>(.int .i64 e.1,.gR k (e.2.l-1) 1 0 e.2.l)::kI (k+1) r
def qm(ls:List (Int×List Int)):gQ:=ls.map λe=>.row 3 (e.2.l-1) (cl f1 e.2)
def LH(m:List Int)(ls:List (Int×List Int)):gQ:=.row 56 0 [dI m] :: .map (.int .i64) (kI 2 ls)::qm ls
def oo(ls:List (Int×List Int)):List (Value×D):=ls.map λe=>(.int .i64 e.1,dI e.2)
@[simp] theorem aDB(ls:List (Int×List Int)):(qm ls).l=ls.l:=by simp[qm]
@[simp] theorem IP(m:List Int)(ls:List (Int×List Int)):(LH m ls).l=ls.l+2:=by simp[LH]
theorem afB(m:List Int)(ls:List (Int×List Int)):(LH m ls)[0]? = fb (.row 56 0 [dI m]):=rfl
def afC(m:List Int)(ls:List (Int×List Int)):(LH m ls)[1]? = fb (.map (.int .i64) (kI 2 ls)):=rfl
def ahH(k:Nat)(a b:List (Int×List Int)):kI k (a++b)=kI k a++kI (k+a.l) b:=by
 induction a generalizing k with
 | nil=>rfl
 | cons e r c=>simp only[bz,kI,c,aF];rw[Nat.add_right_comm,bk k r.l 1]
def Ep(a b:Int):oz (.int .i64 a) (.int .i64 b)=decide (a=b):=by simp[oz,BEq.beq]
def ahJ{n:Int}{ls:List (Int×List Int)}(h:n ∉ ls.map (·.1))(k:Nat):oN (kI k ls) (.int .i64 n)=none:=by
 induction ls generalizing k with
 | nil=>rfl
 | cons e r a=>
  simp only[aE,ak,not_or]at h;have h1:¬e.1=n:=λx=>h.1 x.symm;simp only[kI,oN,Ep];simp[h1,a h.2,h.1]
def ahL{n:Int}{ls:List (Int×List Int)}(h:n ∉ ls.map (·.1))(k:Nat)(d:D):lF (kI k ls) (.int .i64 n) d=kI k ls ++ [(.int .i64 n,d)]:=by
 induction ls generalizing k with
 | nil=>rfl
 | cons e r a=>
  simp only[aE,ak,not_or]at h;have h1:¬e.1=n:=λx=>h.1 x.symm;simp only[kI,lF,Ep];simp[h1,a h.2,h.1]
def ahI{n:Int}{a:List (Int×List Int)}(h:n ∉ a.map (·.1))(k:Nat)(x:List Int)(b:List (Int×List Int)):oN (kI k (a++(n,x)::b)) (.int .i64 n)=fb (.gR (k+a.l) (x.l-1) 1 0 x.l):=by
 induction a generalizing k with
 | nil=>simp[kI,oN,Ep]
 | cons e r c=>
  simp only[aE,ak,not_or]at h;have h1:¬e.1=n:=λx=>h.1 x.symm;simp only[bz,kI,oN,Ep];simp[h1,h.1,c h.2];omega
def ahK{n:Int}{a:List (Int×List Int)}(h:n ∉ a.map (·.1))(k:Nat)(x y:List Int)(b:List (Int×List Int)):lF (kI k (a++(n,x)::b)) (.int .i64 n) (.gR (k+a.l) (y.l-1) 1 0 y.l)=kI k (a++(n,y)::b):=by
 induction a generalizing k with
 | nil=>simp[kI,lF,Ep]
 | cons e r c=>
  simp only[aE,ak,not_or]at h;have h1:¬e.1=n:=λx=>h.1 x.symm;simp only[bz,kI,lF,Ep];rw[show k+(e::r).l=k+1+r.l by simp only[aF];omega];simp[h1,h.1,c h.2]
def YU(m:List Int)(a:List (Int×List Int))(e:Int×List Int)(b:List (Int×List Int))(G:gQ):(LH m (a++e::b)++G)[2+a.l]? = fb (.row 3 (e.2.l-1) (cl f1 e.2)):=by rw[ah iz,dj];simp[LH,qm]
def afG(m:List Int)(a:List (Int×List Int))(n:Int)(x y:List Int)(b:List (Int×List Int))(G:gQ) :
  ((LH m (a++(n,x)::b)++G).set (2+a.l) (.row 3 (y.l-1) (cl f1 y))).set 1 (.map (.int .i64) (kI 2 (a++(n,y)::b)))=LH m (a++(n,y)::b)++G:=by
 rw[aP _ _ iz,aP _ _ gP];congr 1;rw[dj];simp[LH,qm]
def afF(m:List Int)(ls:List (Int×List Int))(es:List (Value×D))(G:gQ):(LH m ls++G).set 1 (.map (.int .i64) es) = .row 56 0 [dI m] :: .map (.int .i64) es::(qm ls++G):=rfl
theorem aav(n:Nat):∀(ls:List (Int×List Int)) (k:Nat),((kI k ls).map λx=>jQ n x.2).flatten=(cc k ls.l).filter (n<=·)
 | [],_=>rfl
 | e::r,k=>by
  have:=aav n r (k+1);simp only[kI,aE,bg,this,aF,cE,Xz]
  by_cases h:n<=k<;>simp[h]
def ase(n k:Nat):∀(l:Nat),k<=n->n<=k+l->(cc k l).filter (n<=·)=cc n (k+l-n):=by
 intro l h1 b
 have e:cc k l=cc k (n-k)++cc n (k+l-n):=by have:=fa (s:=k) (m:=n-k) (n:=k+l-n);rw[(U:k+(n-k)=n),(U:n-k+(k+l-n)=l)]at this;exact this.symm
 rw[e,bY,eT.2 λx a=>?_,dO.2 λx a=>?_,aS]
 .have:=dw.1 a;simpa using this.1
 .have:=dw.1 a;simp;omega
theorem Z':∀ {l:List Nat},l.Nodup->dedup l=l
 | [],_=>rfl
 | a::r,h=>by obtain⟨h1,b⟩:=bT.1 h;rw[dedup,if_neg h1,Z' b]
def aed(K:List Nat)(v:Nat):iP (K.map λv=>(v,er)) v=K.findIdx? (· == v):=by unfold iP;rw[List.findIdx?_map];rfl
def acg(N v:Nat)(E:List Nat):(eh N++E).findIdx? (· == v)=if v<N then fb v else(E.findIdx? (· == v)).map (· + N):=by
 by_cases h:v<N
 .rw[if_pos h,fm,show(eh N).findIdx? (· == v)=fb v from ?_]
  .rfl
  .rw[cG];exact⟨by simpa using h,gP,λj b=>iz⟩
 .rw[if_neg h,fm,show(eh N).findIdx? (· == v)=none from ?_]
  .simp
  .rw[cM];intro x a;have:=aZ.1 a;simp;omega
def Sz{ρ:Nat->Option Nat}{H:gQ}{v g sz off len v':Nat}(h:ρ v=fb v'):ib ρ H 40 (.gR v g sz off len) = .gR v' g sz off len:=by rw[AL.EZ,h,aeG]
theorem aeJ{ρ:Nat->Option Nat}{H:gQ}:∀(ls:List (Int×List Int)) (k:Nat),(∀v,v<k+ls.l->ρ v=fb v)->((kI k ls).map λx=>(x.1,ib ρ H 40 x.2))=kI k ls
 | [],_,_=>rfl
 | e::r,k,h=>by simp only[aF]at h;rw[kI,aE,aeJ r (k+1) (λv a=>h v U)];dsimp only;rw[Sz (h k U)]
def atb{ρ:Nat->Option Nat}{H:gQ}(ls:List (Int×List Int)):(qm ls).map (lG ρ H)=qm ls:=by unfold qm;rw[bC];refine au λe _=>?_;simp[lG,L0 (uR _)]
def as5{H:gQ}{ks:nX}(N:Nat)(E:List Nat)(b:ks=(eh N++E).map λv=>(v,er))(hN:N<=H.l)(c:∀v∈E,v<H.l) :
  pJ ks H=(H.take N).map (lG (iP ks) H)++E.map λv=>lG (iP ks) H (H.getD v .dead):=by
 unfold pJ;generalize iP ks=ρ;subst b;rw[bC,cp];congr 1
 .refine bH iz λi h1 d=>?_;simp at h1;simp[eB (U:i<H.l)]
 .refine au λv a=>?_;have:=c v a;simp[eB this]
def ph(n:Nat)(env:Env):Prop:=∀p∈env,jQ n p.2 = []/\∀ρ:Nat->Option Nat,∀H,(∀v,v<n->ρ v=fb v)->ib ρ H 40 p.2=p.2
def rQ{n k:Nat}{d:D}{env:Env}(b:closed d=er)(h:ph n env):ph n ((k,d)::env):=λp a=>by
 rcases ak.1 a with rfl|a
 .exact⟨SP n b,λρ H _=>qn b⟩
 .exact h p a
def WM{n k v g o:Nat}{env:Env}(b:v<n)(h:ph n env):ph n ((k,.ptr v g o)::env):=λp a=>by
 rcases ak.1 a with rfl|a
 .exact⟨iz,λρ H e=>by simp[e v b]⟩
 .exact h p a
def aq6{n k v:Nat}{env:Env}(b:v<n)(h:ph n env):ph n ((k,.im v)::env):=λp a=>by
 rcases ak.1 a with rfl|a
 .exact⟨iz,λρ H e=>by simp[e v b]⟩
 .exact h p a
def EI{n:Nat}:ph n []:=λp a=>by cases a
def asm(n:Nat)(ls:List (Int×List Int)):((qm ls).map (pg n)).flatten = []:=by
 unfold qm;rw[bC]
 induction ls with
 | nil=>rfl
 | cons e r a=>simp
def YX{n:Nat}{live:List Nat}{env:Env}{m:List Int}{ls:List (Int×List Int)}{e2:List (Value×D)}{G:gQ}{E:List Nat}{r:Bool}(I:vD live=ep)(R:2<=n)(P:n<=ls.l+2)(Q:0<G.l\/n<ls.l+2)
  (t:ph n (forget live env)) (F:E.Nodup) (h:∀v∈E,ls.l+2<=v/\v<ls.l+2+G.l) (z:(e2.map λx=>jQ n x.2).flatten=E) :
  cut n live { env:=env,H:=.row 56 0 [dI m] :: .map (.int .i64) (kI 2 ls++e2)::(qm ls++G),marks:=[],iI:=r } =
   { env:=forget live env,H:=.row 56 0 [dI m] :: .map (.int .i64) (kI 2 ls++e2.map λx=>(x.1,ib (iP ((eh (ls.l+2)++E).map λv=>(v,er))) (.row 56 0 [dI m] :: .map (.int .i64) (kI 2 ls++e2)::(qm ls++G)) 40 x.2))::(qm ls++E.map λv=>lG (iP ((eh (ls.l+2)++E).map λv=>(v,er))) (.row 56 0 [dI m] :: .map (.int .i64) (kI 2 ls++e2)::(qm ls++G)) (G.getD (v-(ls.l+2)) .dead)),marks:=[],iI:=r }:=by
 generalize i:(Ob.row 56 0 [dI m] :: .map (.int .i64) (kI 2 ls++e2)::(qm ls++G):gQ)=H;have hl:H.l=ls.l+2+G.l:=by rw[<-i];simp;omega
 have d:((forget live env).map λp=>jQ n p.2).flatten = []:=by rw[gw];intro x y;obtain⟨p,j,rfl⟩:=aj.1 y;exact(t p j).1
 have o:((H.take n).map (pg n)).flatten=cc n (ls.l+2-n)++E:=by
  obtain⟨f,rfl⟩:∃f,n=f+2:=⟨n-2,U⟩;rw[<-i,dy,dy];rw[aV iz]
  have l:(((qm ls).take f).map (pg (f+2))).flatten = []:=by
   have:(qm ls).take f=qm (ls.take f):=by unfold qm;rw[List.map_take]
   rw[this];exact asm _ _
  simp only[aE,bg,l,adB,amv,cp,eo,z,aav];rw[ase _ _ _ U U];simp[atV];omega
 have C:dedup ((([]:List Nat)++(cc n (ls.l+2-n)++E)++([]:List Nat).filter (n<=·)).filter (· < H.l))=cc n (ls.l+2-n)++E:=by
  rw[dD,az,aS,dO.2 λv c=>?_]
  .refine Z' (a8.2 ⟨List.nodup_range',F,λa B b A e=>?_⟩);have K:=dw.1 B;have J:=h b A;omega
  .rcases ai.1 c with c|c
   .have K:=dw.1 c;simp;omega
   .have J:=h v c;simp;omega
 have w:jx n (cc n (ls.l+2-n)++E)=(eh (ls.l+2)++E).map λv=>(v,er):=by unfold jx;rw[<-cp,<-aO];congr 2;rw[cy,cy];have:=fa (s:=0) (m:=n) (n:=ls.l+2-n);rw[aR,(U:n+(ls.l+2-n)=ls.l+2)]at this;exact this
 unfold cut;dsimp only;rw[if_neg (by rw[I];simp;omega),d,o,C,w];generalize q:((eh (ls.l+2)++E).map λv=>(v,er):nX)=ks;have u:∀v,v<ls.l+2->iP ks v=fb v:=λv c=>by rw[<-q,aed,acg,if_pos c]
 have l:((forget live env).map λp=>(p.1,ib (iP ks) H 40 p.2))=forget live env:=by
  conv=>rhs;rw[<-bn (forget live env)]
  refine au λp j=>?_;rw[(t p j).2 (iP ks) H λv c=>u v U];rfl
 have k:pJ ks H=(H.take (ls.l+2)).map (lG (iP ks) H)++E.map λv=>lG (iP ks) H (H.getD v .dead):=as5 _ E q.symm U λv c=>by have:=h v c;omega
 have O:H.take (ls.l+2) = .row 56 0 [dI m] :: .map (.int .i64) (kI 2 ls++e2)::qm ls:=by rw[<-i,dy,dy,aV gP,af gP]
 have N:∀v∈E,H.getD v .dead=G.getD (v-(ls.l+2)) .dead:=λv c=>by have:=h v c;obtain⟨v',rfl⟩:∃v',v=v'+ls.l+2:=⟨v-(ls.l+2),U⟩;rw[<-i,ej,ej,cH,cH,ao gP];simp
 rw[l,k,O,au (g:=λv=>lG (iP ks) H (G.getD (v-(ls.l+2)) .dead)) (λv c=>by rw[N v c])]
 have M:lG (iP ks) H (.row 56 0 [dI m]) = .row 56 0 [dI m]:=by have:ib (iP ks) H 40 (dI m)=dI m:=qn (PR m);simp only[lG,aE,eK,this]
 have L:lG (iP ks) H (.map (.int .i64) (kI 2 ls++e2)) = .map (.int .i64) (kI 2 ls++e2.map λx=>(x.1,ib (iP ks) H 40 x.2)):=by simp only[lG,cp];rw[aeJ ls 2 λv c=>u v U]
 simp only[aE,M,L,atb,bz,eK]
def YV{n:Nat}{live:List Nat}{env:Env}{m:List Int}{ls:List (Int×List Int)}{G:gQ}{r:Bool}(e:vD live=ep)(f:2<=n)(b:n<=ls.l+2)(c:ph n (forget live env)) :
  cut n live { env:=env,H:=LH m ls++G,marks:=[],iI:=r } = { env:=forget live env,H:=LH m ls,marks:=[],iI:=r }:=by
 by_cases h:0<G.l\/n<ls.l+2
 .have:=YX (m:=m) (ls:=ls) (e2:=[]) (G:=G) (E:=[]) (r:=r) e f b h c gF gP rfl;simpa[LH]using this
 .have d:G = []:=by
   cases G with
   | nil=>rfl
   | cons a l=>exact absurd (.inl gP) h
  subst d;rw[az];exact Jq iz
def afD{n:Nat}{live:List Nat}{env:Env}{m:List Int}{ls:List (Int×List Int)}{b a:Ob}{k i:Int}{r:Bool}(f:vD live=ep)(g:2<=n)(d:n<=ls.l+2)(e:ph n (forget live env)) :
  cut n live { env:=env,H:=(LH m ls ++ [b,a,.row 3 0 [.i i]]).set 1 (.map (.int .i64) (kI 2 ls ++ [(.int .i64 k,.gR (ls.l+4) 0 1 0 1)])),marks:=[],iI:=r } = { env:=forget live env,H:=LH m (ls ++ [(k,[i])]),marks:=[],iI:=r }:=by
 have:=YX (m:=m) (ls:=ls) (e2:=[(.int .i64 k,.gR (ls.l+4) 0 1 0 1)]) (G:=[b,a,.row 3 0 [.i i]]) (E:=[ls.l+4]) (r:=r) f g d (.inl gP) e gP gP iz;rw[afF,this]
 have c:iP ((eh (ls.l+2) ++ [ls.l+4]).map λv=>(v,er)) (ls.l+4)=fb (ls.l+2):=by rw[aed,acg,if_neg U];simp[fG]
 generalize iP ((eh (ls.l+2) ++ [ls.l+4]).map λv=>(v,er))=ρ at c ⊢;congr 1;simp only[LH,ahH,kI,qm,cp,aE,eK];rw[Sz c];rw[(U:ls.l+4-(ls.l+2)=2)];simp[lG,jw,dj]
def ajy(H:gQ)(k:Nat)(b:H.l=k+2):nv H (cc 2 k)=(0,er)::(1,er)::(cc 2 k).map λv=>(v,ep):=by
 unfold nv;rw[b,cy,cE,cE];simp only[aE];congr 1
 .simp[dw]
 congr 1
 .simp[dw]
 .refine au λv a=>?_;have:List.contains (cc 2 k) v=true:=by rw[dq];simpa using a
  simp only[aR]at *;rw[this];rfl
def afE(m:List Int)(ls:List (Int×List Int))(l:List Pos)(a b:Int)(u:∀e∈ls,0<e.2.l) :
  mC (cc 2 ls.l) { env:=[(2,.ptr 0 0 0),(5,.im 1),(13,iZ l),(14,.i a),(15,.i b)],H:=LH m ls } = { env:=[(2,.ptr 0 0 0),(5,.im 1),(13,iZ l),(14,.i a),(15,.i b)],H:=[.row 56 0 [dI m],.map (.int .i64) (oo ls)]++di ls.l .dead }:=by
 have k:=ajy (LH m ls) ls.l gP;unfold mC;dsimp only;rw[k];generalize d:iP ((0,er)::(1,er)::(cc 2 ls.l).map λv=>(v,ep))=ρ;have h0:ρ 0=fb 0:=by rw[<-d];rfl
 have h1:ρ 1=fb 1:=by rw[<-d];rfl
 have j:∀v,2<=v->ρ v=none:=λv t=>by
  rw[<-d];unfold iP;rw[cM];intro x c;rcases ak.1 c with rfl|c
  .simp;omega
  rcases ak.1 c with rfl|c
  .simp;omega
  obtain⟨w,_,rfl⟩:=aj.1 c;rfl
 have key:∀(b a:List (Int×List Int)),ls=a++b->((kI (2+a.l) b).map λx=>(x.1,ib ρ (LH m ls) 40 x.2))=oo b:=by
  intro b
  induction b with
  | nil=>intros;rfl
  | cons e r n=>
   intro a g;have h:=n (a ++ [e]) (by simp[g]);rw[aq,aT,<-bk]at h
   have p:(LH m ls)[2+a.l]? = fb (.row 3 (e.2.l-1) (cl f1 e.2)):=by have:=YU m a e r [];rw[az]at this;rw[g];exact this
   have o:ib ρ (LH m ls) 40 (.gR (2+a.l) (e.2.l-1) 1 0 e.2.l)=dI e.2:=by
    have:ib ρ (LH m ls) 40 (.gR (2+a.l) (e.2.l-1) 1 0 e.2.l)=oq ρ (LH m ls) 39 1 0 e.2.l (fb (3,cl f1 e.2)):=by rw[AL.EZ,j _ U,LX,aeu,p,asO,if_pos rfl]
    rw[this,uX rfl,ate]
   rw[kI,aE,h];dsimp only;rw[o];rfl
 have f:=key ls [] rfl;rw[dp,cu]at f;congr 1
 .simp[h0,h1]
 .have s:lG ρ (LH m ls) (.row 56 0 [dI m]) = .row 56 0 [dI m]:=by have:ib ρ (LH m ls) 40 (dI m)=dI m:=qn (PR m);simp only[lG,aE,eK,this]
  have q:lG ρ (LH m ls) (.map (.int .i64) (kI 2 ls)) = .map (.int .i64) (oo ls):=by simp only[lG,f]
  unfold pJ;rw[d,aE,aE,bC];dsimp only;rw[if_pos rfl,if_pos rfl,afB,afC];dsimp only;rw[s,q];simp only[bz,aS,cN,true_and];refine bH gP λi h1 j=>?_;simp
end Go.AL
namespace Go.Proofs.YtmehofoficaelaaGreatDoor
open Go Go.AL Classical
def Cj(n:Int):List Int->List Int
 | []=>[n]
 | a::r=>if n<a then n::a::r else if n=a then a::r else a::Cj n r
def E6:List Int->List Int
 | []=>[]
 | a::r=>Cj a (E6 r)
def vL(l:List Int):Prop:=l.Pairwise λa b=>a<b
theorem WA{n x:Int}:∀ {l:List Int},x∈Cj n l↔x=n\/x∈l
 | []=>by simp[Cj]
 | a::r=>by
  unfold Cj;split
  .simp
  .split
   .rename_i h;subst h;simp
   .simp only[ak,WA (l:=r)];constructor
    .rintro(h|h|h)<;>simp[h]
    .rintro(h|h|h)<;>simp[h]
theorem aeS{n:Int}:∀ {l:List Int},vL l->vL (Cj n l)
 | [],_=>by simp[Cj,vL]
 | a::r,h=>by
  obtain⟨h1,d⟩:=aI.1 h;unfold Cj;split
  .rename_i c;refine aI.2 ⟨λx b=>?_,h⟩;rcases ak.1 b with rfl|b
   .exact c
   .have:=h1 x b;omega
  .split
   .exact h
   .refine aI.2 ⟨λx b=>?_,aeS d⟩;rcases WA.1 b with rfl|b
    .omega
    .exact h1 x b
theorem Hh{x:Int}:∀ {l:List Int},x∈E6 l↔x∈l
 | []=>by simp[E6]
 | a::r=>by rw[E6,WA,Hh (l:=r),ak]
theorem E7:∀(l:List Int),vL (E6 l)
 | []=>fp.nil
 | a::r=>aeS (E7 r)
def vL.nd{l:List Int}(h:vL l):l.Nodup:=fp.imp (λh=>U) h
theorem VX:∀ {l d:List Int},vL l->vL d->(∀x,x∈l↔x∈d)->l=d
 | [],[],_,_,_=>rfl
 | [],b::r,_,_,h=>absurd ((h b).2 gP) gP
 | a::r,[],_,_,h=>absurd ((h a).1 gP) gP
 | a::r,b::t,h1,h2,h=>by
  obtain⟨g,i⟩:=aI.1 h1;obtain⟨f,b2⟩:=aI.1 h2
  have e:a=b:=by
   rcases ak.1 ((h a).1 gP)with e|e
   .exact e
   .rcases ak.1 ((h b).2 gP)with e2|e2
    .exact e2.symm
    .have:=f _ e;have:=g _ e2;omega
  subst e;rw[VX i b2 λx=>?_];have:=h x;simp only[ak]at this;constructor
  .intro c;rcases this.1 (.inr c)with e|e
   .have:=g x c;omega
   .exact e
  .intro c;rcases this.2 (.inr c)with e|e
   .have:=f x c;omega
   .exact e
def amc{l:List Int}(h:l.Nodup):l.mergeSort (λx y=>decide (x<=y))=E6 l:=by
 have d:=fu l (λx y=>decide (x<=y));refine VX ?_ (E7 l) λx=>by rw[Hh];exact d.mem_iff
 have h1:(l.mergeSort (λx y=>decide (x<=y))).Pairwise λa b=>decide (a<=b)=true:=eN (λa b c h1 e=>by simp at *;omega) (λa b=>iz) l;have e:(l.mergeSort (λx y=>decide (x<=y))).Nodup:=d.nodup_iff.2 h;exact(h1.and e).imp λ{a b} ⟨x,y⟩=>by have:=of_decide_eq_true x;omega
noncomputable def BA(m:List Int)(l:List Pos)(n:Int)(k:Nat):List Int:=(upto k).filter λi=>decide (jn m (gt l i)=n)
noncomputable def oW(m:List Int)(l:List Pos)(n:Int):List Int:=BA m l n l.l
noncomputable def pH(m:List Int)(l:List Pos):List Int:=E6 (l.map (jn m))
noncomputable def pR(m:List Int)(l:List Pos):List (List Int):=(pH m l).map (oW m l)
def RP{m:List Int}{l:List Pos}{n:Int}{k:Nat}{i:Int}:i∈BA m l n k↔(0<=i/\i<k)/\jn m (gt l i)=n:=by unfold BA;rw[aH,l8];simp
def Ez{m:List Int}{l:List Pos}{n:Int}{i:Int}:i∈oW m l n↔(0<=i/\i<l.l)/\jn m (gt l i)=n:=RP
def aa3{m:List Int}{l:List Pos}{n:Int}{i:Int}(i0:0<=i):BA m l n (i+1).n=BA m l n i.n++if jn m (gt l i)=n then [i]else []:=by
 unfold BA;rw[yz i0,bY];congr 1
 by_cases h:jn m (gt l i)=n<;>simp[h]
def ae8(n:Nat):vL (upto n):=by unfold upto vL;rw[eO];exact List.pairwise_lt_range.imp λh=>U
def ajp(m:List Int)(l:List Pos)(n:Int):vL (oW m l n):=fp.filter _ (ae8 _)
def aa4(m:List Int)(l:List Pos)(n:Int):(oW m l n).Nodup:=(ajp m l n).nd
def ajn(m:List Int)(l:List Pos)(n:Int):(oW m l n).l<=l.l:=yl _ _ (aa4 m l n) λy a=>(Ez.1 a).1
def ajo{m:List Int}{l:List Pos}{n:Int}(h:n∈pH m l):0<(oW m l n).l:=by unfold pH at h;rw[Hh]at h;obtain⟨p,b,e⟩:=aj.1 h;obtain⟨i,i0,a,rfl⟩:=th.1 b;exact dz (Ez.2 ⟨⟨i0,a⟩,e⟩)
def al2(m:List Int)(l:List Pos):(pH m l).Nodup:=(E7 _).nd
def RQ{m:List Int}{l:List Pos}{n:Int}:n∈pH m l↔∃i:Int,0<=i/\i<l.l/\jn m (gt l i)=n:=by
 unfold pH;rw[Hh,aj];constructor
 .rintro⟨p,b,e⟩;obtain⟨i,i0,a,rfl⟩:=th.1 b;exact⟨i,i0,a,e⟩
 .rintro⟨i,i0,a,e⟩;exact⟨_,ij i0 a,e⟩
def al1(m:List Int)(l:List Pos):(pH m l).l<=l.l:=by have:=wL (al2 m l) (m:=l.map (jn m)) λx a=>Hh.1 a;simpa using this
def ahb(m:List Int)(l:List Pos):(pR m l).l<=l.l:=by unfold pR;rw[ga];exact al1 m l
def Z3{m:List Int}{l:List Pos}{p:List Int}(h:p∈pR m l):p.Nodup/\p.l<=l.l/\0<p.l/\∀i∈p,0<=i/\i<l.l:=by obtain⟨n,a,rfl⟩:=aj.1 h;exact⟨aa4 m l n,ajn m l n,ajo a,λi hi=>(Ez.1 hi).1⟩
structure GI(m:List Int)(l:List Pos)(i:Int)(ls:List (Int×List Int)):Prop where
 nd:(ls.map (·.1)).Nodup
 mem:∀n,n∈ls.map (·.1)↔∃j:Int,0<=j/\j<i/\jn m (gt l j)=n
 prt:∀e∈ls,e.2=BA m l e.1 i.n
def GI.nil(m:List Int)(l:List Pos):GI m l 0 []:=⟨gP,λn=>iz,gP⟩
section
variable{m:List Int}{l:List Pos}{i:Int}{ls:List (Int×List Int)}
theorem GI.pos(h:GI m l i ls):∀e∈ls,0<e.2.l:=λe a=>by obtain⟨j,j0,j1,b⟩:=(h.mem e.1).1 (aj.2 ⟨e,a,rfl⟩);rw[h.prt e a];exact dz (RP.2 ⟨⟨j0,U⟩,b⟩)
theorem GI.ar2(h:GI m l i ls):∀e∈ls,e.2.l<=i.n:=λe b=>by rw[h.prt e b];exact yl _ _ ((ae8 _).nd.filter _) λy a=>(RP.1 a).1
theorem GI.len(h:GI m l i ls):ls.l<=i.n:=by
 have:=wL h.nd (m:=(upto i.n).map λj=>jn m (gt l j)) λx a=>by obtain⟨j,j0,j1,e⟩:=(h.mem x).1 a;exact aj.2 ⟨j,l8.2 ⟨j0,U⟩,e⟩
 simpa[upto]using this
theorem GI.old(h:GI m l i ls)(i0:0<=i)(o:jn m (gt l i)∈ls.map (·.1)):∃a x b,ls=a++(jn m (gt l i),x)::b/\jn m (gt l i) ∉ a.map (·.1)/\GI m l (i+1) (a++(jn m (gt l i),x ++ [i])::b):=by
 obtain⟨e,k,q⟩:=aj.1 o;obtain⟨a,b,rfl⟩:=fF k;obtain⟨n,x⟩:=e;dsimp only at q;subst q;have g:=h.nd;rw[cp,aE,a8]at g;have p:jn m (gt l i) ∉ a.map (·.1):=λd=>g.2.2 _ d _ (eE ..) rfl;have u:jn m (gt l i) ∉ b.map (·.1):=(bT.1 g.2.1).1;refine⟨a,x,b,rfl,p,?_,λn=>?_,λe k=>?_⟩
 .have:=h.nd;simpa using this
 .have:=h.mem n;have e2:(a++(jn m (gt l i),x ++ [i])::b).map (·.1)=(a++(jn m (gt l i),x)::b).map (·.1):=gP;rw[e2,this];constructor
  .rintro⟨j,j0,j1,e⟩;exact⟨j,j0,U,e⟩
  .rintro⟨j,j0,j1,e⟩
   by_cases t:j<i
   .exact⟨j,j0,t,e⟩
   .have:j=i:=by omega
    subst this;rw[<-e];exact(h.mem _).1 o
 .rw[aa3 i0]
  have s:∀f∈a++b,f∈a++(jn m (gt l i),x)::b/\jn m (gt l i)≠f.1:=λf c=>by
   rcases ai.1 c with c|c
   .exact⟨by simp[c],λd=>p (aj.2 ⟨f,c,d.symm⟩)⟩
   .exact⟨by simp[c],λd=>u (aj.2 ⟨f,c,d.symm⟩)⟩
  have r:e∈a++b\/e=(jn m (gt l i),x ++ [i]):=by
   rcases ai.1 k with c|c
   .exact .inl (by simp[c])
   .rcases ak.1 c with c|c
    .exact .inr c
    .exact .inl (by simp[c])
  rcases r with c|rfl
  .obtain⟨h1,v⟩:=s e c;rw[if_neg v,az];exact h.prt e h1
  .rw[if_pos rfl];have:=h.prt (jn m (gt l i),x) gP;dsimp only at this ⊢;rw[<-this]
theorem GI.new(h:GI m l i ls)(i0:0<=i)(d:jn m (gt l i) ∉ ls.map (·.1)):GI m l (i+1) (ls ++ [(jn m (gt l i),[i])]):=by
 refine⟨?_,λn=>?_,λe c=>?_⟩
 .rw[cp,a8];exact⟨h.nd,gP,λa o b g e=>d (by simp at g;rw[<-g,<-e];exact o)⟩
 .rw[cp,ai,h.mem n];constructor
  .rintro(⟨j,j0,j1,e⟩|h1)
   .exact⟨j,j0,U,e⟩
   .exact⟨i,i0,U,by simp at h1;exact h1.symm⟩
  .rintro⟨j,j0,j1,e⟩
   by_cases f:j<i
   .exact .inl ⟨j,j0,f,e⟩
   .have:j=i:=by omega
    subst this;exact .inr (by simp[e])
 .rw[aa3 i0];rcases ai.1 c with c|c
  .rw[if_neg λk=>d (aj.2 ⟨e,c,k.symm⟩),az];exact h.prt e c
  .rw[bf.1 c,if_pos rfl]
   have:BA m l (jn m (gt l i)) i.n = []:=a7.2 λj f=>by obtain⟨h1,p⟩:=RP.1 f;exact d ((h.mem _).2 ⟨j,h1.1,U,p⟩)
   rw[this];rfl
theorem GI.keys(h:GI m l l.l ls)(n:Int):n∈ls.map (·.1)↔n∈pH m l:=by rw[h.mem,RQ]
theorem GI.AY(h:GI m l l.l ls){ks:List Int}(a:ks.Nodup)(b:∀n,n∈ks↔n∈ls.map (·.1)):ks.mergeSort (λx y=>decide (x<=y))=pH m l:=by rw[amc a];exact VX (E7 _) (E7 _) λx=>by rw[Hh,b,h.keys]
theorem aaA:∀ {ls:List (Int×List Int)},(ls.map (·.1)).Nodup->∀e∈ls,oN (oo ls) (.int .i64 e.1)=fb (dI e.2)
 | [],_,e,he=>by cases he
 | a::r,h,e,he=>by
  rw[aE,bT]at h;unfold oo;simp only[aE,oN,Ep];rcases ak.1 he with rfl|he
  .simp
  .have c:¬e.1=a.1:=λb=>h.1 (b▸aj.2 ⟨e,he,rfl⟩);have d:¬a.1=e.1:=λb=>c b.symm;have:=aaA h.2 e he;unfold oo at this;simp[c,d,this]
theorem GI.get(h:GI m l l.l ls){n:Int}(b:n∈pH m l):oN (oo ls) (.int .i64 n)=fb (dI (oW m l n)):=by obtain⟨e,a,rfl⟩:=aj.1 ((h.keys n).2 b);rw[aaA h.nd e a,h.prt e a];rfl
end
section
variable{g:gY}{l:List Pos}{nx:List (List Int)}{part:List Int}
end
structure A5(L:Nat)(v:List gT)(b:List Bool):Prop where
 vl:v.l=L
 bl:b.l=L
 n:∀i:Int,0<=i->i<L->gt b i=ep->(gt v i).1≠2->0<=(gt v i).2/\(0<(gt v i).2->∃j:Int,0<=j/\j<L/\gt b j=ep/\(gt v j).1≠2/\(gt v j).2=(gt v i).2-1)
theorem aby(v:List gT)(b:List Bool):∀k:Nat,pz v b k = -1\/∃i:Int,0<=i/\i<k/\gt b i=ep/\(gt v i).1≠2/\(gt v i).2=pz v b k
 | 0=>.inl rfl
 | k+1=>by
  have e:=aby v b k;rw[pz];split
  .rename_i h;rcases Int.le_total (pz v b k) (gt v (k:Int)).2 with d|d
   .refine .inr ⟨k,U,U,h.1,h.2,?_⟩;rw[Int.max_eq_right d]
   .rw[Int.max_eq_left d];rcases e with a|⟨i,a,f,c⟩
    .exact .inl a
    .exact .inr ⟨i,a,U,c⟩
  .rcases e with a|⟨i,a,f,c⟩
   .exact .inl a
   .exact .inr ⟨i,a,U,c⟩
def at4{L:Nat}{f:Int->Int}(K:Nat)(h:∀m:Nat,m<K->∃i:Int,0<=i/\i<L/\f i=m):K<=L:=by
 have key:∀k:Nat,k<=K->∃xs:List Int,xs.l=k/\xs.Nodup/\∀x∈xs,(0<=x/\x<L)/\f x<k:=by
  intro k
  induction k with
  | zero=>exactλ_=>⟨[],rfl,.nil,gP⟩
  | succ k d=>
   intro n;obtain⟨xs,h1,c,a⟩:=d U;obtain⟨i,i0,g,e⟩:=h k U;refine⟨i::xs,by simp[h1],bT.2 ⟨λl=>by have:=(a i l).2;omega,c⟩,λx b=>?_⟩;rcases ak.1 b with rfl|b
   .exact⟨⟨i0,g⟩,U⟩
   .have:=a x b;exact⟨this.1,U⟩
 obtain⟨xs,h1,c,a⟩:=key K (dx _);have:=yl L xs c λy j=>(a y j).1;omega
theorem A5.pz{L:Nat}{v:List gT}{b:List Bool}(h:A5 L v b):pz v b v.l<L\/pz v b v.l = -1:=by
 have s:=h.vl;rcases aby v b v.l with e|⟨i,i0,r,d,c,n⟩
 .exact .inr e
 .left;have o:=(h.n i i0 U d c).1;rw[n]at o;generalize Go.Proofs.YtmehofoficaelaaGreatDoor.pz v b v.l=N at *
  have a:∀k:Nat,(k:Int)<=N->∃j:Int,0<=j/\j<L/\gt b j=ep/\(gt v j).1≠2/\(gt v j).2=N-k:=by
   intro k
   induction k with
   | zero=>exactλ_=>⟨i,i0,U,d,c,U⟩
   | succ k l=>
    intro u;obtain⟨j,j0,j1,j2,j3,j4⟩:=l U;obtain⟨g,h0,h1,q,p,w⟩:=(h.n j j0 j1 j2 j3).2 U;exact⟨g,h0,h1,q,p,U⟩
  have:=at4 (L:=L) (f:=λj=>(gt v j).2) (N.n+1) λm t=>by obtain⟨j,j0,j1,_,_,j4⟩:=a (N.n-m) U;exact⟨j,j0,j1,U⟩
  omega
theorem Mq(v:List gT)(b:List Bool)(x:List Int):∀k:Nat,k<=x.l->(mL v b x k).2 = -1\/∃j∈x,gt b j=ep/\(gt v j).1=1/\(gt v j).2=(mL v b x k).2
 | 0,_=>.inl rfl
 | k+1,hk=>by
  have c:=Mq v b x k U;have d:gt x (k:Int)∈x:=ij U U;rw[mL];split
  .rename_i h;dsimp only;rcases Int.le_total (mL v b x k).2 (gt v (gt x (k:Int))).2 with a|a
   .rw[Int.max_eq_right a];exact .inr ⟨_,d,h.1,h.2,rfl⟩
   .rw[Int.max_eq_left a];exact c
  .exact c
section
variable{g:gY}{l:List Pos}{nx:List (List Int)}{part:List Int}{bu:Int}
theorem P2(o:pn g l nx part bu){v:List gT}{b:List Bool}(a:b.l=l.l){n:Int}:∀i∈sB g l nx part v b n,0<=i/\i<b.l:=λi hi=>by rw[a];exact o.prt i (P3 hi)
theorem HC(o:pn g l nx part bu){v:List gT}{b:List Bool}(a:v.l=l.l)(c:b.l=l.l){n:Int}:(rV g l nx part v b n).l=l.l:=by unfold rV;rw[uF _ _ _ (by rw[a,<-c];exact P2 o c),a]
theorem HB(o:pn g l nx part bu){v:List gT}{b:List Bool}(a:b.l=l.l){n:Int}:(rB g l nx part v b n).l=l.l:=by unfold rB;rw[uF _ _ _ (P2 o a),a]
theorem Gb(o:pn g l nx part bu){v:List gT}{b:List Bool}(c:v.l=l.l)(a:b.l=l.l){n j:Int}(j0:0<=j)(j1:j<l.l):gt (rV g l nx part v b n) j=if j∈sB g l nx part v b n then uf g l nx v b n j else gt v j:=
 z' _ _ _ (by rw[c,<-a];exact P2 o a) j j0 U
theorem Dz(o:pn g l nx part bu){v:List gT}{b:List Bool}(a:b.l=l.l){n j:Int}(j0:0<=j)(j1:j<l.l):gt (rB g l nx part v b n) j=if j∈sB g l nx part v b n then ep else gt b j:=
 z' _ _ _ (P2 o a) j j0 U
theorem A5.round(o:pn g l nx part bu){v:List gT}{b:List Bool}(h:A5 l.l v b){n:Int}(n0:0<=n):A5 l.l (rV g l nx part v b n) (rB g l nx part v b n):=by
 have s:=h.vl;have d:=h.bl
 have keep:∀j:Int,0<=j->j<l.l->gt b j=ep->(gt v j).1≠2->gt (rB g l nx part v b n) j=ep/\gt (rV g l nx part v b n) j=gt v j:=λj j0 j1 e _=>by
  have y:j ∉ sB g l nx part v b n:=λf=>by have:=(aH.1 f).2;unfold oB at this;rw[e]at this;simp at this
  rw[Dz o d j0 j1,Gb o s d j0 j1,if_neg y,if_neg y];exact⟨e,rfl⟩
 refine⟨HC o s d,HB o d,λi i0 q u p=>?_⟩;rw[Dz o d i0 q]at u;rw[Gb o s d i0 q]at p ⊢
 by_cases f:i∈sB g l nx part v b n
 .rw[if_pos f]at p ⊢;have gW:=(aH.1 f).2;have w:=o.Ht i i0 q;unfold oB at gW;unfold uf at p ⊢
  by_cases r:n=0
  .have:(nu g (gt l i) v b (gt nx i) n).1.2=0:=by simp[nu,r]
   exact⟨U,λx=>U⟩
  .by_cases hl:yi v b (gt nx i) n
   .have e:(nu g (gt l i) v b (gt nx i) n).1=(1,n):=by simp[nu,r,hl]
    rw[e];refine tV (λ_=>?_);obtain⟨k,t,k1,k2⟩:=hl;obtain⟨k3,k4⟩:=w.1 k t;have c:(gt v k).1≠2:=by rw[k2];simp
    obtain⟨m,a⟩:=keep k k3 k4 k1 c;exact⟨k,k3,k4,m,by rw[a];exact c,by rw[a,k2]⟩
   .have e:(nu g (gt l i) v b (gt nx i) n).1=(3,n):=by simp[nu,r,hl]
    have e2:(nu g (gt l i) v b (gt nx i) n).2=decide (0<(gt nx i).l/\(mL v b (gt nx i) (gt nx i).l).1=(gt nx i).l/\(mL v b (gt nx i) (gt nx i).l).2=n-1):=by simp[nu,r,hl]
    rw[e2]at gW;have gW:=of_decide_eq_true (fx _ _▸gW:_/\_).1;rw[e];refine tV (λ_=>?_);rcases Mq v b (gt nx i) (gt nx i).l (dx _)with h1|⟨k,t,k1,k5,k6⟩
    .omega
    .obtain⟨k3,k4⟩:=w.1 k t;have c:(gt v k).1≠2:=by rw[k5];decide
     obtain⟨m,a⟩:=keep k k3 k4 k1 c;exact⟨k,k3,k4,m,by rw[a];exact c,by rw[a];dsimp only;omega⟩
 .rw[if_neg f]at p u ⊢;obtain⟨h1,c⟩:=h.n i i0 q u p;refine⟨h1,λx=>?_⟩;obtain⟨j,j0,j1,j2,j3,j4⟩:=c x;obtain⟨m,a⟩:=keep j j0 j1 j2 j3;exact⟨j,j0,j1,m,by rw[a];exact j3,by rw[a];exact j4⟩
theorem LO(o:pn g l nx part bu)(d:Int):∀(f:Nat) (n:Int) (v:List gT) (b:List Bool) (t:Int),v.l=l.l->b.l=l.l ->
  ((lM g l nx part d f n v b t).2.1.l=l.l/\(lM g l nx part d f n v b t).2.2.l=l.l)/\∀j:Int,0<=j->j<l.l->j ∉ part->gt (lM g l nx part d f n v b t).2.1 j=gt v j/\gt (lM g l nx part d f n v b t).2.2 j=gt b j
 | 0,n,v,b,t,hv,hb=>⟨⟨hv,hb⟩,λ_ _ _ _=>⟨rfl,rfl⟩⟩
 | f+1,n,v,b,t,hv,hb=>by
  have h1:=HC o hv hb (n:=n);have k:=HB o (v:=v) hb (n:=n)
  have i:∀j:Int,0<=j->j<l.l->j ∉ part->gt (rV g l nx part v b n) j=gt v j/\gt (rB g l nx part v b n) j=gt b j:=λj j0 j1 e=>by rw[Gb o hv hb j0 j1,Dz o hb j0 j1,if_neg λh=>e (P3 h),if_neg λh=>e (P3 h)];exact⟨rfl,rfl⟩
  rw[lM];split
  .obtain⟨a,c⟩:=LO o d f (n+1) _ _ (t+(p8 b part d part.l).1) h1 k;refine⟨a,λj j0 j1 e=>?_⟩;rw[(c j j0 j1 e).1,(c j j0 j1 e).2];exact i j j0 j1 e
  .exact⟨⟨h1,k⟩,i⟩
theorem JC(o:pn g l nx part bu){v:List gT}{b:List Bool}(a:v.l=l.l)(c:b.l=l.l):((oX part v b).1.l=l.l/\(oX part v b).2.l=l.l) /\
  ∀j:Int,0<=j->j<l.l->gt (oX part v b).1 j=(if j∈part/\gt b j=er then(2,0)else gt v j)/\gt (oX part v b).2 j=(if j∈part then ep else gt b j):=by
 have hi:∀i∈part.filter (λi=>gt b i),0<=i/\i<l.l:=λi hi=>o.prt i (aH.1 hi).1;unfold oX;dsimp only;refine⟨⟨by rw[uF _ _ _ (by rw[a];exact hi),a],by rw[uF _ _ _ (by rw[c];exact hi),c]⟩,λj j0 j1=>?_⟩;rw[z' _ _ _ (by rw[a];exact hi) j j0 U,z' _ _ _ (by rw[c];exact hi) j j0 U];simp only[aH];refine⟨trivial,?_⟩
 by_cases h1:j∈part
 .by_cases d:gt b j=er
  .simp[h1,d]
  .simp[h1,d]
 .simp[h1]
theorem Lf(o:pn g l nx part bu){b:List Bool}(a:b.l=l.l):(mn b (λ_=>er) part).l=l.l/\∀j:Int,0<=j->j<l.l->gt (mn b (λ_=>er) part) j=if j∈part then er else gt b j:=by
 have hi:∀i∈part,0<=i/\i<b.l:=λi hi=>by rw[a];exact o.prt i hi
 exact⟨by rw[uF _ _ _ hi,a],λj j0 j1=>z' _ _ _ hi j j0 U⟩
theorem Bz(o:pn g l nx part bu)(a:Int){v:List gT}{b:List Bool}(i:v.l=l.l)(k:b.l=l.l):((nZ g l nx part a v b).2.1.l=l.l/\(nZ g l nx part a v b).2.2.l=l.l) /\
  ∀j:Int,0<=j->j<l.l->j ∉ part->gt (nZ g l nx part a v b).2.1 j=gt v j/\gt (nZ g l nx part a v b).2.2 j=gt b j:=by
 obtain⟨m1,m2⟩:=Lf o k;obtain⟨⟨f,e⟩,d⟩:=LO o a 4001 0 v (mn b (λ_=>er) part) 0 i m1;obtain⟨f1,f2⟩:=JC o f e;unfold nZ;dsimp only;refine⟨f1,λj j0 j1 c=>?_⟩;obtain⟨p,n⟩:=f2 j j0 j1;obtain⟨m,c2⟩:=d j j0 j1 c;rw[p,n,if_neg (λh=>c h.1),if_neg c,m,c2,m2 j j0 j1,if_neg c];exact⟨rfl,rfl⟩
end
noncomputable def AH(g:gY)(l:List Pos)(nx:List (List Int))(bu:Int):List (List Int)->List gT->List Bool->Int->Int×List gT×List Bool
 | [],v,b,t=>(t,v,b)
 | p::ps,v,b,t=>AH g l nx bu ps (nZ g l nx p bu v b).2.1 (nZ g l nx p bu v b).2.2 (t+(nZ g l nx p bu v b).1)
section
variable{g:gY}{l:List Pos}{nx:List (List Int)}
end
noncomputable def RY(m:List Int)(l:List Pos)(last:Int):Nat->Int
 | 0 => -1
 | i+1=>if last<jn m (gt l (i:Int))/\(RY m l last i<0\/jn m (gt l (i:Int))<RY m l last i)then jn m (gt l (i:Int))else RY m l last i
@[simp] theorem aBJ(m:List Int)(l:List Pos)(last:Int):RY m l last 0 = -1:=rfl
theorem aeq{g:gY}{l:List Pos}{nx:List (List Int)}{part:List Int}{bu:Int}(a:part.l<=4000):∀(f:Nat) (n:Int) (v:List gT) (b:List Bool) (t:Int),t<=(lM g l nx part bu f n v b t).1/\(lM g l nx part bu f n v b t).1<=t+f*4000
 | 0,n,v,b,t=>by rw[lM];dsimp only;omega
 | f+1,n,v,b,t=>by
  have h:=K7 b part bu part.l;rw[lM];split
  .have:=aeq (g:=g) (l:=l) (nx:=nx) a f (n+1) (rV g l nx part v b n) (rB g l nx part v b n) (t+(p8 b part bu part.l).1) (bu:=bu);omega
  .dsimp only;omega
def ajj{g:gY}{l:List Pos}{nx:List (List Int)}{part:List Int}{bu:Int}(a:part.l<=4000)(v:List gT)(b:List Bool):0<=(nZ g l nx part bu v b).1/\(nZ g l nx part bu v b).1<=20000000:=by have:=aeq (g:=g) (l:=l) (nx:=nx) (bu:=bu) a 4001 0 v (mn b (λ_=>er) part) 0;unfold nZ;dsimp only;omega
def DA{α:Type}[Inhabited α]{n:Nat}{a:α}{k:Int}(k0:0<=k)(k1:k<n):gt (di n a) k=a:=by unfold gt;rw[ej,gv,if_pos U];rfl
noncomputable def zr(g:gY)(l:List Pos)(m:List Int)(n:Int):Int×List gT×List Bool:=AH g l (iq g l) n (pR m l) (di l.l (2,0)) (di l.l ep) 0
section
variable{g:gY}{l:List Pos}{m:List Int}{n k:Int}
theorem F8(hg:iE g)(a:qq g l)(f:1<=n/\n<=9223372036854775807){p:List Int}(e:p∈pR m l):pn g l (iq g l) p n:=by obtain⟨d,j,h,c⟩:=Z3 e;have:=a.len;exact⟨hg,a.ok,a.len,by simp[iq],λi i0 b=>⟨(wI a i0 b).2,by rw[(wI a i0 b).1,ga];have:=Hm hg (a.ok _ (ij i0 b));omega⟩,c,d,U,f⟩
end
set_option maxRecDepth 10000
set_option maxHeartbeats 8000000
def zP(b:Int)(l:List gT):Bool:=l.any λs=>s.1 == 8&&s.2 == b
def C4(g:gY)(a b:Int):Bool:=(gt g.kinds a).jv.any (zP b)
structure yI(g:gY)(m:List Int):Prop where
 ok:oF g m
 le:∀a b:Int,0<=a->a<g.kinds.l->0<=b->b<g.kinds.l->C4 g a b=er->gt m b<=gt m a
def Zc{α:Type}[Inhabited α](f:α->Bool){l:List α}{i:Int}(i0:0<=i)(hi:i<l.l):(l.take (i+1).n).any f=((l.take i.n).any f||f (gt l i)):=by rw[jP i0 hi,List.any_append];simp
section
variable{g:gY}{m:List Int}
theorem ac1{cs:List Int}{c v:Int}(b:0<=c)(a:c<cs.l):∀n:Nat,n<=cs.l->tg m (pt cs c v) n=tg m cs n+if c<n then tT m v-tT m (gt cs c)else 0
 | 0,_=>iz
 | n+1,h=>by
  have d:=ac1 (v:=v) b a n U;rw[tg,tg,d,mY b a U]
  by_cases e:(n:Int)=c
  .subst e;rw[if_pos rfl,if_neg U,if_pos U];omega
  .rw[if_neg e]
   by_cases e2:c<(n:Int)
   .rw[if_pos e2,if_pos U];omega
   .rw[if_neg e2,if_neg U];omega
theorem alY{cs:List Int}{c v:Int}(b:0<=c)(a:c<cs.l):tg m (pt cs c v) (pt cs c v).l=tg m cs cs.l+tT m v-tT m (gt cs c):=by rw[jy b a,ac1 b a _ (dx _),if_pos a];omega
theorem Wi{a b:List Int}{k v:Int}(k0:0<=k)(k1:k<a.l):∀n:Nat,n<=a.l->sq m (pt a k v) b n=sq m a b n+if k<n then gt m k*(v-gt a k)else 0
 | 0,_=>iz
 | n+1,h=>by
  have c:=Wi (b:=b) (v:=v) k0 k1 n U;rw[sq,sq,c,mY k0 k1 U]
  by_cases e:(n:Int)=k
  .subst e;rw[if_pos rfl,if_neg U,if_pos U];simp only[Int.mul_add,Int.mul_sub];omega
  .rw[if_neg e]
   by_cases e2:k<(n:Int)
   .rw[if_pos e2,if_pos U];omega
   .rw[if_neg e2,if_neg U];omega
theorem Wh{a b:List Int}:∀n:Nat,sq m a b n=sq m b a n
 | 0=>rfl
 | n+1=>by rw[sq,sq,Wh n,Int.add_comm (gt a (n:Int))]
theorem Hf:tT m 0=0:=by unfold tT iC;simp
theorem RM{c:Int}(h:0<=iC c):tT m c=gt m (iC c):=by unfold tT;rw[if_pos h]
theorem ac5{k s:Int}(h0:0<=k)(h1:k<2)(a:0<=s)(s1:s<=1):iC (lQ k s)=k:=by unfold iC lQ;rw[if_pos U];omega
theorem ar3{r n:Int}(h0:0<=r)(h1:r<4)(n0:0<=n)(n1:n<2):zx (dropRight r n)<=zx r:=by rcases(U:r=0\/r=1\/r=2\/r=3)with rfl|rfl|rfl|rfl<;>rcases(U:n=0\/n=1)with rfl|rfl<;>decide
def xn(m:List Int)(s:il):Int:=jn m s.p+gt m s.kind
theorem acL{p:Pos}(b:oF g m)(a:ja g p){s k v:Int}(k0:0<=k)(k1:k<g.kinds.l):jn m (p.mW s (pt (p.hand s) k v))=jn m p+gt m k*(v-gt (p.hand s) k):=by
 have f:=a.h0.len;have d:=a.h1.len;have c:=b.len;unfold Pos.mW Pos.hand jn
 by_cases e:s=0
 .simp only[e,if_true];rw[Wi k0 U _ U,if_pos U];omega
 .simp only[e,if_false];rw[Wh,Wi k0 U _ U,if_pos U,Wh];omega
theorem Ha{p:Pos}{c v:Int}(b:0<=c)(a:c<p.cs.l):jn m { p with cs:=pt p.cs c v }=jn m p+tT m v-tT m (gt p.cs c):=by unfold jn;dsimp only;rw[alY b a];omega
theorem atJ(hg:iE g)(b:oF g m){s:il}(hs:lj g s){x:gT}(w:C3 g x)(B:x.1=8->gt m x.2<=gt m s.kind){t:il}(h:t∈jT g s x):xn m t<=xn m s/\(x.1≠8->t.kind=s.kind):=by
 have l:=hg.kC;have a:s.cur<s.p.cs.l:=by rw[hs.p.size];exact hs.cur.2
 have A:=hs.p.cs _ (ij hs.cur.1 a);unfold jT at h;dsimp only at h;split at h
 .split at h
  .rw[bf]at h;subst h;exact⟨cI _,λ_=>rfl⟩
  .cases h
 split at h
 .obtain⟨c,h1,rfl⟩:=Wb h;exact⟨cI _,λ_=>rfl⟩
 iterate 3
  split at h
  .split at h
   .rw[bf]at h;subst h;exact⟨cI _,λ_=>rfl⟩
   .cases h
 split at h
 .unfold uK at h;dsimp only at h;split at h
  .cases h
  rename_i e;have e:=fM.1 e;have E:=hs.p.side;obtain⟨m1,m2,m3,m4⟩:=Eu U e;have i:iC (gt s.p.cs s.cur)<g.kinds.l:=zq A.2 hg.kinds.1;have z:ja g { s.p with cs:=pt s.p.cs s.cur 0 }:=hs.p.CG hs.cur.1 hs.cur.2 U;have hl:=Ha (m:=m) (p:=s.p) (v:=0) hs.cur.1 a;have h1:=b.num _ (ij m1 (by rw[b.len];exact i));rw[Hf,RM m1]at hl;split at h
  .rw[bf]at h;subst h;refine⟨?_,λ_=>rfl⟩;unfold xn;(try dsimp only at hl);(try dsimp only at d);dsimp only;omega
  split at h
  .rw[bf]at h;subst h;refine⟨?_,λ_=>rfl⟩;have d:=acL b z (s:=s.p.side) (k:=iC (gt s.p.cs s.cur)) (v:=gt (s.p.hand s.p.side) (iC (gt s.p.cs s.cur))+1) m1 i;have e2:({ s.p with cs:=pt s.p.cs s.cur 0 }:Pos).hand s.p.side=s.p.hand s.p.side:=by unfold Pos.hand;split<;>rfl
   rw[e2,(U:gt (s.p.hand s.p.side) (iC (gt s.p.cs s.cur))+1-gt (s.p.hand s.p.side) (iC (gt s.p.cs s.cur))=1),Int.mul_one]at d;unfold xn;(try dsimp only at hl);(try dsimp only at d);dsimp only;omega
  .cases h
 split at h
 .unfold vE at h;dsimp only at h;split at h
  .cases h
  rename_i e;simp only[not_or,ff,fM]at e;rw[bf]at h;subst h;refine⟨?_,λ_=>rfl⟩;have y:=l.to s.p.side x.2 s.cur;have t1:mK g s.p.side x.2 s.cur<s.p.cs.l:=by rw[hs.p.size];exact y.2
  have q:s.cur≠mK g s.p.side x.2 s.cur:=λC=>e.1 (C▸e.2.2);have o:=Ha (m:=m) (p:=s.p) (v:=gt s.p.cs s.cur) e.2.1 t1;have f:=Ha (m:=m) (p:={ s.p with cs:=pt s.p.cs (mK g s.p.side x.2 s.cur) (gt s.p.cs s.cur) }) (c:=s.cur) (v:=0) hs.cur.1 (by dsimp only;rw[jy e.2.1 t1];exact a);dsimp only at f;rw[Dy e.2.1 t1 hs.cur.1 q,Hf]at f;rw[e.2.2,Hf]at o;unfold xn;dsimp only;omega
 split at h
 .rename_i j;rw[bf]at h;subst h;have:=B j;refine⟨?_,λh=>absurd j h⟩;unfold xn;dsimp only;omega
 split at h
 .split at h
  .rw[bf]at h;subst h;exact⟨cI _,λ_=>rfl⟩
  .cases h
 .rw[bf]at h;subst h;refine⟨?_,λ_=>rfl⟩;have F:=aej hg hs.p;have D:=hg.iw;have u:=w.ok;have:=ar3 (r:=s.p.iw) (n:=x.2) U U U U;unfold xn jn;dsimp only;omega
theorem aeB(hg:iE g)(j:oF g m){k L:Int}:∀ {l:List gT} {a:List il},(∀x∈l,C3 g x)->(∀x∈l,x.1=8->gt m x.2<=gt m k)->oj l 8<=1->(∀s∈a,lj g s/\xn m s<=L/\(0<oj l 8->s.kind=k))->∀s∈tY g l a,lj g s/\xn m s<=L
 | [],a,_,_,_,h=>λs hs=>⟨(h s hs).1,(h s hs).2.1⟩
 | x::r,a,h1,h2,h3,h=>by
  rw[tY]
  have c:oj (x::r) 8=oj r 8+if x.1=8 then 1 else 0:=by
   unfold oj;rw[b7]
   by_cases e:x.1=8<;>simp[e]
  have h0:0<=oj r 8:=by unfold oj;omega
  refine aeB hg j (λy d=>h1 y (by simp[d])) (λy d=>h2 y (by simp[d])) (by split at c<;>omega) λt b=>?_;obtain⟨s,hs,b⟩:=bG.1 b;obtain⟨s1,n,f⟩:=h s hs;have i:=h1 x gP;have hl:=atJ hg j s1 i (λe=>by rw[f (by rw[c,if_pos e];omega)];exact h2 x gP e) b;refine⟨CJ hg s1 i b,U,λo=>?_⟩;have e:x.1≠8:=λe=>by rw[if_pos e]at c;omega
  rw[hl.2 e];exact f (by rw[c,if_neg e];omega)
theorem adU(hg:iE g)(u:yI g m){p:Pos}(f:ja g p){o:iJ}(h:o∈su g p):jn m o.p<=jn m p:=by
 have E:=u.ok;have n:=f.side;obtain⟨c,b,h⟩:=bG.1 h;rw[l8]at b;have B:c<g.size:=by rw[<-f.size];exact b.2
 unfold rS at h;split at h
 .rename_i e;obtain⟨l,hl,h⟩:=bG.1 h;obtain⟨s,hs,h⟩:=c9.1 h;have a:=HY hg f b.1 B e;have F:=hg.jv _ (ij (l:=g.kinds) a.kind.1 a.kind.2);have i:=F.2 l hl;have m1:=(Eu f.side.1 e).1;have C:=Ha (m:=m) (p:=p) (v:=0) b.1 b.2;rw[Hf,RM m1]at C
  have h0:xn m (mo p c)=jn m p:=by unfold xn mo;dsimp only;omega
  have y:=aeB hg E (k:=iC (gt p.cs c)) (L:=jn m p) i.steps (λx r H=>by
   have K:=(i.steps x r).ok;refine u.le _ _ a.kind.1 a.kind.2 U U ?_
   exact gu.2 ⟨l,hl,gu.2 ⟨x,r,by simp[H]⟩⟩) i.I2 (λt w=>by
    rw[bf]at w;subst w
    exact⟨a,U,λ_=>rfl⟩) s hs
  unfold pT at h;split at h
  .rename_i I;cases h;have d:=y.1;have D:s.cur<s.p.cs.l:=by rw[d.p.size];exact d.cur.2
   have J:=hg.kinds.2;have j:=d.kind;have q:=Ha (m:=m) (p:=s.p) (v:=lQ s.kind p.side) d.cur.1 D;have A:=ac5 (k:=s.kind) (s:=p.side) j.1 U n.1 n.2;rw[I,Hf,RM (by rw[A];exact j.1),A]at q;have G:=y.2;unfold xn at G;have z:jn m { s.p with cs:=pt s.p.cs s.cur (lQ s.kind p.side),side:=1-p.side }=jn m { s.p with cs:=pt s.p.cs s.cur (lQ s.kind p.side) }:=rfl;(try dsimp only at q);(try dsimp only at z);dsimp only;rw[z];omega
  .cases h
 .cases h
theorem aht(hg:iE g)(f:oF g m){p:Pos}(b:ja g p){q:Pos}(h:zI g p q):jn m q=jn m p:=by
 obtain⟨k,c,h1,o,n,l,u,j,rfl⟩:=h;have a:=b.side;have t:=hg.kinds.2;have i:=acL f b (s:=p.side) (v:=gt (p.hand p.side) k-1) h1 o;have e:(p.mW p.side (pt (p.hand p.side) k (gt (p.hand p.side) k-1))).cs=p.cs:=by unfold Pos.mW;split<;>rfl
 have hl:=Ha (m:=m) (p:=p.mW p.side (pt (p.hand p.side) k (gt (p.hand p.side) k-1))) (c:=c) (v:=lQ k p.side) n (by rw[e];exact l);have d:=ac5 (k:=k) (s:=p.side) h1 U a.1 a.2;rw[e,j,Hf,RM (by rw[d];exact h1),d]at hl;have r:jn m (lx p k c)=jn m { p.mW p.side (pt (p.hand p.side) k (gt (p.hand p.side) k-1))with cs:=pt p.cs c (lQ k p.side) }:=rfl;rw[r,hl,i];rw[(U:gt (p.hand p.side) k-1-gt (p.hand p.side) k = -1),Int.mul_neg,Int.mul_one];omega
theorem amk(hg:iE g)(a:yI g m){p:Pos}(b:ja g p){q:Pos}(h:sP g p q):jn m q<=jn m p:=by
 obtain⟨_,h⟩:=h;split at h
 .exact adU hg a b h
 .rcases h with⟨o,h,rfl⟩|h
  .exact adU hg a b h
  .exact Int.le_of_eq (aht hg a.ok b h)
end
section
variable{g:gY}{l:List Pos}{nx:List (List Int)}{part:List Int}{bu:Int}
structure wR(L:Nat)(S:Int->Prop)(v:List gT)(b:List Bool)(v':List gT)(b':List Bool):Prop where
 vl:v.l=L
 bl:b.l=L
 Mm:v'.l=L
 FP:b'.l=L
 eb:∀k:Int,0<=k->k<L->S k->gt b k=gt b' k
 ev:∀k:Int,0<=k->k<L->S k->gt b k=ep->gt v k=gt v' k
theorem wR.symm{L:Nat}{S:Int->Prop}{v:List gT}{b:List Bool}{v':List gT}{a:List Bool}(h:wR L S v b v' a):wR L S v' a v b:=
 ⟨h.Mm,h.FP,h.vl,h.bl,λk k0 k1 s=>(h.eb k k0 k1 s).symm,λk k0 k1 s e=>(h.ev k k0 k1 s (by rw[h.eb k k0 k1 s];exact e)).symm⟩
structure FJ(l:List Pos)(nx:List (List Int))(part:List Int)(S:Int->Prop):Prop where
 own:∀i∈part,S i
 next:∀i∈part,∀k∈gt nx i,S k
theorem afk{L:Nat}{S:Int->Prop}{v v':List gT}{b f:List Bool}(h:wR L S v b v' f){x:List Int}(d:∀k∈x,(0<=k/\k<L)/\S k):∀j:Nat,j<=x.l->mL v b x j=mL v' f x j
 | 0,_=>rfl
 | j+1,hj=>by
  have a:=d _ (ij (l:=x) (n:=(j:Int)) U U);have h1:=h.eb _ a.1.1 a.1.2 a.2;rw[mL,mL,afk h d j U,<-h1]
  by_cases e:gt b (gt x (j:Int))=ep
  .rw[h.ev _ a.1.1 a.1.2 a.2 e]
  .rw[if_neg (λc=>e c.1),if_neg (λc=>e c.1)]
theorem acU{L:Nat}{S:Int->Prop}{v v':List gT}{b d:List Bool}(h:wR L S v b v' d){x:List Int}(e:∀k∈x,(0<=k/\k<L)/\S k){n:Int}(hl:yi v b x n):yi v' d x n:=by obtain⟨k,c,h1,f⟩:=hl;have a:=e k c;exact⟨k,c,by rw[<-h.eb k a.1.1 a.1.2 a.2];exact h1,by rw[<-h.ev k a.1.1 a.1.2 a.2 h1];exact f⟩
theorem aal{L:Nat}{S:Int->Prop}{v v':List gT}{b f:List Bool}(h:wR L S v b v' f){x:List Int}(a:∀k∈x,(0<=k/\k<L)/\S k)(p:Pos)(n:Int):nu g p v b x n=nu g p v' f x n:=by
 have e:yi v b x n↔yi v' f x n:=⟨acU h a,acU h.symm a⟩;unfold nu;rw[afk h a x.l (dx _)]
 by_cases c:yi v b x n
 .rw[if_pos c,if_pos (e.1 c)]
 .rw[if_neg c,if_neg (λd=>c (e.2 d))]
theorem asJ(o:pn g l nx part bu){S:Int->Prop}(hS:FJ l nx part S){v v':List gT}{b a:List Bool}(h:wR l.l S v b v' a)(n:Int):wR l.l S (rV g l nx part v b n) (rB g l nx part v b n) (rV g l nx part v' a n) (rB g l nx part v' a n):=by
 have f:∀i∈part,∀k∈gt nx i,(0<=k/\k<l.l)/\S k:=λi hi k m=>⟨(o.Ht i (o.prt i hi).1 (o.prt i hi).2).1 k m,hS.next i hi k m⟩;have p:∀i∈part,uf g l nx v b n i=uf g l nx v' a n i:=λi hi=>by unfold uf;rw[aal h (f i hi)]
 have d:sB g l nx part v b n=sB g l nx part v' a n:=by unfold sB;refine fO λi hi=>?_;have j:=o.prt i hi;unfold oB;rw[aal h (f i hi),h.eb i j.1 j.2 (hS.own i hi)]
 refine⟨HC o h.vl h.bl,HB o h.bl,HC o h.Mm h.FP,HB o h.FP,λk k0 k1 s=>?_,λk k0 k1 s e=>?_⟩
 .rw[Dz o h.bl k0 k1,Dz o h.FP k0 k1,d,h.eb k k0 k1 s]
 .rw[Gb o h.vl h.bl k0 k1,Gb o h.Mm h.FP k0 k1,d];rw[Dz o h.bl k0 k1,d]at e;split
  .rename_i c;exact p k (P3 c)
  .rename_i c;rw[if_neg c]at e;exact h.ev k k0 k1 s e
def Quiet(L:Nat)(S:Int->Prop)(v:List gT)(b:List Bool)(n:Int):Prop:=∀k:Int,0<=k->k<L->S k->gt b k=ep->(gt v k).1≠2->(gt v k).2<n
theorem Quiet.Y6{L:Nat}{S:Int->Prop}{v v':List gT}{b c:List Bool}{n:Int}(q:Quiet L S v b n)(h:wR L S v b v' c):Quiet L S v' c n:=λk k0 k1 s e f=>by have a:=h.eb k k0 k1 s;have d:=h.ev k k0 k1 s (by rw[a];exact e);rw[<-d]at f ⊢;exact q k k0 k1 s (by rw[a];exact e) f
theorem Quiet.none(o:pn g l nx part bu){S:Int->Prop}(hS:FJ l nx part S){v:List gT}{b:List Bool}{n:Int}(n0:0<=n)(q:Quiet l.l S v b n):sB g l nx part v b (n+1) = []:=by
 refine eT.2 λi hi=>?_;have m:=o.prt i hi;have a:=(o.Ht i m.1 m.2).1;unfold oB nu;rw[if_neg U,if_neg]
 .simp only[fx,decide_eq_true_eq,not_and];intro h;exfalso;rcases Mq v b (gt nx i) (gt nx i).l (dx _)with e|⟨j,d,f,e2,r⟩
  .omega
  .have:=q j (a j d).1 (a j d).2 (hS.next i hi j d) f U;omega
 .rintro⟨k,c,f,e2⟩;have h1:(gt v k).1=3:=by rw[e2]
  have p:(gt v k).2=n+1-1:=by rw[e2]
  have:=q k (a k c).1 (a k c).2 (hS.next i hi k c) f U;omega
theorem Quiet.lM(o:pn g l nx part bu){S:Int->Prop}(hS:FJ l nx part S){v:List gT}{b:List Bool}(a:Int):∀(f:Nat) (n:Int) (t:Int),0<=n->Quiet l.l S v b n->(lM g l nx part a f (n+1) v b t).2=(v,b)
 | 0,_,_,_,_=>rfl
 | f+1,n,t,n0,q=>by
  have c:=q.none o hS n0;have d:rV g l nx part v b (n+1)=v:=by unfold rV;rw[c];rfl
  have e2:rB g l nx part v b (n+1)=b:=by unfold rB;rw[c];rfl
  rw[Go.Proofs.YtmehofoficaelaaGreatDoor.lM,d,e2];split
  .exact Quiet.lM o hS a f (n+1) _ U λk k0 k1 s e h=>by have:=q k k0 k1 s e h;omega
  .rfl
theorem Qz(v:List gT)(b:List Bool):∀(k:Nat) (j:Int),0<=j->j<k->gt b j=ep->(gt v j).1≠2->(gt v j).2<=pz v b k
 | 0,j,j0,j1,_,_=>U
 | k+1,j,j0,j1,h1,h2=>by
  rw[pz]
  by_cases e:j=(k:Int)
  .subst e;rw[if_pos ⟨h1,h2⟩];omega
  .have:=Qz v b k j j0 U h1 h2;split<;>omega
theorem aep(o:pn g l nx part bu){S:Int->Prop}(hS:FJ l nx part S)(a:Int):∀(f:Nat) (n:Int) (v v':List gT) (b d:List Bool) (t j:Int),0<=n->wR l.l S v b v' d ->
  wR l.l S (lM g l nx part a f n v b t).2.1 (lM g l nx part a f n v b t).2.2 (lM g l nx part a f n v' d j).2.1 (lM g l nx part a f n v' d j).2.2
 | 0,n,v,v',b,d,t,j,_,h=>h
 | f+1,n,v,v',b,d,t,j,n0,h=>by
  have i:=asJ o hS h n;rw[lM,lM];generalize rV g l nx part v b n=V at *;generalize rB g l nx part v b n=B at *;generalize rV g l nx part v' d n=V' at *;generalize rB g l nx part v' d n=B' at *
  by_cases c:n<=pz V B v.l/\n<4000
  .by_cases c':n<=pz V' B' v'.l/\n<4000
   .rw[if_pos c,if_pos c'];exact aep o hS a f (n+1) V V' B B' _ _ U i
   .have p:Quiet l.l S V' B' n:=λk k0 k1 _ e m=>by have:=Qz V' B' v'.l k k0 (by rw[h.Mm];exact k1) e m;omega
    rw[if_pos c,if_neg c',(p.Y6 i.symm).lM o hS a f n _ n0];exact i
  .have q:Quiet l.l S V B n\/¬n<4000:=by
    by_cases c2:n<4000
    .exact .inl λk k0 k1 _ e m=>by have:=Qz V B v.l k k0 (by rw[h.vl];exact k1) e m;omega
    .exact .inr c2
   by_cases c':n<=pz V' B' v'.l/\n<4000
   .rw[if_neg c,if_pos c',((q.resolve_right (λh=>h c'.2)).Y6 i).lM o hS a f n _ n0];exact i
   .rw[if_neg c,if_neg c'];exact i
def rep(n:Nat):List Bool:=di n ep
theorem AQ(n:Nat):(rep n).l=n:=by simp[rep]
theorem aji(o:pn g l nx part bu)(a:Int){v:List gT}(c:v.l=l.l):(nZ g l nx part a v (rep l.l)).2.2=rep l.l:=by
 have b:=AQ l.l;obtain⟨m1,m2⟩:=Lf o b;obtain⟨⟨i,h⟩,f⟩:=LO o a 4001 0 v (mn (rep l.l) (λ_=>er) part) 0 c m1;obtain⟨f1,f2⟩:=JC o i h;have h1:=(Bz o a c b).1.2;refine BE (by rw[h1,b]) λj j0 j1=>?_;rw[h1]at j1;have e:gt (rep l.l) j=false:=DA j0 U;rw[e];unfold nZ;dsimp only;rw[(f2 j j0 j1).2];split
 .rfl
 .rename_i d;rw[(f j j0 j1 d).2,m2 j j0 j1,if_neg d,e]
theorem aa0(o:pn g l nx part bu){S:Int->Prop}(hS:FJ l nx part S)(b:Int){v v':List gT}(i:v.l=l.l)(m:v'.l=l.l)(h:∀k:Int,0<=k->k<l.l->S k->k ∉ part->gt v k=gt v' k) :
  ∀k:Int,0<=k->k<l.l->S k->gt (nZ g l nx part b v (rep l.l)).2.1 k=gt (nZ g l nx part b v' (rep l.l)).2.1 k:=by
 have n:=AQ l.l;obtain⟨m1,m2⟩:=Lf o n
 have h0:wR l.l S v (mn (rep l.l) (λ_=>er) part) v' (mn (rep l.l) (λ_=>er) part):=⟨i,m1,m,m1,λ_ _ _ _=>rfl,λk k0 k1 s e=>by
  rw[m2 k k0 k1]at e;split at e
  .cases e
  .rename_i d
   exact h k k0 k1 s d⟩
 have a:=aep o hS b 4001 0 v v' _ _ 0 0 U h0;obtain⟨_,j⟩:=LO o b 4001 0 v (mn (rep l.l) (λ_=>er) part) 0 i m1;obtain⟨_,f2⟩:=JC o a.vl a.bl;obtain⟨_,f⟩:=JC o a.Mm a.FP;intro k k0 k1 s;unfold nZ;dsimp only;rw[(f2 k k0 k1).1,(f k k0 k1).1,<-a.eb k k0 k1 s]
 by_cases c:k∈part/\gt (lM g l nx part b 4001 0 v (mn (rep l.l) (λ_=>er) part) 0).2.2 k=er
 .rw[if_pos c,if_pos c]
 .rw[if_neg c,if_neg c];refine a.ev k k0 k1 s ?_
  by_cases d:k∈part
  .have:=λe=>c ⟨d,e⟩;simpa using this
  .rw[(j k k0 k1 d).2,m2 k k0 k1,if_neg d];exact DA k0 U
end
section
variable{g:gY}{l:List Pos}{m:List Int}
theorem adw(hg:iE g)(e:yI g m)(b:qq g l){i:Int}(i0:0<=i)(a:i<l.l):∀k∈gt (iq g l) i,jn m (gt l k)<=jn m (gt l i):=λk d=>by rw[(wI b i0 a).1]at d;obtain⟨q,f,rfl⟩:=aj.1 d;have c:=ED.1 f;have h:=b.cl _ (ij i0 a) q c;rw[(JE h).2.2];exact amk hg e (b.ok _ (ij i0 a)) c
theorem aeF(hg:iE g)(b:yI g m)(d:qq g l)(n:Int):FJ l (iq g l) (oW m l n) λk=>jn m (gt l k)<=n:=
 ⟨λi hi=>by rw[(Ez.1 hi).2];exact cI _,λi hi k c=>by
  obtain⟨⟨i0,a⟩,e⟩:=Ez.1 hi;have:=adw hg b d i0 a k c
  omega⟩
noncomputable def yZ(g:gY)(l:List Pos)(bu:Int):List (List Int)->List gT->List gT
 | [],v=>v
 | p::ps,v=>yZ g l bu ps (nZ g l (iq g l) p bu v (rep l.l)).2.1
theorem adk(hg:iE g)(a:qq g l){bu:Int}(b:1<=bu/\bu<=9223372036854775807):∀(ps:List (List Int)) (_:∀p∈ps,p∈pR m l) (v:List gT) (t:Int),v.l=l.l->(AH g l (iq g l) bu ps v (rep l.l) t).2.1=yZ g l bu ps v
 | [],_,v,t,hv=>rfl
 | p::ps,h,v,t,hv=>by have o:=F8 hg a b (h p gP);rw[AH,yZ,aji o bu hv];exact adk hg a b ps (λq c=>h q (by simp[c])) _ _ (Bz o bu hv (AQ _)).1.1
theorem aa1(hg:iE g)(f:yI g m)(c:qq g l){bu:Int}(q:1<=bu/\bu<=9223372036854775807):∀(a:List Int),vL a->(∀n∈a,n∈pH m l)->∀(v v':List gT),v.l=l.l->v'.l=l.l ->
  (∀k:Int,0<=k->k<l.l->jn m (gt l k) ∉ a->(∀n∈a,jn m (gt l k)<n)/\gt v k=gt v' k)->yZ g l bu (a.map (oW m l)) v=yZ g l bu (a.map (oW m l)) v'
 | [],_,_,v,v',e,e',h=>BE (e.trans e'.symm) λj j0 j1=>(h j j0 (by rw[<-e];exact j1) gP).2
 | n::a,hs,hm,v,v',e,e',h=>by
  obtain⟨s1,s⟩:=aI.1 hs;have o:=F8 hg c q (aj.2 ⟨n,hm n gP,rfl⟩:oW m l n∈pR m l)
  have d:=aa0 o (aeF hg f c n) bu e e' λk k0 k1 p t=>by
   have w:jn m (gt l k)≠n:=λe=>t (Ez.2 ⟨⟨k0,k1⟩,e⟩);refine(h k k0 k1 λu=>?_).2;rcases ak.1 u with h1|h1
   .exact w h1
   .have:=s1 _ h1;omega
  rw[aE,yZ,yZ];refine aa1 hg f c q a s (λx b=>hm x (by simp[b])) _ _ (Bz o bu e (AQ _)).1.1 (Bz o bu e' (AQ _)).1.1 λk k0 k1 p=>?_
  by_cases i:jn m (gt l k)=n
  .exact⟨λx b=>by rw[i];exact s1 x b,d k k0 k1 U⟩
  .have r:=h k k0 k1 (by simp[i,p]);have y:=r.1 n gP;exact⟨λx b=>r.1 x (by simp[b]),d k k0 k1 U⟩
theorem ajm(hg:iE g)(c:yI g m)(a:qq g l){bu:Int}(b:1<=bu/\bu<=9223372036854775807){v:List gT}(e:v.l=l.l):yZ g l bu (pR m l) v=(zr g l m bu).2.1:=by have h1:=adk hg a b (pR m l) (λp d=>d) (di l.l (2,0)) 0 gP;unfold zr;unfold rep at h1;rw[h1];refine aa1 hg c a b (pH m l) (E7 _) (λn f=>f) _ _ e gP λk k0 k1 h=>?_;exact absurd (RQ.2 ⟨k,k0,k1,rfl⟩) h
end
structure mM where
 ov:Int->Bool
 rs:Int->Int
 nx:List (List Int)
def kE(A:mM)(v:List gT)(i:Int):Prop:=
 (A.ov i=er/\gt v i=(A.rs i,0))\/(A.ov i=ep/\(
  (∃n,1<=n/\gt v i=(1,n)/\(∃k∈gt A.nx i,gt v k=(3,n-1))/\∀k∈gt A.nx i,(gt v k).1=3->n-1<=(gt v k).2) \/
  (∃n,1<=n/\gt v i=(3,n)/\(∀k∈gt A.nx i,(gt v k).1=1/\(gt v k).2<=n-1)/\∃k∈gt A.nx i,(gt v k).2=n-1) \/
  (gt v i=(2,0)/\(∀k∈gt A.nx i,(gt v k).1≠3)/\¬(gt A.nx i≠[]/\∀k∈gt A.nx i,(gt v k).1=1))))
def kE.n0{A:mM}{v:List gT}{i:Int}(h:kE A v i):0<=(gt v i).2:=by rcases h with⟨_,e⟩|⟨_,⟨n,h,e,_⟩|⟨n,h,e,_⟩|⟨e,_⟩⟩<;>rw[e]<;>simp<;>omega
def kE.congr{A:mM}{v v':List gT}{i:Int}(h:kE A v i)(hi:gt v' i=gt v i)(b:∀k∈gt A.nx i,gt v' k=gt v k):kE A v' i:=by
 rcases h with⟨f,c2⟩|⟨f,⟨q,q1,c2,⟨k,c,e⟩,d⟩|⟨q,q1,c2,e,k,c,d⟩|⟨c2,e,d⟩⟩
 .exact .inl ⟨f,by rw[hi];exact c2⟩
 .exact .inr ⟨f,.inl ⟨q,q1,by rw[hi];exact c2,⟨k,c,by rw[b k c];exact e⟩,λp a=>by rw[b p a];exact d p a⟩⟩
 .exact .inr ⟨f,.inr (.inl ⟨q,q1,by rw[hi];exact c2,λp a=>by rw[b p a];exact e p a,k,c,by rw[b k c];exact d⟩)⟩
 .exact .inr ⟨f,.inr (.inr ⟨by rw[hi];exact c2,λp a=>by rw[b p a];exact e p a,λ⟨j,g⟩=>d ⟨j,λp a=>by rw[<-b p a];exact g p a⟩⟩)⟩
section
variable{A:mM}{S:Int->Prop}{v v':List gT}
theorem acQ(hS:∀i,S i->∀k∈gt A.nx i,S k)(h:∀i,S i->kE A v i)(f:∀i,S i->kE A v' i){n:Int}
  (j:∀m:Int,0<=m->m<n->∀i,S i->(gt v i).1≠2->(gt v i).2=m->gt v' i=gt v i) (B:∀m:Int,0<=m->m<n->∀i,S i->(gt v' i).1≠2->(gt v' i).2=m->gt v i=gt v' i) :
  ∀i,S i->(gt v i).1≠2->(gt v i).2=n->gt v' i=gt v i:=λi hi z b=>by
 rcases h i hi with⟨o,e⟩|⟨o,⟨m,h1,e,⟨k,l,c⟩,_⟩|⟨m,h1,e,p,k,l,c⟩|⟨e,_⟩⟩
 .rcases f i hi with⟨_,g⟩|⟨o',_⟩
  .rw[e,g]
  .grind
 .rw[e]at b;dsimp only at b;subst b;have u:=j (m-1) U U k (hS i hi k l) (by rw[c];simp) (by rw[c]);rw[c]at u;rcases f i hi with⟨o',_⟩|⟨_,⟨d,r,g,_,x⟩|⟨d,_,_,s,_⟩|⟨_,t,_⟩⟩
  .grind
  .grind
  .grind
  .grind
 .rw[e]at b;dsimp only at b;subst b;have y:∀q∈gt A.nx i,gt v' q=gt v q:=λq a=>j _ (h q (hS i hi q a)).n0 (by have:=(p q a).2;omega) q (hS i hi q a) (by rw[(p q a).1];simp) rfl;rcases f i hi with⟨o',_⟩|⟨_,⟨d,_,_,⟨q,a,w⟩,_⟩|⟨d,r,g,s,q,a,w⟩|⟨_,_,t⟩⟩
  .grind
  .grind
  .grind
  .grind
 .grind
theorem acR(hS:∀i,S i->∀k∈gt A.nx i,S k)(h:∀i,S i->kE A v i)(b:∀i,S i->kE A v' i):∀i,S i->gt v i=gt v' i:=by
 have key:∀N:Nat,(∀m:Int,0<=m->m<N->∀i,S i->(gt v i).1≠2->(gt v i).2=m->gt v' i=gt v i)/\(∀m:Int,0<=m->m<N->∀i,S i->(gt v' i).1≠2->(gt v' i).2=m->gt v i=gt v' i):=by
  intro N
  induction N with
  | zero=>exact⟨λm _ _=>U,λm _ _=>U⟩
  | succ N a=>
   refine⟨λm m0 m1=>?_,λm m0 m1=>?_⟩
   .exact acQ hS h b (λq q0 q1=>a.1 q q0 U) (λq q0 q1=>a.2 q q0 U)
   .exact acQ hS b h (λq q0 q1=>a.2 q q0 U) (λq q0 q1=>a.1 q q0 U)
 intro i hi;have n0:=(h i hi).n0;have c:=(b i hi).n0
 by_cases e:(gt v i).1=2
 .by_cases d:(gt v' i).1=2
  .refine cZ (by rw[e,d]) ?_
   have z:∀ {w:List gT},kE A w i->(gt w i).1=2->(gt w i).2=0:=λ{w} f g=>by
    rcases f with⟨_,e⟩|⟨_,⟨n,_,e,_⟩|⟨n,_,e,_⟩|⟨e,_⟩⟩
    .rw[e]
    .grind
    .grind
    .rw[e]
   rw[z (h i hi) e,z (b i hi) d]
  .exact(key ((gt v' i).2.n+1)).2 _ c U i hi d rfl
 .exact((key ((gt v i).2.n+1)).1 _ n0 U i hi e rfl).symm
end
noncomputable def jR(g:gY)(l:List Pos)(nx:List (List Int)):mM:=⟨λi=>(stat g (gt l i)).2,λi=>(stat g (gt l i)).1,nx⟩
