/- 19 -/
import Derived.Test.YtmehofoficaelaaGreatDoorV18
set_option linter.all false
open List renaming length→List.l
open Int renaming toNat→Int.n
namespace Go.Proofs.YtmehofoficaelaaGreatDoor
open Go Go.AL Classical
set_option maxRecDepth 10000
set_option maxHeartbeats 8000000
def xE{k:Int}(h:0<=k):upto (k+1).n=upto k.n ++ [k]:=by rw[(U:(k+1).n=k.n+1)];simp only[upto,List.range_succ,List.map_append,List.map_cons,List.map_nil];rw[cd h]
@[simp] theorem azH:upto 0 = []:=rfl
def mh(p:Pos)(k c:Int):List Pos:=if gt (p.hand p.side) k=0\/gt p.cs c≠0 then []else [kr p k c]
def ny(p:Pos)(k:Int):List Pos:=(upto p.cs.l).flatMap (mh p k)
def nc(p:Pos):List Pos:=(upto (p.hand p.side).l).flatMap (ny p)
def MX{g:gq}{p q:Pos}(a:iC g p):q∈nc p↔zk g p q:=by
 have hl:=(a.hand p.side).len;unfold nc ny mh zk;simp only[bJ,jJ];constructor
 .grind
 .grind
def Qb{g:gq}(hg:gR g){p:Pos}(a:iC g p):(nc p).l<=18:=by
 have b:=a.size;have e:=hg.jU.size;have d:=hg.kinds;have hl:=(a.hand p.side).len
 have:(nc p).l<=(upto (p.hand p.side).l).l*9:=Bs λk _=>by
  have:(ny p k).l<=(upto p.cs.l).l*1:=Bs λc _=>by unfold mh;split<;>simp
  simp[upto]at this ⊢;omega
 simp[upto]at this;omega
def ae1(g:gq)(hg:gR g)(p:Pos)(m:iC g p)(e:p.side=0):Wf T 149 [dG g,dP p] [] (Is (dN 5 Pos.cells (kN (nc p)))):=by
 have L:=m.size;have N:=hg.jU.size;have M:=hg.kinds;have C:=m.small hg;have K:=m.h0.len;have J:=m.h1.len;refine Yz zi (ji 68 [1005] (ji 62 [2039] zi.body)) ?_;simp[zi,ji,kK,nq,nA,nR,mm,e];refine gx.e ((0,[]):Int×List Pos) (λy=>[(3,.ptr 1 0 0),(5,if y.2 = []then .gi else .gf 2 (y.2.l-1) 5 0 y.2.l),(15,dI p.h0),(16,.i p.h0.l),(17,.i y.1)]) (λy=>[.row 43 0 g.cells,.row 46 0 p.cells]++(if y.2 = []then []else [.row 46 (y.2.l-1) (cl Pos.cells y.2)])) (λy=>0<=y.1/\y.1<=p.h0.l/\y.2=(upto y.1.n).flatMap (ny p)/\y.2.l<=9*y.1.n) (λy=>(p.h0.l-y.1).n) ?_ ?_
 .simp
 rintro⟨k,out⟩ ⟨k0,k1,k2,k3⟩;dsimp only at k0 k1 k2 k3 ⊢
 by_cases hi:k<p.h0.l
 .by_cases i:out = []
  .subst i;rw[if_pos rfl,if_pos rfl];simp[hi];refine gh ?_;refine gx.e ((0,[]):Int×List Pos) (λy=>[(3,.ptr 1 0 0),(5,if y.2 = []then .gi else .gf 2 (y.2.l-1) 5 0 y.2.l),(6,.i k),(7,.i (gt p.h0 k)),(15,dI p.h0),(16,.i p.h0.l),(17,.i k),(23,dI p.cs),(24,.i p.cs.l),(25,.i y.1)]) (λy=>[.row 43 0 g.cells,.row 46 0 p.cells]++(if y.2 = []then []else [.row 46 (y.2.l-1) (cl Pos.cells y.2)])) (λy=>0<=y.1/\y.1<=p.cs.l/\y.2=(upto k.n).flatMap (ny p)++(upto y.1.n).flatMap (mh p k)/\y.2.l<=9*k.n+y.1.n) (λy=>(p.cs.l-y.1).n) ?_ ?_
   .exact⟨U,U,by dsimp only;simp[<-k2],gJ⟩
   rintro⟨c,o⟩ ⟨u,E,c2,d⟩;dsimp only at u E c2 d ⊢
   by_cases r:c<p.cs.l
   .have D:(upto k.n).flatMap (ny p)++(upto (c+1).n).flatMap (mh p k)=o++mh p k c:=by rw[xE u,bK,<-aL,<-c2];simp
    have j:∀w,mh p k c=w->o++w=(upto k.n).flatMap (ny p)++(upto (c+1).n).flatMap (mh p k):=λw h=>by rw[D,h]
    have t:mh p k c=if gt p.h0 k=0\/gt p.cs c≠0 then []else [kr p k c]:=by simp[mh,Pos.hand,e]
    by_cases a:o = []
    .subst a;rw[if_pos rfl,if_pos rfl];simp[r]
     by_cases b:gt p.h0 k=0
     .simp[b];refine gh ?_;refine LJ.i (c+1,[]) (by first|rfl|simp[b]) (by first|rfl|simp[b]) rfl rfl ?_;have:=j [] (by rw[t,if_pos (.inl b)]);rw[aB]at this;exact gX ⟨this,by dsimp only at d ⊢;omega⟩
     .by_cases f:gt p.cs c=0
      .simp[b,f];refine gh ?_;refine Yn (f91 { p:=p,kind:=0,cur:=0,jY:=false } C gJ) ?_;simp;refine gh ?_;refine Yt (f92 (k:=k) (s:=p.side) k0 U U U) ?_;simp;have G:=m.h0.at_ k k0 hi;have q0:=iW (l:=p.cs) (n:=c) (v:=1+2*k) u r;have q1:=iW (l:=p.h0) (n:=k) (v:=gt p.h0 k-1) k0 hi;simp[e,q0,q1];refine kP q0 q1 ?_;refine LJ.i (c+1,[kr p k c]) (by first|rfl|simp[je,kr,Pos.hand,Pos.mZ,l5,e]) (by first|rfl|simp[je,kr,Pos.hand,Pos.mZ,l5,e]) rfl rfl ?_;have:=j [kr p k c] (by rw[t,if_neg (by simp[b,f])]);exact gX ⟨this,by dsimp only at d ⊢;simp;omega⟩
      .simp[b,f];refine gh ?_;refine LJ.e (c+1,[]) ?_;have:=j [] (by rw[t,if_pos (.inr f)]);rw[aB]at this;exact gX ⟨this,by dsimp only at d ⊢;omega⟩
    .have A:o.l-1+1=o.l:=by have:=ay.2 a;omega
     rw[if_neg a,if_neg a];simp[r]
     by_cases b:gt p.h0 k=0
     .simp[b];refine gh ?_;refine LJ.i (c+1,o) (by first|rfl|simp[b,a]) (by first|rfl|simp[b,a]) rfl rfl ?_;have:=j [] (by rw[t,if_pos (.inl b)]);rw[aB]at this;exact gX ⟨this,by dsimp only at d ⊢;omega⟩
     .by_cases f:gt p.cs c=0
      .simp[b,f];refine gh ?_;refine Yn (f91 { p:=p,kind:=0,cur:=0,jY:=false } C gJ) ?_;simp;refine gh ?_;refine Yt (f92 (k:=k) (s:=p.side) k0 U U U) ?_;simp;have G:=m.h0.at_ k k0 hi;have q0:=iW (l:=p.cs) (n:=c) (v:=1+2*k) u r;have q1:=iW (l:=p.h0) (n:=k) (v:=gt p.h0 k-1) k0 hi;simp[e,q0,q1];refine kP q0 q1 ?_;skip;refine LJ.i (c+1,o ++ [kr p k c]) (by first|rfl|simp[a,A,kr,Pos.hand,Pos.mZ,l5,e]) (by first|rfl|simp[a,A,kr,Pos.hand,Pos.mZ,l5,e]) rfl rfl ?_;have:=j [kr p k c] (by rw[t,if_neg (by simp[b,f])]);exact gX ⟨this,by dsimp only at d ⊢;simp;omega⟩
      .simp[b,f];refine gh ?_;refine LJ.i (c+1,o) (by first|rfl|simp[a]) (by first|rfl|simp[a]) rfl rfl ?_;have:=j [] (by rw[t,if_pos (.inr f)]);rw[aB]at this;exact gX ⟨this,by dsimp only at d ⊢;omega⟩
   .have z:(upto (k+1).n).flatMap (ny p)=o:=by rw[c2,xE k0,bK,(U:c.n=p.cs.l)];simp[ny]
    by_cases a:o = []
    .rw[if_pos a,if_pos a];simp[r];refine gh ?_;refine LJ.i (k+1,o) (by first|rfl|simp[a]) (by first|rfl|simp[a]) rfl rfl ?_;exact gX ⟨z.symm,by dsimp only at d ⊢;omega⟩
    .rw[if_neg a,if_neg a];simp[r];refine gh ?_;refine LJ.i (k+1,o) (by first|rfl|simp[a]) (by first|rfl|simp[a]) rfl rfl ?_;exact gX ⟨z.symm,by dsimp only at d ⊢;omega⟩
  .rw[if_neg i,if_neg i];simp[hi];refine gh ?_;refine gx.e ((0,out):Int×List Pos) (λy=>[(3,.ptr 1 0 0),(5,.gf 2 (y.2.l-1) 5 0 y.2.l),(6,.i k),(7,.i (gt p.h0 k)),(15,dI p.h0),(16,.i p.h0.l),(17,.i k),(23,dI p.cs),(24,.i p.cs.l),(25,.i y.1)]) (λy=>[.row 43 0 g.cells,.row 46 0 p.cells,.row 46 (y.2.l-1) (cl Pos.cells y.2)]) (λy=>0<=y.1/\y.1<=p.cs.l/\y.2=(upto k.n).flatMap (ny p)++(upto y.1.n).flatMap (mh p k)/\y.2≠[]/\y.2.l<=9*k.n+y.1.n) (λy=>(p.cs.l-y.1).n) ?_ ?_
   .exact⟨U,U,by dsimp only;rw[k2];simp,i,gJ⟩
   rintro⟨c,o⟩ ⟨u,E,c2,B,d⟩;dsimp only at u E c2 d ⊢
   by_cases r:c<p.cs.l
   .have D:(upto k.n).flatMap (ny p)++(upto (c+1).n).flatMap (mh p k)=o++mh p k c:=by rw[xE u,bK,<-aL,<-c2];simp
    have j:∀w,mh p k c=w->o++w=(upto k.n).flatMap (ny p)++(upto (c+1).n).flatMap (mh p k):=λw h=>by rw[D,h]
    have t:mh p k c=if gt p.h0 k=0\/gt p.cs c≠0 then []else [kr p k c]:=by simp[mh,Pos.hand,e]
    have a:o≠[]:=B;have A:o.l-1+1=o.l:=by have:=ay.2 a;omega
    simp[r]
    by_cases b:gt p.h0 k=0
    .simp[b];refine gh ?_;refine LJ.i (c+1,o) (by first|rfl|simp[b,a]) (by first|rfl|simp[b,a]) rfl rfl ?_;have:=j [] (by rw[t,if_pos (.inl b)]);rw[aB]at this;exact gX ⟨this,B,by dsimp only at d ⊢;omega⟩
    .by_cases f:gt p.cs c=0
     .simp[b,f];refine gh ?_;refine Yn (f91 { p:=p,kind:=0,cur:=0,jY:=false } C gJ) ?_;simp;refine gh ?_;refine Yt (f92 (k:=k) (s:=p.side) k0 U U U) ?_;simp;have G:=m.h0.at_ k k0 hi;have q0:=iW (l:=p.cs) (n:=c) (v:=1+2*k) u r;have q1:=iW (l:=p.h0) (n:=k) (v:=gt p.h0 k-1) k0 hi;simp[e,q0,q1];refine kP q0 q1 ?_;skip;refine LJ.i (c+1,o ++ [kr p k c]) (by first|rfl|simp[a,A,kr,Pos.hand,Pos.mZ,l5,e]) (by first|rfl|simp[a,A,kr,Pos.hand,Pos.mZ,l5,e]) rfl rfl ?_;have:=j [kr p k c] (by rw[t,if_neg (by simp[b,f])]);exact⟨gJ,gJ,gJ,this,fZ,by dsimp only at d ⊢;simp;omega⟩
     .simp[b,f];refine gh ?_;refine LJ.i (c+1,o) (by first|rfl|simp[a]) (by first|rfl|simp[a]) rfl rfl ?_;have:=j [] (by rw[t,if_pos (.inr f)]);rw[aB]at this;exact gX ⟨this,B,by dsimp only at d ⊢;omega⟩
   .have z:(upto (k+1).n).flatMap (ny p)=o:=by rw[c2,xE k0,bK,(U:c.n=p.cs.l)];simp[ny]
    have a:o≠[]:=B;simp[r];refine gh ?_;refine LJ.i (k+1,o) (by first|rfl|simp[a]) (by first|rfl|simp[a]) rfl rfl ?_;exact gX ⟨z.symm,by dsimp only at d ⊢;omega⟩
 .have z:out=nc p:=by rw[k2,nc,show k.n=(p.hand p.side).l by simp[Pos.hand,e];omega]
  have I:∀q∈out,Small q:=λq F=>by rw[z,MX m]at F;exact(Gu m F).small hg
  have H:=Qb hg m;rw[<-z]at H ⊢
  by_cases i:out = []
  .rw[if_pos i,if_pos i];simp[hi];refine gy.c rfl rfl (f48 [] fZ fZ) rfl fZ ?_;simp[i]
  .rw[if_neg i,if_neg i];simp[hi];refine gy.c (x:=dN 5 Pos.cells (kN out)) rfl rfl (by rw[wY i];exact f48 out I U) fZ fZ ?_;simp
def ae2(g:gq)(hg:gR g)(p:Pos)(m:iC g p)(e:p.side=1):Wf T 149 [dG g,dP p] [] (Is (dN 5 Pos.cells (kN (nc p)))):=by
 have L:=m.size;have N:=hg.jU.size;have M:=hg.kinds;have C:=m.small hg;have K:=m.h0.len;have J:=m.h1.len;refine Yz zi (ji 68 [1005] (ji 62 [2039] zi.body)) ?_;simp[zi,ji,kK,nq,nA,nR,mm,e];refine gx.e ((0,[]):Int×List Pos) (λy=>[(3,.ptr 1 0 0),(5,if y.2 = []then .gi else .gf 2 (y.2.l-1) 5 0 y.2.l),(15,dI p.h1),(16,.i p.h1.l),(17,.i y.1)]) (λy=>[.row 43 0 g.cells,.row 46 0 p.cells]++(if y.2 = []then []else [.row 46 (y.2.l-1) (cl Pos.cells y.2)])) (λy=>0<=y.1/\y.1<=p.h1.l/\y.2=(upto y.1.n).flatMap (ny p)/\y.2.l<=9*y.1.n) (λy=>(p.h1.l-y.1).n) ?_ ?_
 .simp
 rintro⟨k,out⟩ ⟨k0,k1,k2,k3⟩;dsimp only at k0 k1 k2 k3 ⊢
 by_cases hi:k<p.h1.l
 .by_cases i:out = []
  .subst i;rw[if_pos rfl,if_pos rfl];simp[hi];refine gh ?_;refine gx.e ((0,[]):Int×List Pos) (λy=>[(3,.ptr 1 0 0),(5,if y.2 = []then .gi else .gf 2 (y.2.l-1) 5 0 y.2.l),(6,.i k),(7,.i (gt p.h1 k)),(15,dI p.h1),(16,.i p.h1.l),(17,.i k),(23,dI p.cs),(24,.i p.cs.l),(25,.i y.1)]) (λy=>[.row 43 0 g.cells,.row 46 0 p.cells]++(if y.2 = []then []else [.row 46 (y.2.l-1) (cl Pos.cells y.2)])) (λy=>0<=y.1/\y.1<=p.cs.l/\y.2=(upto k.n).flatMap (ny p)++(upto y.1.n).flatMap (mh p k)/\y.2.l<=9*k.n+y.1.n) (λy=>(p.cs.l-y.1).n) ?_ ?_
   .exact⟨U,U,by dsimp only;simp[<-k2],gJ⟩
   rintro⟨c,o⟩ ⟨u,E,c2,d⟩;dsimp only at u E c2 d ⊢
   by_cases r:c<p.cs.l
   .have D:(upto k.n).flatMap (ny p)++(upto (c+1).n).flatMap (mh p k)=o++mh p k c:=by rw[xE u,bK,<-aL,<-c2];simp
    have j:∀w,mh p k c=w->o++w=(upto k.n).flatMap (ny p)++(upto (c+1).n).flatMap (mh p k):=λw h=>by rw[D,h]
    have t:mh p k c=if gt p.h1 k=0\/gt p.cs c≠0 then []else [kr p k c]:=by simp[mh,Pos.hand,e]
    by_cases a:o = []
    .subst a;rw[if_pos rfl,if_pos rfl];simp[r]
     by_cases b:gt p.h1 k=0
     .simp[b];refine gh ?_;refine LJ.i (c+1,[]) (by first|rfl|simp[b]) (by first|rfl|simp[b]) rfl rfl ?_;have:=j [] (by rw[t,if_pos (.inl b)]);rw[aB]at this;exact gX ⟨this,by dsimp only at d ⊢;omega⟩
     .by_cases f:gt p.cs c=0
      .simp[b,f];refine gh ?_;refine Yn (f91 { p:=p,kind:=0,cur:=0,jY:=false } C gJ) ?_;simp;refine gh ?_;refine Yt (f92 (k:=k) (s:=p.side) k0 U U U) ?_;simp;have G:=m.h1.at_ k k0 hi;have q0:=iW (l:=p.cs) (n:=c) (v:=1+2*k+1) u r;have q1:=iW (l:=p.h1) (n:=k) (v:=gt p.h1 k-1) k0 hi;simp[e,q0,q1];refine kP q0 q1 ?_;refine LJ.i (c+1,[kr p k c]) (by first|rfl|simp[je,kr,Pos.hand,Pos.mZ,l5,e]) (by first|rfl|simp[je,kr,Pos.hand,Pos.mZ,l5,e]) rfl rfl ?_;have:=j [kr p k c] (by rw[t,if_neg (by simp[b,f])]);exact gX ⟨this,by dsimp only at d ⊢;simp;omega⟩
      .simp[b,f];refine gh ?_;refine LJ.e (c+1,[]) ?_;have:=j [] (by rw[t,if_pos (.inr f)]);rw[aB]at this;exact gX ⟨this,by dsimp only at d ⊢;omega⟩
    .have A:o.l-1+1=o.l:=by have:=ay.2 a;omega
     rw[if_neg a,if_neg a];simp[r]
     by_cases b:gt p.h1 k=0
     .simp[b];refine gh ?_;refine LJ.i (c+1,o) (by first|rfl|simp[b,a]) (by first|rfl|simp[b,a]) rfl rfl ?_;have:=j [] (by rw[t,if_pos (.inl b)]);rw[aB]at this;exact gX ⟨this,by dsimp only at d ⊢;omega⟩
     .by_cases f:gt p.cs c=0
      .simp[b,f];refine gh ?_;refine Yn (f91 { p:=p,kind:=0,cur:=0,jY:=false } C gJ) ?_;simp;refine gh ?_;refine Yt (f92 (k:=k) (s:=p.side) k0 U U U) ?_;simp;have G:=m.h1.at_ k k0 hi;have q0:=iW (l:=p.cs) (n:=c) (v:=1+2*k+1) u r;have q1:=iW (l:=p.h1) (n:=k) (v:=gt p.h1 k-1) k0 hi;simp[e,q0,q1];refine kP q0 q1 ?_;skip;refine LJ.i (c+1,o ++ [kr p k c]) (by first|rfl|simp[a,A,kr,Pos.hand,Pos.mZ,l5,e]) (by first|rfl|simp[a,A,kr,Pos.hand,Pos.mZ,l5,e]) rfl rfl ?_;have:=j [kr p k c] (by rw[t,if_neg (by simp[b,f])]);exact gX ⟨this,by dsimp only at d ⊢;simp;omega⟩
      .simp[b,f];refine gh ?_;refine LJ.i (c+1,o) (by first|rfl|simp[a]) (by first|rfl|simp[a]) rfl rfl ?_;have:=j [] (by rw[t,if_pos (.inr f)]);rw[aB]at this;exact gX ⟨this,by dsimp only at d ⊢;omega⟩
   .have z:(upto (k+1).n).flatMap (ny p)=o:=by rw[c2,xE k0,bK,(U:c.n=p.cs.l)];simp[ny]
    by_cases a:o = []
    .rw[if_pos a,if_pos a];simp[r];refine gh ?_;refine LJ.i (k+1,o) (by first|rfl|simp[a]) (by first|rfl|simp[a]) rfl rfl ?_;exact gX ⟨z.symm,by dsimp only at d ⊢;omega⟩
    .rw[if_neg a,if_neg a];simp[r];refine gh ?_;refine LJ.i (k+1,o) (by first|rfl|simp[a]) (by first|rfl|simp[a]) rfl rfl ?_;exact gX ⟨z.symm,by dsimp only at d ⊢;omega⟩
  .rw[if_neg i,if_neg i];simp[hi];refine gh ?_;refine gx.e ((0,out):Int×List Pos) (λy=>[(3,.ptr 1 0 0),(5,.gf 2 (y.2.l-1) 5 0 y.2.l),(6,.i k),(7,.i (gt p.h1 k)),(15,dI p.h1),(16,.i p.h1.l),(17,.i k),(23,dI p.cs),(24,.i p.cs.l),(25,.i y.1)]) (λy=>[.row 43 0 g.cells,.row 46 0 p.cells,.row 46 (y.2.l-1) (cl Pos.cells y.2)]) (λy=>0<=y.1/\y.1<=p.cs.l/\y.2=(upto k.n).flatMap (ny p)++(upto y.1.n).flatMap (mh p k)/\y.2≠[]/\y.2.l<=9*k.n+y.1.n) (λy=>(p.cs.l-y.1).n) ?_ ?_
   .exact⟨U,U,by dsimp only;rw[k2];simp,i,gJ⟩
   rintro⟨c,o⟩ ⟨u,E,c2,B,d⟩;dsimp only at u E c2 d ⊢
   by_cases r:c<p.cs.l
   .have D:(upto k.n).flatMap (ny p)++(upto (c+1).n).flatMap (mh p k)=o++mh p k c:=by rw[xE u,bK,<-aL,<-c2];simp
    have j:∀w,mh p k c=w->o++w=(upto k.n).flatMap (ny p)++(upto (c+1).n).flatMap (mh p k):=λw h=>by rw[D,h]
    have t:mh p k c=if gt p.h1 k=0\/gt p.cs c≠0 then []else [kr p k c]:=by simp[mh,Pos.hand,e]
    have a:o≠[]:=B;have A:o.l-1+1=o.l:=by have:=ay.2 a;omega
    simp[r]
    by_cases b:gt p.h1 k=0
    .simp[b];refine gh ?_;refine LJ.i (c+1,o) (by first|rfl|simp[b,a]) (by first|rfl|simp[b,a]) rfl rfl ?_;have:=j [] (by rw[t,if_pos (.inl b)]);rw[aB]at this;exact gX ⟨this,B,by dsimp only at d ⊢;omega⟩
    .by_cases f:gt p.cs c=0
     .simp[b,f];refine gh ?_;refine Yn (f91 { p:=p,kind:=0,cur:=0,jY:=false } C gJ) ?_;simp;refine gh ?_;refine Yt (f92 (k:=k) (s:=p.side) k0 U U U) ?_;simp;have G:=m.h1.at_ k k0 hi;have q0:=iW (l:=p.cs) (n:=c) (v:=1+2*k+1) u r;have q1:=iW (l:=p.h1) (n:=k) (v:=gt p.h1 k-1) k0 hi;simp[e,q0,q1];refine kP q0 q1 ?_;skip;refine LJ.i (c+1,o ++ [kr p k c]) (by first|rfl|simp[a,A,kr,Pos.hand,Pos.mZ,l5,e]) (by first|rfl|simp[a,A,kr,Pos.hand,Pos.mZ,l5,e]) rfl rfl ?_;have:=j [kr p k c] (by rw[t,if_neg (by simp[b,f])]);exact⟨gJ,gJ,gJ,this,fZ,by dsimp only at d ⊢;simp;omega⟩
     .simp[b,f];refine gh ?_;refine LJ.i (c+1,o) (by first|rfl|simp[a]) (by first|rfl|simp[a]) rfl rfl ?_;have:=j [] (by rw[t,if_pos (.inr f)]);rw[aB]at this;exact gX ⟨this,B,by dsimp only at d ⊢;omega⟩
   .have z:(upto (k+1).n).flatMap (ny p)=o:=by rw[c2,xE k0,bK,(U:c.n=p.cs.l)];simp[ny]
    have a:o≠[]:=B;simp[r];refine gh ?_;refine LJ.i (k+1,o) (by first|rfl|simp[a]) (by first|rfl|simp[a]) rfl rfl ?_;exact gX ⟨z.symm,by dsimp only at d ⊢;omega⟩
 .have z:out=nc p:=by rw[k2,nc,show k.n=(p.hand p.side).l by simp[Pos.hand,e];omega]
  have I:∀q∈out,Small q:=λq F=>by rw[z,MX m]at F;exact(Gu m F).small hg
  have H:=Qb hg m;rw[<-z]at H ⊢
  by_cases i:out = []
  .rw[if_pos i,if_pos i];simp[hi];refine gy.c rfl rfl (f48 [] fZ fZ) rfl fZ ?_;simp[i]
  .rw[if_neg i,if_neg i];simp[hi];refine gy.c (x:=dN 5 Pos.cells (kN out)) rfl rfl (by rw[wY i];exact f48 out I U) fZ fZ ?_;simp
def f49(g:gq)(hg:gR g)(p:Pos)(a:iC g p):Wf T 149 [dG g,dP p] [] (Is (dN 5 Pos.cells (kN (nc p)))):=by
 have:=a.side;rcases(U:p.side=0\/p.side=1)with e|e
 .exact ae1 g hg p a e
 .exact ae2 g hg p a e
