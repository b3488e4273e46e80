/- 19 -/
import Derived.Test.YtmehofoficaelaaGreatDoorP18
set_option linter.all false
open List renaming length→List.l
open Int renaming toNat→Int.n
namespace Go.Proofs.YtmehofoficaelaaGreatDoor
open Go Go.AL Classical
set_option maxRecDepth 10000
set_option maxHeartbeats 8000000
def yz{k:Int}(h:0<=k):upto (k+1).n=upto k.n ++ [k]:=by rw[(U:(k+1).n=k.n+1)];simp only[upto,gD,List.map_append,List.map_cons,List.map_nil];rw[Int.toNat_of_nonneg h]
@[simp] theorem aE8:upto 0 = []:=rfl
def nq(p:Pos)(k c:Int):List Pos:=if gt (p.hand p.side) k=0\/gt p.cs c≠0 then []else [lx p k c]
def pb(p:Pos)(k:Int):List Pos:=(upto p.cs.l).flatMap (nq p k)
def oU(p:Pos):List Pos:=(upto (p.hand p.side).l).flatMap (pb p)
def P'{g:gY}{p q:Pos}(a:ja g p):q∈oU p↔zI g p q:=by
 have hl:=(a.hand p.side).len;unfold oU pb nq zI;simp only[bG,l8];constructor
 .grind
 .grind
def TK{g:gY}(hg:iE g){p:Pos}(a:ja g p):(oU p).l<=18:=by
 have b:=a.size;have e:=hg.kC.size;have d:=hg.kinds;have hl:=(a.hand p.side).len
 have:(oU p).l<=(upto (p.hand p.side).l).l*9:=Dv λk _=>by
  have:(pb p k).l<=(upto p.cs.l).l*1:=Dv λc _=>by unfold nq;split<;>simp
  simp[upto]at this ⊢;omega
 simp[upto]at this;omega
def ai9(g:gY)(hg:iE g)(p:Pos)(m:ja g p)(e:p.side=0):Wf T 149 [dG g,dP p] [] (Is (dN 5 Pos.cells (lY (oU p)))):=by
 have L:=m.size;have N:=hg.kC.size;have M:=hg.kinds;have C:=m.small hg;have K:=m.h0.len;have J:=m.h1.len;refine Yz Bc (jY 68 [1005] (jY 62 [2039] Bc.body)) ?_;simp[Bc,jY,lV,po,py,pY,nQ,e];refine gZ.e ((0,[]):Int×List Pos) (λy=>[(3,.ptr 1 0 0),(5,if y.2 = []then .gV else .gR 2 (y.2.l-1) 5 0 y.2.l),(15,dI p.h0),(16,.i p.h0.l),(17,.i y.1)]) (λy=>[.row 43 0 g.cells,.row 46 0 p.cells]++(if y.2 = []then []else [.row 46 (y.2.l-1) (cl Pos.cells y.2)])) (λy=>0<=y.1/\y.1<=p.h0.l/\y.2=(upto y.1.n).flatMap (pb p)/\y.2.l<=9*y.1.n) (λy=>(p.h0.l-y.1).n) ?_ ?_
 .simp
 rintro⟨k,out⟩ ⟨k0,k1,k2,k3⟩;dsimp only at k0 k1 k2 k3 ⊢
 by_cases hi:k<p.h0.l
 .by_cases i:out = []
  .subst i;rw[if_pos rfl,if_pos rfl];simp[hi];refine gU ?_;refine gZ.e ((0,[]):Int×List Pos) (λy=>[(3,.ptr 1 0 0),(5,if y.2 = []then .gV else .gR 2 (y.2.l-1) 5 0 y.2.l),(6,.i k),(7,.i (gt p.h0 k)),(15,dI p.h0),(16,.i p.h0.l),(17,.i k),(23,dI p.cs),(24,.i p.cs.l),(25,.i y.1)]) (λy=>[.row 43 0 g.cells,.row 46 0 p.cells]++(if y.2 = []then []else [.row 46 (y.2.l-1) (cl Pos.cells y.2)])) (λy=>0<=y.1/\y.1<=p.cs.l/\y.2=(upto k.n).flatMap (pb p)++(upto y.1.n).flatMap (nq p k)/\y.2.l<=9*k.n+y.1.n) (λy=>(p.cs.l-y.1).n) ?_ ?_
   .exact⟨U,U,by dsimp only;simp[<-k2],iv⟩
   rintro⟨c,o⟩ ⟨u,E,c2,d⟩;dsimp only at u E c2 d ⊢
   by_cases r:c<p.cs.l
   .have D:(upto k.n).flatMap (pb p)++(upto (c+1).n).flatMap (nq p k)=o++nq p k c:=by rw[yz u,cd,<-aO,<-c2];simp
    have j:∀w,nq p k c=w->o++w=(upto k.n).flatMap (pb p)++(upto (c+1).n).flatMap (nq p k):=λw h=>by rw[D,h]
    have t:nq p k c=if gt p.h0 k=0\/gt p.cs c≠0 then []else [lx p k c]:=by simp[nq,Pos.hand,e]
    by_cases a:o = []
    .subst a;rw[if_pos rfl,if_pos rfl];simp[r]
     by_cases b:gt p.h0 k=0
     .simp[b];refine gU ?_;refine LJ.i (c+1,[]) (by first|rfl|simp[b]) (by first|rfl|simp[b]) rfl rfl ?_;have:=j [] (by rw[t,if_pos (.inl b)]);rw[az]at this;exact iQ ⟨this,by dsimp only at d ⊢;omega⟩
     .by_cases f:gt p.cs c=0
      .simp[b,f];refine gU ?_;refine Yn (f91 { p:=p,kind:=0,cur:=0,kP:=false } C iv) ?_;simp;refine gU ?_;refine Yt (f92 (k:=k) (s:=p.side) k0 U U U) ?_;simp;have G:=m.h0.at_ k k0 hi;have q0:=jy (l:=p.cs) (n:=c) (v:=1+2*k) u r;have q1:=jy (l:=p.h0) (n:=k) (v:=gt p.h0 k-1) k0 hi;simp[e,q0,q1];refine ko q0 q1 ?_;refine LJ.i (c+1,[lx p k c]) (by first|rfl|simp[jw,lx,Pos.hand,Pos.mW,lQ,e]) (by first|rfl|simp[jw,lx,Pos.hand,Pos.mW,lQ,e]) rfl rfl ?_;have:=j [lx p k c] (by rw[t,if_neg (by simp[b,f])]);exact iQ ⟨this,by dsimp only at d ⊢;simp;omega⟩
      .simp[b,f];refine gU ?_;refine LJ.e (c+1,[]) ?_;have:=j [] (by rw[t,if_pos (.inr f)]);rw[az]at this;exact iQ ⟨this,by dsimp only at d ⊢;omega⟩
    .have A:o.l-1+1=o.l:=by have:=ay.2 a;omega
     rw[if_neg a,if_neg a];simp[r]
     by_cases b:gt p.h0 k=0
     .simp[b];refine gU ?_;refine LJ.i (c+1,o) (by first|rfl|simp[b,a]) (by first|rfl|simp[b,a]) rfl rfl ?_;have:=j [] (by rw[t,if_pos (.inl b)]);rw[az]at this;exact iQ ⟨this,by dsimp only at d ⊢;omega⟩
     .by_cases f:gt p.cs c=0
      .simp[b,f];refine gU ?_;refine Yn (f91 { p:=p,kind:=0,cur:=0,kP:=false } C iv) ?_;simp;refine gU ?_;refine Yt (f92 (k:=k) (s:=p.side) k0 U U U) ?_;simp;have G:=m.h0.at_ k k0 hi;have q0:=jy (l:=p.cs) (n:=c) (v:=1+2*k) u r;have q1:=jy (l:=p.h0) (n:=k) (v:=gt p.h0 k-1) k0 hi;simp[e,q0,q1];refine ko q0 q1 ?_;skip;refine LJ.i (c+1,o ++ [lx p k c]) (by first|rfl|simp[a,A,lx,Pos.hand,Pos.mW,lQ,e]) (by first|rfl|simp[a,A,lx,Pos.hand,Pos.mW,lQ,e]) rfl rfl ?_;have:=j [lx p k c] (by rw[t,if_neg (by simp[b,f])]);exact iQ ⟨this,by dsimp only at d ⊢;simp;omega⟩
      .simp[b,f];refine gU ?_;refine LJ.i (c+1,o) (by first|rfl|simp[a]) (by first|rfl|simp[a]) rfl rfl ?_;have:=j [] (by rw[t,if_pos (.inr f)]);rw[az]at this;exact iQ ⟨this,by dsimp only at d ⊢;omega⟩
   .have z:(upto (k+1).n).flatMap (pb p)=o:=by rw[c2,yz k0,cd,(U:c.n=p.cs.l)];simp[pb]
    by_cases a:o = []
    .rw[if_pos a,if_pos a];simp[r];refine gU ?_;refine LJ.i (k+1,o) (by first|rfl|simp[a]) (by first|rfl|simp[a]) rfl rfl ?_;exact iQ ⟨z.symm,by dsimp only at d ⊢;omega⟩
    .rw[if_neg a,if_neg a];simp[r];refine gU ?_;refine LJ.i (k+1,o) (by first|rfl|simp[a]) (by first|rfl|simp[a]) rfl rfl ?_;exact iQ ⟨z.symm,by dsimp only at d ⊢;omega⟩
  .rw[if_neg i,if_neg i];simp[hi];refine gU ?_;refine gZ.e ((0,out):Int×List Pos) (λy=>[(3,.ptr 1 0 0),(5,.gR 2 (y.2.l-1) 5 0 y.2.l),(6,.i k),(7,.i (gt p.h0 k)),(15,dI p.h0),(16,.i p.h0.l),(17,.i k),(23,dI p.cs),(24,.i p.cs.l),(25,.i y.1)]) (λy=>[.row 43 0 g.cells,.row 46 0 p.cells,.row 46 (y.2.l-1) (cl Pos.cells y.2)]) (λy=>0<=y.1/\y.1<=p.cs.l/\y.2=(upto k.n).flatMap (pb p)++(upto y.1.n).flatMap (nq p k)/\y.2≠[]/\y.2.l<=9*k.n+y.1.n) (λy=>(p.cs.l-y.1).n) ?_ ?_
   .exact⟨U,U,by dsimp only;rw[k2];simp,i,iv⟩
   rintro⟨c,o⟩ ⟨u,E,c2,B,d⟩;dsimp only at u E c2 d ⊢
   by_cases r:c<p.cs.l
   .have D:(upto k.n).flatMap (pb p)++(upto (c+1).n).flatMap (nq p k)=o++nq p k c:=by rw[yz u,cd,<-aO,<-c2];simp
    have j:∀w,nq p k c=w->o++w=(upto k.n).flatMap (pb p)++(upto (c+1).n).flatMap (nq p k):=λw h=>by rw[D,h]
    have t:nq p k c=if gt p.h0 k=0\/gt p.cs c≠0 then []else [lx p k c]:=by simp[nq,Pos.hand,e]
    have a:o≠[]:=B;have A:o.l-1+1=o.l:=by have:=ay.2 a;omega
    simp[r]
    by_cases b:gt p.h0 k=0
    .simp[b];refine gU ?_;refine LJ.i (c+1,o) (by first|rfl|simp[b,a]) (by first|rfl|simp[b,a]) rfl rfl ?_;have:=j [] (by rw[t,if_pos (.inl b)]);rw[az]at this;exact iQ ⟨this,B,by dsimp only at d ⊢;omega⟩
    .by_cases f:gt p.cs c=0
     .simp[b,f];refine gU ?_;refine Yn (f91 { p:=p,kind:=0,cur:=0,kP:=false } C iv) ?_;simp;refine gU ?_;refine Yt (f92 (k:=k) (s:=p.side) k0 U U U) ?_;simp;have G:=m.h0.at_ k k0 hi;have q0:=jy (l:=p.cs) (n:=c) (v:=1+2*k) u r;have q1:=jy (l:=p.h0) (n:=k) (v:=gt p.h0 k-1) k0 hi;simp[e,q0,q1];refine ko q0 q1 ?_;skip;refine LJ.i (c+1,o ++ [lx p k c]) (by first|rfl|simp[a,A,lx,Pos.hand,Pos.mW,lQ,e]) (by first|rfl|simp[a,A,lx,Pos.hand,Pos.mW,lQ,e]) rfl rfl ?_;have:=j [lx p k c] (by rw[t,if_neg (by simp[b,f])]);exact⟨iv,iv,iv,this,gP,by dsimp only at d ⊢;simp;omega⟩
     .simp[b,f];refine gU ?_;refine LJ.i (c+1,o) (by first|rfl|simp[a]) (by first|rfl|simp[a]) rfl rfl ?_;have:=j [] (by rw[t,if_pos (.inr f)]);rw[az]at this;exact iQ ⟨this,B,by dsimp only at d ⊢;omega⟩
   .have z:(upto (k+1).n).flatMap (pb p)=o:=by rw[c2,yz k0,cd,(U:c.n=p.cs.l)];simp[pb]
    have a:o≠[]:=B;simp[r];refine gU ?_;refine LJ.i (k+1,o) (by first|rfl|simp[a]) (by first|rfl|simp[a]) rfl rfl ?_;exact iQ ⟨z.symm,by dsimp only at d ⊢;omega⟩
 .have z:out=oU p:=by rw[k2,oU,show k.n=(p.hand p.side).l by simp[Pos.hand,e];omega]
  have H:∀q∈out,Small q:=λq F=>by rw[z,P' m]at F;exact(Jt m F).small hg
  have I:=TK hg m;rw[<-z]at I ⊢
  by_cases i:out = []
  .rw[if_pos i,if_pos i];simp[hi];refine ik.c rfl rfl (f48 [] gP gP) rfl gP ?_;simp[i]
  .rw[if_neg i,if_neg i];simp[hi];refine ik.c (x:=dN 5 Pos.cells (lY out)) rfl rfl (by rw[yU i];exact f48 out H U) gP gP ?_;simp
def aja(g:gY)(hg:iE g)(p:Pos)(m:ja g p)(e:p.side=1):Wf T 149 [dG g,dP p] [] (Is (dN 5 Pos.cells (lY (oU p)))):=by
 have L:=m.size;have N:=hg.kC.size;have M:=hg.kinds;have C:=m.small hg;have K:=m.h0.len;have J:=m.h1.len;refine Yz Bc (jY 68 [1005] (jY 62 [2039] Bc.body)) ?_;simp[Bc,jY,lV,po,py,pY,nQ,e];refine gZ.e ((0,[]):Int×List Pos) (λy=>[(3,.ptr 1 0 0),(5,if y.2 = []then .gV else .gR 2 (y.2.l-1) 5 0 y.2.l),(15,dI p.h1),(16,.i p.h1.l),(17,.i y.1)]) (λy=>[.row 43 0 g.cells,.row 46 0 p.cells]++(if y.2 = []then []else [.row 46 (y.2.l-1) (cl Pos.cells y.2)])) (λy=>0<=y.1/\y.1<=p.h1.l/\y.2=(upto y.1.n).flatMap (pb p)/\y.2.l<=9*y.1.n) (λy=>(p.h1.l-y.1).n) ?_ ?_
 .simp
 rintro⟨k,out⟩ ⟨k0,k1,k2,k3⟩;dsimp only at k0 k1 k2 k3 ⊢
 by_cases hi:k<p.h1.l
 .by_cases i:out = []
  .subst i;rw[if_pos rfl,if_pos rfl];simp[hi];refine gU ?_;refine gZ.e ((0,[]):Int×List Pos) (λy=>[(3,.ptr 1 0 0),(5,if y.2 = []then .gV else .gR 2 (y.2.l-1) 5 0 y.2.l),(6,.i k),(7,.i (gt p.h1 k)),(15,dI p.h1),(16,.i p.h1.l),(17,.i k),(23,dI p.cs),(24,.i p.cs.l),(25,.i y.1)]) (λy=>[.row 43 0 g.cells,.row 46 0 p.cells]++(if y.2 = []then []else [.row 46 (y.2.l-1) (cl Pos.cells y.2)])) (λy=>0<=y.1/\y.1<=p.cs.l/\y.2=(upto k.n).flatMap (pb p)++(upto y.1.n).flatMap (nq p k)/\y.2.l<=9*k.n+y.1.n) (λy=>(p.cs.l-y.1).n) ?_ ?_
   .exact⟨U,U,by dsimp only;simp[<-k2],iv⟩
   rintro⟨c,o⟩ ⟨u,E,c2,d⟩;dsimp only at u E c2 d ⊢
   by_cases r:c<p.cs.l
   .have D:(upto k.n).flatMap (pb p)++(upto (c+1).n).flatMap (nq p k)=o++nq p k c:=by rw[yz u,cd,<-aO,<-c2];simp
    have j:∀w,nq p k c=w->o++w=(upto k.n).flatMap (pb p)++(upto (c+1).n).flatMap (nq p k):=λw h=>by rw[D,h]
    have t:nq p k c=if gt p.h1 k=0\/gt p.cs c≠0 then []else [lx p k c]:=by simp[nq,Pos.hand,e]
    by_cases a:o = []
    .subst a;rw[if_pos rfl,if_pos rfl];simp[r]
     by_cases b:gt p.h1 k=0
     .simp[b];refine gU ?_;refine LJ.i (c+1,[]) (by first|rfl|simp[b]) (by first|rfl|simp[b]) rfl rfl ?_;have:=j [] (by rw[t,if_pos (.inl b)]);rw[az]at this;exact iQ ⟨this,by dsimp only at d ⊢;omega⟩
     .by_cases f:gt p.cs c=0
      .simp[b,f];refine gU ?_;refine Yn (f91 { p:=p,kind:=0,cur:=0,kP:=false } C iv) ?_;simp;refine gU ?_;refine Yt (f92 (k:=k) (s:=p.side) k0 U U U) ?_;simp;have G:=m.h1.at_ k k0 hi;have q0:=jy (l:=p.cs) (n:=c) (v:=1+2*k+1) u r;have q1:=jy (l:=p.h1) (n:=k) (v:=gt p.h1 k-1) k0 hi;simp[e,q0,q1];refine ko q0 q1 ?_;refine LJ.i (c+1,[lx p k c]) (by first|rfl|simp[jw,lx,Pos.hand,Pos.mW,lQ,e]) (by first|rfl|simp[jw,lx,Pos.hand,Pos.mW,lQ,e]) rfl rfl ?_;have:=j [lx p k c] (by rw[t,if_neg (by simp[b,f])]);exact iQ ⟨this,by dsimp only at d ⊢;simp;omega⟩
      .simp[b,f];refine gU ?_;refine LJ.e (c+1,[]) ?_;have:=j [] (by rw[t,if_pos (.inr f)]);rw[az]at this;exact iQ ⟨this,by dsimp only at d ⊢;omega⟩
    .have A:o.l-1+1=o.l:=by have:=ay.2 a;omega
     rw[if_neg a,if_neg a];simp[r]
     by_cases b:gt p.h1 k=0
     .simp[b];refine gU ?_;refine LJ.i (c+1,o) (by first|rfl|simp[b,a]) (by first|rfl|simp[b,a]) rfl rfl ?_;have:=j [] (by rw[t,if_pos (.inl b)]);rw[az]at this;exact iQ ⟨this,by dsimp only at d ⊢;omega⟩
     .by_cases f:gt p.cs c=0
      .simp[b,f];refine gU ?_;refine Yn (f91 { p:=p,kind:=0,cur:=0,kP:=false } C iv) ?_;simp;refine gU ?_;refine Yt (f92 (k:=k) (s:=p.side) k0 U U U) ?_;simp;have G:=m.h1.at_ k k0 hi;have q0:=jy (l:=p.cs) (n:=c) (v:=1+2*k+1) u r;have q1:=jy (l:=p.h1) (n:=k) (v:=gt p.h1 k-1) k0 hi;simp[e,q0,q1];refine ko q0 q1 ?_;skip;refine LJ.i (c+1,o ++ [lx p k c]) (by first|rfl|simp[a,A,lx,Pos.hand,Pos.mW,lQ,e]) (by first|rfl|simp[a,A,lx,Pos.hand,Pos.mW,lQ,e]) rfl rfl ?_;have:=j [lx p k c] (by rw[t,if_neg (by simp[b,f])]);exact iQ ⟨this,by dsimp only at d ⊢;simp;omega⟩
      .simp[b,f];refine gU ?_;refine LJ.i (c+1,o) (by first|rfl|simp[a]) (by first|rfl|simp[a]) rfl rfl ?_;have:=j [] (by rw[t,if_pos (.inr f)]);rw[az]at this;exact iQ ⟨this,by dsimp only at d ⊢;omega⟩
   .have z:(upto (k+1).n).flatMap (pb p)=o:=by rw[c2,yz k0,cd,(U:c.n=p.cs.l)];simp[pb]
    by_cases a:o = []
    .rw[if_pos a,if_pos a];simp[r];refine gU ?_;refine LJ.i (k+1,o) (by first|rfl|simp[a]) (by first|rfl|simp[a]) rfl rfl ?_;exact iQ ⟨z.symm,by dsimp only at d ⊢;omega⟩
    .rw[if_neg a,if_neg a];simp[r];refine gU ?_;refine LJ.i (k+1,o) (by first|rfl|simp[a]) (by first|rfl|simp[a]) rfl rfl ?_;exact iQ ⟨z.symm,by dsimp only at d ⊢;omega⟩
  .rw[if_neg i,if_neg i];simp[hi];refine gU ?_;refine gZ.e ((0,out):Int×List Pos) (λy=>[(3,.ptr 1 0 0),(5,.gR 2 (y.2.l-1) 5 0 y.2.l),(6,.i k),(7,.i (gt p.h1 k)),(15,dI p.h1),(16,.i p.h1.l),(17,.i k),(23,dI p.cs),(24,.i p.cs.l),(25,.i y.1)]) (λy=>[.row 43 0 g.cells,.row 46 0 p.cells,.row 46 (y.2.l-1) (cl Pos.cells y.2)]) (λy=>0<=y.1/\y.1<=p.cs.l/\y.2=(upto k.n).flatMap (pb p)++(upto y.1.n).flatMap (nq p k)/\y.2≠[]/\y.2.l<=9*k.n+y.1.n) (λy=>(p.cs.l-y.1).n) ?_ ?_
   .exact⟨U,U,by dsimp only;rw[k2];simp,i,iv⟩
   rintro⟨c,o⟩ ⟨u,E,c2,B,d⟩;dsimp only at u E c2 d ⊢
   by_cases r:c<p.cs.l
   .have D:(upto k.n).flatMap (pb p)++(upto (c+1).n).flatMap (nq p k)=o++nq p k c:=by rw[yz u,cd,<-aO,<-c2];simp
    have j:∀w,nq p k c=w->o++w=(upto k.n).flatMap (pb p)++(upto (c+1).n).flatMap (nq p k):=λw h=>by rw[D,h]
    have t:nq p k c=if gt p.h1 k=0\/gt p.cs c≠0 then []else [lx p k c]:=by simp[nq,Pos.hand,e]
    have a:o≠[]:=B;have A:o.l-1+1=o.l:=by have:=ay.2 a;omega
    simp[r]
    by_cases b:gt p.h1 k=0
    .simp[b];refine gU ?_;refine LJ.i (c+1,o) (by first|rfl|simp[b,a]) (by first|rfl|simp[b,a]) rfl rfl ?_;have:=j [] (by rw[t,if_pos (.inl b)]);rw[az]at this;exact iQ ⟨this,B,by dsimp only at d ⊢;omega⟩
    .by_cases f:gt p.cs c=0
     .simp[b,f];refine gU ?_;refine Yn (f91 { p:=p,kind:=0,cur:=0,kP:=false } C iv) ?_;simp;refine gU ?_;refine Yt (f92 (k:=k) (s:=p.side) k0 U U U) ?_;simp;have G:=m.h1.at_ k k0 hi;have q0:=jy (l:=p.cs) (n:=c) (v:=1+2*k+1) u r;have q1:=jy (l:=p.h1) (n:=k) (v:=gt p.h1 k-1) k0 hi;simp[e,q0,q1];refine ko q0 q1 ?_;skip;refine LJ.i (c+1,o ++ [lx p k c]) (by first|rfl|simp[a,A,lx,Pos.hand,Pos.mW,lQ,e]) (by first|rfl|simp[a,A,lx,Pos.hand,Pos.mW,lQ,e]) rfl rfl ?_;have:=j [lx p k c] (by rw[t,if_neg (by simp[b,f])]);exact⟨iv,iv,iv,this,gP,by dsimp only at d ⊢;simp;omega⟩
     .simp[b,f];refine gU ?_;refine LJ.i (c+1,o) (by first|rfl|simp[a]) (by first|rfl|simp[a]) rfl rfl ?_;have:=j [] (by rw[t,if_pos (.inr f)]);rw[az]at this;exact iQ ⟨this,B,by dsimp only at d ⊢;omega⟩
   .have z:(upto (k+1).n).flatMap (pb p)=o:=by rw[c2,yz k0,cd,(U:c.n=p.cs.l)];simp[pb]
    have a:o≠[]:=B;simp[r];refine gU ?_;refine LJ.i (k+1,o) (by first|rfl|simp[a]) (by first|rfl|simp[a]) rfl rfl ?_;exact iQ ⟨z.symm,by dsimp only at d ⊢;omega⟩
 .have z:out=oU p:=by rw[k2,oU,show k.n=(p.hand p.side).l by simp[Pos.hand,e];omega]
  have H:∀q∈out,Small q:=λq F=>by rw[z,P' m]at F;exact(Jt m F).small hg
  have I:=TK hg m;rw[<-z]at I ⊢
  by_cases i:out = []
  .rw[if_pos i,if_pos i];simp[hi];refine ik.c rfl rfl (f48 [] gP gP) rfl gP ?_;simp[i]
  .rw[if_neg i,if_neg i];simp[hi];refine ik.c (x:=dN 5 Pos.cells (lY out)) rfl rfl (by rw[yU i];exact f48 out H U) gP gP ?_;simp
def f49(g:gY)(hg:iE g)(p:Pos)(a:ja g p):Wf T 149 [dG g,dP p] [] (Is (dN 5 Pos.cells (lY (oU p)))):=by
 have:=a.side;rcases(U:p.side=0\/p.side=1)with e|e
 .exact ai9 g hg p a e
 .exact aja g hg p a e
