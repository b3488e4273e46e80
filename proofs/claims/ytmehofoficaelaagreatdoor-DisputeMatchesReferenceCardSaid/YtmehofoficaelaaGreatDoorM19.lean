/- Part 19 of DisputeMatchesReference. -/
import Derived.Test.YtmehofoficaelaaGreatDoorM18
set_option linter.all false
open List renaming length→List.l
open Int renaming toNat→Int.n
namespace Go.Proofs.YtmehofoficaelaaGreatDoor
open Go Go.AL Classical
set_option maxRecDepth 10000
set_option maxHeartbeats 8000000
def yK{k:Int}(h:0<=k):upto (k+1).n=upto k.n ++ [k]:=by rw[(U:(k+1).n=k.n+1)];simp only[upto,List.range_succ,List.map_append,List.map_cons,List.map_nil];rw[cA h]
@[simp] theorem aBn:upto 0 = []:=rfl
def mP(p:Pos)(k c:Int):List Pos:=if gt (p.hand p.side) k=0\/gt p.cs c≠0 then []else [kP p k c]
def oG(p:Pos)(k:Int):List Pos:=(upto p.cs.l).flatMap (mP p k)
def oi(p:Pos):List Pos:=(upto (p.hand p.side).l).flatMap (oG p)
def N7{g:gv}{p q:Pos}(a:iI g p):q∈oi p↔As g p q:=by
 have hl:=(a.hand p.side).len;unfold oi oG mP As;simp only[bN,jF];constructor
 .grind
 .grind
def Ru{g:gv}(hg:gZ g){p:Pos}(a:iI g p):(oi p).l<=18:=by
 have b:=a.size;have e:=hg.ki.size;have d:=hg.kinds;have hl:=(a.hand p.side).len
 have:(oi p).l<=(upto (p.hand p.side).l).l*9:=CA λk _=>by
  have:(oG p k).l<=(upto p.cs.l).l*1:=CA λc _=>by unfold mP;split<;>simp
  simp[upto]at this ⊢;omega
 simp[upto]at this;omega
def agz(g:gv)(hg:gZ g)(p:Pos)(m:iI g p)(e:p.side=0):Wf T 149 [dG g,dP p] [] (Is (dN 5 Pos.cells (lA (oi p)))):=by
 have L:=m.size;have N:=hg.ki.size;have M:=hg.kinds;have C:=m.small hg;have K:=m.h0.len;have J:=m.h1.len;refine Yz Aq (jm 68 [1005] (jm 62 [2039] Aq.body)) ?_;simp[Aq,jm,kS,nR,nU,oo,mm,e];refine gx.e ((0,[]):Int×List Pos) (λy=>[(3,.ptr 1 0 0),(5,if y.2 = []then .gp else .gh 2 (y.2.l-1) 5 0 y.2.l),(15,dI p.h0),(16,.i p.h0.l),(17,.i y.1)]) (λy=>[.row 43 0 g.cells,.row 46 0 p.cells]++(if y.2 = []then []else [.row 46 (y.2.l-1) (cl Pos.cells y.2)])) (λy=>0<=y.1/\y.1<=p.h0.l/\y.2=(upto y.1.n).flatMap (oG p)/\y.2.l<=9*y.1.n) (λy=>(p.h0.l-y.1).n) ?_ ?_
 .simp
 rintro⟨k,out⟩ ⟨k0,k1,k2,k3⟩;dsimp only at k0 k1 k2 k3 ⊢
 by_cases hi:k<p.h0.l
 .by_cases i:out = []
  .subst i;rw[if_pos rfl,if_pos rfl];simp[hi];refine gi ?_;refine gx.e ((0,[]):Int×List Pos) (λy=>[(3,.ptr 1 0 0),(5,if y.2 = []then .gp else .gh 2 (y.2.l-1) 5 0 y.2.l),(6,.i k),(7,.i (gt p.h0 k)),(15,dI p.h0),(16,.i p.h0.l),(17,.i k),(23,dI p.cs),(24,.i p.cs.l),(25,.i y.1)]) (λy=>[.row 43 0 g.cells,.row 46 0 p.cells]++(if y.2 = []then []else [.row 46 (y.2.l-1) (cl Pos.cells y.2)])) (λy=>0<=y.1/\y.1<=p.cs.l/\y.2=(upto k.n).flatMap (oG p)++(upto y.1.n).flatMap (mP p k)/\y.2.l<=9*k.n+y.1.n) (λy=>(p.cs.l-y.1).n) ?_ ?_
   .exact⟨U,U,by dsimp only;simp[<-k2],gI⟩
   rintro⟨c,o⟩ ⟨u,E,c2,d⟩;dsimp only at u E c2 d ⊢
   by_cases r:c<p.cs.l
   .have D:(upto k.n).flatMap (oG p)++(upto (c+1).n).flatMap (mP p k)=o++mP p k c:=by rw[yK u,bO,<-aN,<-c2];simp
    have j:∀w,mP p k c=w->o++w=(upto k.n).flatMap (oG p)++(upto (c+1).n).flatMap (mP p k):=λw h=>by rw[D,h]
    have t:mP p k c=if gt p.h0 k=0\/gt p.cs c≠0 then []else [kP p k c]:=by simp[mP,Pos.hand,e]
    by_cases a:o = []
    .subst a;rw[if_pos rfl,if_pos rfl];simp[r]
     by_cases b:gt p.h0 k=0
     .simp[b];refine gi ?_;refine LJ.i (c+1,[]) (by first|rfl|simp[b]) (by first|rfl|simp[b]) rfl rfl ?_;have:=j [] (by rw[t,if_pos (.inl b)]);rw[aD]at this;exact ic ⟨this,by dsimp only at d ⊢;omega⟩
     .by_cases f:gt p.cs c=0
      .simp[b,f];refine gi ?_;refine Yn (f91 { p:=p,kind:=0,cur:=0,kn:=false } C gI) ?_;simp;refine gi ?_;refine Yt (f92 (k:=k) (s:=p.side) k0 U U U) ?_;simp;have G:=m.h0.at_ k k0 hi;have q0:=jg (l:=p.cs) (n:=c) (v:=1+2*k) u r;have q1:=jg (l:=p.h0) (n:=k) (v:=gt p.h0 k-1) k0 hi;simp[e,q0,q1];refine jT q0 q1 ?_;refine LJ.i (c+1,[kP p k c]) (by first|rfl|simp[iY,kP,Pos.hand,Pos.oe,mC,e]) (by first|rfl|simp[iY,kP,Pos.hand,Pos.oe,mC,e]) rfl rfl ?_;have:=j [kP p k c] (by rw[t,if_neg (by simp[b,f])]);exact ic ⟨this,by dsimp only at d ⊢;simp;omega⟩
      .simp[b,f];refine gi ?_;refine LJ.e (c+1,[]) ?_;have:=j [] (by rw[t,if_pos (.inr f)]);rw[aD]at this;exact ic ⟨this,by dsimp only at d ⊢;omega⟩
    .have A:o.l-1+1=o.l:=by have:=ao.2 a;omega
     rw[if_neg a,if_neg a];simp[r]
     by_cases b:gt p.h0 k=0
     .simp[b];refine gi ?_;refine LJ.i (c+1,o) (by first|rfl|simp[b,a]) (by first|rfl|simp[b,a]) rfl rfl ?_;have:=j [] (by rw[t,if_pos (.inl b)]);rw[aD]at this;exact ic ⟨this,by dsimp only at d ⊢;omega⟩
     .by_cases f:gt p.cs c=0
      .simp[b,f];refine gi ?_;refine Yn (f91 { p:=p,kind:=0,cur:=0,kn:=false } C gI) ?_;simp;refine gi ?_;refine Yt (f92 (k:=k) (s:=p.side) k0 U U U) ?_;simp;have G:=m.h0.at_ k k0 hi;have q0:=jg (l:=p.cs) (n:=c) (v:=1+2*k) u r;have q1:=jg (l:=p.h0) (n:=k) (v:=gt p.h0 k-1) k0 hi;simp[e,q0,q1];refine jT q0 q1 ?_;skip;refine LJ.i (c+1,o ++ [kP p k c]) (by first|rfl|simp[a,A,kP,Pos.hand,Pos.oe,mC,e]) (by first|rfl|simp[a,A,kP,Pos.hand,Pos.oe,mC,e]) rfl rfl ?_;have:=j [kP p k c] (by rw[t,if_neg (by simp[b,f])]);exact ic ⟨this,by dsimp only at d ⊢;simp;omega⟩
      .simp[b,f];refine gi ?_;refine LJ.i (c+1,o) (by first|rfl|simp[a]) (by first|rfl|simp[a]) rfl rfl ?_;have:=j [] (by rw[t,if_pos (.inr f)]);rw[aD]at this;exact ic ⟨this,by dsimp only at d ⊢;omega⟩
   .have z:(upto (k+1).n).flatMap (oG p)=o:=by rw[c2,yK k0,bO,(U:c.n=p.cs.l)];simp[oG]
    by_cases a:o = []
    .rw[if_pos a,if_pos a];simp[r];refine gi ?_;refine LJ.i (k+1,o) (by first|rfl|simp[a]) (by first|rfl|simp[a]) rfl rfl ?_;exact ic ⟨z.symm,by dsimp only at d ⊢;omega⟩
    .rw[if_neg a,if_neg a];simp[r];refine gi ?_;refine LJ.i (k+1,o) (by first|rfl|simp[a]) (by first|rfl|simp[a]) rfl rfl ?_;exact ic ⟨z.symm,by dsimp only at d ⊢;omega⟩
  .rw[if_neg i,if_neg i];simp[hi];refine gi ?_;refine gx.e ((0,out):Int×List Pos) (λy=>[(3,.ptr 1 0 0),(5,.gh 2 (y.2.l-1) 5 0 y.2.l),(6,.i k),(7,.i (gt p.h0 k)),(15,dI p.h0),(16,.i p.h0.l),(17,.i k),(23,dI p.cs),(24,.i p.cs.l),(25,.i y.1)]) (λy=>[.row 43 0 g.cells,.row 46 0 p.cells,.row 46 (y.2.l-1) (cl Pos.cells y.2)]) (λy=>0<=y.1/\y.1<=p.cs.l/\y.2=(upto k.n).flatMap (oG p)++(upto y.1.n).flatMap (mP p k)/\y.2≠[]/\y.2.l<=9*k.n+y.1.n) (λy=>(p.cs.l-y.1).n) ?_ ?_
   .exact⟨U,U,by dsimp only;rw[k2];simp,i,gI⟩
   rintro⟨c,o⟩ ⟨u,E,c2,B,d⟩;dsimp only at u E c2 d ⊢
   by_cases r:c<p.cs.l
   .have D:(upto k.n).flatMap (oG p)++(upto (c+1).n).flatMap (mP p k)=o++mP p k c:=by rw[yK u,bO,<-aN,<-c2];simp
    have j:∀w,mP p k c=w->o++w=(upto k.n).flatMap (oG p)++(upto (c+1).n).flatMap (mP p k):=λw h=>by rw[D,h]
    have t:mP p k c=if gt p.h0 k=0\/gt p.cs c≠0 then []else [kP p k c]:=by simp[mP,Pos.hand,e]
    have a:o≠[]:=B;have A:o.l-1+1=o.l:=by have:=ao.2 a;omega
    simp[r]
    by_cases b:gt p.h0 k=0
    .simp[b];refine gi ?_;refine LJ.i (c+1,o) (by first|rfl|simp[b,a]) (by first|rfl|simp[b,a]) rfl rfl ?_;have:=j [] (by rw[t,if_pos (.inl b)]);rw[aD]at this;exact ic ⟨this,B,by dsimp only at d ⊢;omega⟩
    .by_cases f:gt p.cs c=0
     .simp[b,f];refine gi ?_;refine Yn (f91 { p:=p,kind:=0,cur:=0,kn:=false } C gI) ?_;simp;refine gi ?_;refine Yt (f92 (k:=k) (s:=p.side) k0 U U U) ?_;simp;have G:=m.h0.at_ k k0 hi;have q0:=jg (l:=p.cs) (n:=c) (v:=1+2*k) u r;have q1:=jg (l:=p.h0) (n:=k) (v:=gt p.h0 k-1) k0 hi;simp[e,q0,q1];refine jT q0 q1 ?_;skip;refine LJ.i (c+1,o ++ [kP p k c]) (by first|rfl|simp[a,A,kP,Pos.hand,Pos.oe,mC,e]) (by first|rfl|simp[a,A,kP,Pos.hand,Pos.oe,mC,e]) rfl rfl ?_;have:=j [kP p k c] (by rw[t,if_neg (by simp[b,f])]);exact⟨gI,gI,gI,this,gf,by dsimp only at d ⊢;simp;omega⟩
     .simp[b,f];refine gi ?_;refine LJ.i (c+1,o) (by first|rfl|simp[a]) (by first|rfl|simp[a]) rfl rfl ?_;have:=j [] (by rw[t,if_pos (.inr f)]);rw[aD]at this;exact ic ⟨this,B,by dsimp only at d ⊢;omega⟩
   .have z:(upto (k+1).n).flatMap (oG p)=o:=by rw[c2,yK k0,bO,(U:c.n=p.cs.l)];simp[oG]
    have a:o≠[]:=B;simp[r];refine gi ?_;refine LJ.i (k+1,o) (by first|rfl|simp[a]) (by first|rfl|simp[a]) rfl rfl ?_;exact ic ⟨z.symm,by dsimp only at d ⊢;omega⟩
 .have z:out=oi p:=by rw[k2,oi,show k.n=(p.hand p.side).l by simp[Pos.hand,e];omega]
  have H:∀q∈out,Small q:=λq F=>by rw[z,N7 m]at F;exact(HP m F).small hg
  have I:=Ru hg m;rw[<-z]at I ⊢
  by_cases i:out = []
  .rw[if_pos i,if_pos i];simp[hi];refine gE.c rfl rfl (f48 [] gf gf) rfl gf ?_;simp[i]
  .rw[if_neg i,if_neg i];simp[hi];refine gE.c (x:=dN 5 Pos.cells (lA out)) rfl rfl (by rw[ya i];exact f48 out H U) gf gf ?_;simp
def agA(g:gv)(hg:gZ g)(p:Pos)(m:iI g p)(e:p.side=1):Wf T 149 [dG g,dP p] [] (Is (dN 5 Pos.cells (lA (oi p)))):=by
 have L:=m.size;have N:=hg.ki.size;have M:=hg.kinds;have C:=m.small hg;have K:=m.h0.len;have J:=m.h1.len;refine Yz Aq (jm 68 [1005] (jm 62 [2039] Aq.body)) ?_;simp[Aq,jm,kS,nR,nU,oo,mm,e];refine gx.e ((0,[]):Int×List Pos) (λy=>[(3,.ptr 1 0 0),(5,if y.2 = []then .gp else .gh 2 (y.2.l-1) 5 0 y.2.l),(15,dI p.h1),(16,.i p.h1.l),(17,.i y.1)]) (λy=>[.row 43 0 g.cells,.row 46 0 p.cells]++(if y.2 = []then []else [.row 46 (y.2.l-1) (cl Pos.cells y.2)])) (λy=>0<=y.1/\y.1<=p.h1.l/\y.2=(upto y.1.n).flatMap (oG p)/\y.2.l<=9*y.1.n) (λy=>(p.h1.l-y.1).n) ?_ ?_
 .simp
 rintro⟨k,out⟩ ⟨k0,k1,k2,k3⟩;dsimp only at k0 k1 k2 k3 ⊢
 by_cases hi:k<p.h1.l
 .by_cases i:out = []
  .subst i;rw[if_pos rfl,if_pos rfl];simp[hi];refine gi ?_;refine gx.e ((0,[]):Int×List Pos) (λy=>[(3,.ptr 1 0 0),(5,if y.2 = []then .gp else .gh 2 (y.2.l-1) 5 0 y.2.l),(6,.i k),(7,.i (gt p.h1 k)),(15,dI p.h1),(16,.i p.h1.l),(17,.i k),(23,dI p.cs),(24,.i p.cs.l),(25,.i y.1)]) (λy=>[.row 43 0 g.cells,.row 46 0 p.cells]++(if y.2 = []then []else [.row 46 (y.2.l-1) (cl Pos.cells y.2)])) (λy=>0<=y.1/\y.1<=p.cs.l/\y.2=(upto k.n).flatMap (oG p)++(upto y.1.n).flatMap (mP p k)/\y.2.l<=9*k.n+y.1.n) (λy=>(p.cs.l-y.1).n) ?_ ?_
   .exact⟨U,U,by dsimp only;simp[<-k2],gI⟩
   rintro⟨c,o⟩ ⟨u,E,c2,d⟩;dsimp only at u E c2 d ⊢
   by_cases r:c<p.cs.l
   .have D:(upto k.n).flatMap (oG p)++(upto (c+1).n).flatMap (mP p k)=o++mP p k c:=by rw[yK u,bO,<-aN,<-c2];simp
    have j:∀w,mP p k c=w->o++w=(upto k.n).flatMap (oG p)++(upto (c+1).n).flatMap (mP p k):=λw h=>by rw[D,h]
    have t:mP p k c=if gt p.h1 k=0\/gt p.cs c≠0 then []else [kP p k c]:=by simp[mP,Pos.hand,e]
    by_cases a:o = []
    .subst a;rw[if_pos rfl,if_pos rfl];simp[r]
     by_cases b:gt p.h1 k=0
     .simp[b];refine gi ?_;refine LJ.i (c+1,[]) (by first|rfl|simp[b]) (by first|rfl|simp[b]) rfl rfl ?_;have:=j [] (by rw[t,if_pos (.inl b)]);rw[aD]at this;exact ic ⟨this,by dsimp only at d ⊢;omega⟩
     .by_cases f:gt p.cs c=0
      .simp[b,f];refine gi ?_;refine Yn (f91 { p:=p,kind:=0,cur:=0,kn:=false } C gI) ?_;simp;refine gi ?_;refine Yt (f92 (k:=k) (s:=p.side) k0 U U U) ?_;simp;have G:=m.h1.at_ k k0 hi;have q0:=jg (l:=p.cs) (n:=c) (v:=1+2*k+1) u r;have q1:=jg (l:=p.h1) (n:=k) (v:=gt p.h1 k-1) k0 hi;simp[e,q0,q1];refine jT q0 q1 ?_;refine LJ.i (c+1,[kP p k c]) (by first|rfl|simp[iY,kP,Pos.hand,Pos.oe,mC,e]) (by first|rfl|simp[iY,kP,Pos.hand,Pos.oe,mC,e]) rfl rfl ?_;have:=j [kP p k c] (by rw[t,if_neg (by simp[b,f])]);exact ic ⟨this,by dsimp only at d ⊢;simp;omega⟩
      .simp[b,f];refine gi ?_;refine LJ.e (c+1,[]) ?_;have:=j [] (by rw[t,if_pos (.inr f)]);rw[aD]at this;exact ic ⟨this,by dsimp only at d ⊢;omega⟩
    .have A:o.l-1+1=o.l:=by have:=ao.2 a;omega
     rw[if_neg a,if_neg a];simp[r]
     by_cases b:gt p.h1 k=0
     .simp[b];refine gi ?_;refine LJ.i (c+1,o) (by first|rfl|simp[b,a]) (by first|rfl|simp[b,a]) rfl rfl ?_;have:=j [] (by rw[t,if_pos (.inl b)]);rw[aD]at this;exact ic ⟨this,by dsimp only at d ⊢;omega⟩
     .by_cases f:gt p.cs c=0
      .simp[b,f];refine gi ?_;refine Yn (f91 { p:=p,kind:=0,cur:=0,kn:=false } C gI) ?_;simp;refine gi ?_;refine Yt (f92 (k:=k) (s:=p.side) k0 U U U) ?_;simp;have G:=m.h1.at_ k k0 hi;have q0:=jg (l:=p.cs) (n:=c) (v:=1+2*k+1) u r;have q1:=jg (l:=p.h1) (n:=k) (v:=gt p.h1 k-1) k0 hi;simp[e,q0,q1];refine jT q0 q1 ?_;skip;refine LJ.i (c+1,o ++ [kP p k c]) (by first|rfl|simp[a,A,kP,Pos.hand,Pos.oe,mC,e]) (by first|rfl|simp[a,A,kP,Pos.hand,Pos.oe,mC,e]) rfl rfl ?_;have:=j [kP p k c] (by rw[t,if_neg (by simp[b,f])]);exact ic ⟨this,by dsimp only at d ⊢;simp;omega⟩
      .simp[b,f];refine gi ?_;refine LJ.i (c+1,o) (by first|rfl|simp[a]) (by first|rfl|simp[a]) rfl rfl ?_;have:=j [] (by rw[t,if_pos (.inr f)]);rw[aD]at this;exact ic ⟨this,by dsimp only at d ⊢;omega⟩
   .have z:(upto (k+1).n).flatMap (oG p)=o:=by rw[c2,yK k0,bO,(U:c.n=p.cs.l)];simp[oG]
    by_cases a:o = []
    .rw[if_pos a,if_pos a];simp[r];refine gi ?_;refine LJ.i (k+1,o) (by first|rfl|simp[a]) (by first|rfl|simp[a]) rfl rfl ?_;exact ic ⟨z.symm,by dsimp only at d ⊢;omega⟩
    .rw[if_neg a,if_neg a];simp[r];refine gi ?_;refine LJ.i (k+1,o) (by first|rfl|simp[a]) (by first|rfl|simp[a]) rfl rfl ?_;exact ic ⟨z.symm,by dsimp only at d ⊢;omega⟩
  .rw[if_neg i,if_neg i];simp[hi];refine gi ?_;refine gx.e ((0,out):Int×List Pos) (λy=>[(3,.ptr 1 0 0),(5,.gh 2 (y.2.l-1) 5 0 y.2.l),(6,.i k),(7,.i (gt p.h1 k)),(15,dI p.h1),(16,.i p.h1.l),(17,.i k),(23,dI p.cs),(24,.i p.cs.l),(25,.i y.1)]) (λy=>[.row 43 0 g.cells,.row 46 0 p.cells,.row 46 (y.2.l-1) (cl Pos.cells y.2)]) (λy=>0<=y.1/\y.1<=p.cs.l/\y.2=(upto k.n).flatMap (oG p)++(upto y.1.n).flatMap (mP p k)/\y.2≠[]/\y.2.l<=9*k.n+y.1.n) (λy=>(p.cs.l-y.1).n) ?_ ?_
   .exact⟨U,U,by dsimp only;rw[k2];simp,i,gI⟩
   rintro⟨c,o⟩ ⟨u,E,c2,B,d⟩;dsimp only at u E c2 d ⊢
   by_cases r:c<p.cs.l
   .have D:(upto k.n).flatMap (oG p)++(upto (c+1).n).flatMap (mP p k)=o++mP p k c:=by rw[yK u,bO,<-aN,<-c2];simp
    have j:∀w,mP p k c=w->o++w=(upto k.n).flatMap (oG p)++(upto (c+1).n).flatMap (mP p k):=λw h=>by rw[D,h]
    have t:mP p k c=if gt p.h1 k=0\/gt p.cs c≠0 then []else [kP p k c]:=by simp[mP,Pos.hand,e]
    have a:o≠[]:=B;have A:o.l-1+1=o.l:=by have:=ao.2 a;omega
    simp[r]
    by_cases b:gt p.h1 k=0
    .simp[b];refine gi ?_;refine LJ.i (c+1,o) (by first|rfl|simp[b,a]) (by first|rfl|simp[b,a]) rfl rfl ?_;have:=j [] (by rw[t,if_pos (.inl b)]);rw[aD]at this;exact ic ⟨this,B,by dsimp only at d ⊢;omega⟩
    .by_cases f:gt p.cs c=0
     .simp[b,f];refine gi ?_;refine Yn (f91 { p:=p,kind:=0,cur:=0,kn:=false } C gI) ?_;simp;refine gi ?_;refine Yt (f92 (k:=k) (s:=p.side) k0 U U U) ?_;simp;have G:=m.h1.at_ k k0 hi;have q0:=jg (l:=p.cs) (n:=c) (v:=1+2*k+1) u r;have q1:=jg (l:=p.h1) (n:=k) (v:=gt p.h1 k-1) k0 hi;simp[e,q0,q1];refine jT q0 q1 ?_;skip;refine LJ.i (c+1,o ++ [kP p k c]) (by first|rfl|simp[a,A,kP,Pos.hand,Pos.oe,mC,e]) (by first|rfl|simp[a,A,kP,Pos.hand,Pos.oe,mC,e]) rfl rfl ?_;have:=j [kP p k c] (by rw[t,if_neg (by simp[b,f])]);exact⟨gI,gI,gI,this,gf,by dsimp only at d ⊢;simp;omega⟩
     .simp[b,f];refine gi ?_;refine LJ.i (c+1,o) (by first|rfl|simp[a]) (by first|rfl|simp[a]) rfl rfl ?_;have:=j [] (by rw[t,if_pos (.inr f)]);rw[aD]at this;exact ic ⟨this,B,by dsimp only at d ⊢;omega⟩
   .have z:(upto (k+1).n).flatMap (oG p)=o:=by rw[c2,yK k0,bO,(U:c.n=p.cs.l)];simp[oG]
    have a:o≠[]:=B;simp[r];refine gi ?_;refine LJ.i (k+1,o) (by first|rfl|simp[a]) (by first|rfl|simp[a]) rfl rfl ?_;exact ic ⟨z.symm,by dsimp only at d ⊢;omega⟩
 .have z:out=oi p:=by rw[k2,oi,show k.n=(p.hand p.side).l by simp[Pos.hand,e];omega]
  have H:∀q∈out,Small q:=λq F=>by rw[z,N7 m]at F;exact(HP m F).small hg
  have I:=Ru hg m;rw[<-z]at I ⊢
  by_cases i:out = []
  .rw[if_pos i,if_pos i];simp[hi];refine gE.c rfl rfl (f48 [] gf gf) rfl gf ?_;simp[i]
  .rw[if_neg i,if_neg i];simp[hi];refine gE.c (x:=dN 5 Pos.cells (lA out)) rfl rfl (by rw[ya i];exact f48 out H U) gf gf ?_;simp
def f49(g:gv)(hg:gZ g)(p:Pos)(a:iI g p):Wf T 149 [dG g,dP p] [] (Is (dN 5 Pos.cells (lA (oi p)))):=by
 have:=a.side;rcases(U:p.side=0\/p.side=1)with e|e
 .exact agz g hg p a e
 .exact agA g hg p a e
