/- Part 19 of DisputeWorkers. -/
import Derived.Test.YtmehofoficaelaaGreatDoorW18
set_option linter.all false
namespace Go.Proofs.YtmehofoficaelaaGreatDoor
open Go Go.AL Classical
set_option maxRecDepth 10000
set_option maxHeartbeats 8000000
theorem xA{k:Int}(h:0<=k):upto (k+1).toNat=upto k.toNat ++ [k]:=by rw[show(k+1).toNat=k.toNat+1 by omega];simp only[upto,List.range_succ,List.map_append,List.map_cons,List.map_nil];rw[b7 h]
@[simp] theorem azV:upto 0 = []:=rfl
def l7(p:Pos)(k c:Int):List Pos:=if gt (p.hand p.side) k=0\/gt p.cs c≠0 then []else [kl p k c]
def nv(p:Pos)(k:Int):List Pos:=(upto p.cs.length).flatMap (l7 p k)
def nb(p:Pos):List Pos:=(upto (p.hand p.side).length).flatMap (nv p)
theorem MZ{g:gi}{p q:Pos}(a:iw g p):q∈nb p↔zg g p q:=by
 have hl:=(a.hand p.side).len;unfold nb nv l7 zg;simp only[bM,jc];constructor
 .grind
 .grind
theorem P9{g:gi}(hg:gV g){p:Pos}(a:iw g p):(nb p).length<=18:=by
 have b:=a.size;have e:=hg.jJ.size;have d:=hg.kinds;have hl:=(a.hand p.side).len
 have:(nb p).length<=(upto (p.hand p.side).length).length*9:=Bm λk _=>by
  have:(nv p k).length<=(upto p.cs.length).length*1:=Bm λc _=>by unfold l7;split<;>simp
  simp[upto]at this ⊢;omega
 simp[upto]at this;omega
theorem aeV(g:gi)(hg:gV g)(p:Pos)(m:iw g p)(e:p.side=0):Wf T 149 [dG g,dP p] [] (Is (dN 5 Pos.cells (kJ (nb p)))):=by
 have L:=m.size;have N:=hg.jJ.size;have M:=hg.kinds;have C:=m.small hg;have K:=m.h0.len;have J:=m.h1.len;refine Yz ze (iZ 68 [1005] (iZ 62 [2039] ze.body)) ?_;simp[ze,iZ,kD,np,nz,nP,ma,e];refine gj.e ((0,[]):Int×List Pos) (λy=>[(3,.ptr 1 0 0),(5,if y.2 = []then .gg else .fY 2 (y.2.length-1) 5 0 y.2.length),(15,dI p.h0),(16,.i p.h0.length),(17,.i y.1)]) (λy=>[.row 43 0 g.cells,.row 46 0 p.cells]++(if y.2 = []then []else [.row 46 (y.2.length-1) (cl Pos.cells y.2)])) (λy=>0<=y.1/\y.1<=p.h0.length/\y.2=(upto y.1.toNat).flatMap (nv p)/\y.2.length<=9*y.1.toNat) (λy=>(p.h0.length-y.1).toNat) ?_ ?_
 .simp
 rintro⟨k,out⟩ ⟨k0,k1,k2,k3⟩;dsimp only at k0 k1 k2 k3 ⊢
 by_cases hi:k<p.h0.length
 .by_cases i:out = []
  .subst i;rw[if_pos rfl,if_pos rfl];simp[hi];refine gd ?_;refine gj.e ((0,[]):Int×List Pos) (λy=>[(3,.ptr 1 0 0),(5,if y.2 = []then .gg else .fY 2 (y.2.length-1) 5 0 y.2.length),(6,.i k),(7,.i (gt p.h0 k)),(15,dI p.h0),(16,.i p.h0.length),(17,.i k),(23,dI p.cs),(24,.i p.cs.length),(25,.i y.1)]) (λy=>[.row 43 0 g.cells,.row 46 0 p.cells]++(if y.2 = []then []else [.row 46 (y.2.length-1) (cl Pos.cells y.2)])) (λy=>0<=y.1/\y.1<=p.cs.length/\y.2=(upto k.toNat).flatMap (nv p)++(upto y.1.toNat).flatMap (l7 p k)/\y.2.length<=9*k.toNat+y.1.toNat) (λy=>(p.cs.length-y.1).toNat) ?_ ?_
   .exact⟨by omega,by omega,by dsimp only;simp[<-k2],by dsimp only;omega⟩
   rintro⟨c,o⟩ ⟨u,E,c2,d⟩;dsimp only at u E c2 d ⊢
   by_cases r:c<p.cs.length
   .have D:(upto k.toNat).flatMap (nv p)++(upto (c+1).toNat).flatMap (l7 p k)=o++l7 p k c:=by rw[xA u,bO,<-aL,<-c2];simp
    have j:∀w,l7 p k c=w->o++w=(upto k.toNat).flatMap (nv p)++(upto (c+1).toNat).flatMap (l7 p k):=λw h=>by rw[D,h]
    have t:l7 p k c=if gt p.h0 k=0\/gt p.cs c≠0 then []else [kl p k c]:=by simp[l7,Pos.hand,e]
    by_cases a:o = []
    .subst a;rw[if_pos rfl,if_pos rfl];simp[r]
     by_cases b:gt p.h0 k=0
     .simp[b];refine gd ?_;refine LJ.i (c+1,[]) (by first|rfl|simp[b]) (by first|rfl|simp[b]) rfl rfl ?_;have:=j [] (by rw[t,if_pos (.inl b)]);rw[az]at this;exact gO ⟨this,by dsimp only at d ⊢;omega⟩
     .by_cases f:gt p.cs c=0
      .simp[b,f];refine gd ?_;refine Yn (f91 { p:=p,kind:=0,cur:=0,jN:=false } C (by dsimp only;omega)) ?_;simp;refine gd ?_;refine Yt (f92 (k:=k) (s:=p.side) k0 (by omega) (by omega) (by omega)) ?_;simp;have G:=m.h0.at_ k k0 hi;have q0:=iP (l:=p.cs) (n:=c) (v:=1+2*k) u r;have q1:=iP (l:=p.h0) (n:=k) (v:=gt p.h0 k-1) k0 hi;simp[e,q0,q1];refine lh q0 q1 ?_;refine LJ.i (c+1,[kl p k c]) (by first|rfl|simp[iQ,kl,Pos.hand,Pos.mY,lQ,e]) (by first|rfl|simp[iQ,kl,Pos.hand,Pos.mY,lQ,e]) rfl rfl ?_;have:=j [kl p k c] (by rw[t,if_neg (by simp[b,f])]);exact gO ⟨this,by dsimp only at d ⊢;simp;omega⟩
      .simp[b,f];refine gd ?_;refine LJ.e (c+1,[]) ?_;have:=j [] (by rw[t,if_pos (.inr f)]);rw[az]at this;exact gO ⟨this,by dsimp only at d ⊢;omega⟩
    .have A:o.length-1+1=o.length:=by have:=ax.2 a;omega
     rw[if_neg a,if_neg a];simp[r]
     by_cases b:gt p.h0 k=0
     .simp[b];refine gd ?_;refine LJ.i (c+1,o) (by first|rfl|simp[b,a]) (by first|rfl|simp[b,a]) rfl rfl ?_;have:=j [] (by rw[t,if_pos (.inl b)]);rw[az]at this;exact gO ⟨this,by dsimp only at d ⊢;omega⟩
     .by_cases f:gt p.cs c=0
      .simp[b,f];refine gd ?_;refine Yn (f91 { p:=p,kind:=0,cur:=0,jN:=false } C (by dsimp only;omega)) ?_;simp;refine gd ?_;refine Yt (f92 (k:=k) (s:=p.side) k0 (by omega) (by omega) (by omega)) ?_;simp;have G:=m.h0.at_ k k0 hi;have q0:=iP (l:=p.cs) (n:=c) (v:=1+2*k) u r;have q1:=iP (l:=p.h0) (n:=k) (v:=gt p.h0 k-1) k0 hi;simp[e,q0,q1];refine lh q0 q1 ?_;skip;refine LJ.i (c+1,o ++ [kl p k c]) (by first|rfl|simp[a,A,kl,Pos.hand,Pos.mY,lQ,e]) (by first|rfl|simp[a,A,kl,Pos.hand,Pos.mY,lQ,e]) rfl rfl ?_;have:=j [kl p k c] (by rw[t,if_neg (by simp[b,f])]);exact gO ⟨this,by dsimp only at d ⊢;simp;omega⟩
      .simp[b,f];refine gd ?_;refine LJ.i (c+1,o) (by first|rfl|simp[a]) (by first|rfl|simp[a]) rfl rfl ?_;have:=j [] (by rw[t,if_pos (.inr f)]);rw[az]at this;exact gO ⟨this,by dsimp only at d ⊢;omega⟩
   .have z:(upto (k+1).toNat).flatMap (nv p)=o:=by rw[c2,xA k0,bO,show c.toNat=p.cs.length by omega];simp[nv]
    by_cases a:o = []
    .rw[if_pos a,if_pos a];simp[r];refine gd ?_;refine LJ.i (k+1,o) (by first|rfl|simp[a]) (by first|rfl|simp[a]) rfl rfl ?_;exact gO ⟨z.symm,by dsimp only at d ⊢;omega⟩
    .rw[if_neg a,if_neg a];simp[r];refine gd ?_;refine LJ.i (k+1,o) (by first|rfl|simp[a]) (by first|rfl|simp[a]) rfl rfl ?_;exact gO ⟨z.symm,by dsimp only at d ⊢;omega⟩
  .rw[if_neg i,if_neg i];simp[hi];refine gd ?_;refine gj.e ((0,out):Int×List Pos) (λy=>[(3,.ptr 1 0 0),(5,.fY 2 (y.2.length-1) 5 0 y.2.length),(6,.i k),(7,.i (gt p.h0 k)),(15,dI p.h0),(16,.i p.h0.length),(17,.i k),(23,dI p.cs),(24,.i p.cs.length),(25,.i y.1)]) (λy=>[.row 43 0 g.cells,.row 46 0 p.cells,.row 46 (y.2.length-1) (cl Pos.cells y.2)]) (λy=>0<=y.1/\y.1<=p.cs.length/\y.2=(upto k.toNat).flatMap (nv p)++(upto y.1.toNat).flatMap (l7 p k)/\y.2≠[]/\y.2.length<=9*k.toNat+y.1.toNat) (λy=>(p.cs.length-y.1).toNat) ?_ ?_
   .exact⟨by omega,by omega,by dsimp only;rw[k2];simp,i,by dsimp only;omega⟩
   rintro⟨c,o⟩ ⟨u,E,c2,B,d⟩;dsimp only at u E c2 d ⊢
   by_cases r:c<p.cs.length
   .have D:(upto k.toNat).flatMap (nv p)++(upto (c+1).toNat).flatMap (l7 p k)=o++l7 p k c:=by rw[xA u,bO,<-aL,<-c2];simp
    have j:∀w,l7 p k c=w->o++w=(upto k.toNat).flatMap (nv p)++(upto (c+1).toNat).flatMap (l7 p k):=λw h=>by rw[D,h]
    have t:l7 p k c=if gt p.h0 k=0\/gt p.cs c≠0 then []else [kl p k c]:=by simp[l7,Pos.hand,e]
    have a:o≠[]:=B;have A:o.length-1+1=o.length:=by have:=ax.2 a;omega
    simp[r]
    by_cases b:gt p.h0 k=0
    .simp[b];refine gd ?_;refine LJ.i (c+1,o) (by first|rfl|simp[b,a]) (by first|rfl|simp[b,a]) rfl rfl ?_;have:=j [] (by rw[t,if_pos (.inl b)]);rw[az]at this;exact gO ⟨this,B,by dsimp only at d ⊢;omega⟩
    .by_cases f:gt p.cs c=0
     .simp[b,f];refine gd ?_;refine Yn (f91 { p:=p,kind:=0,cur:=0,jN:=false } C (by dsimp only;omega)) ?_;simp;refine gd ?_;refine Yt (f92 (k:=k) (s:=p.side) k0 (by omega) (by omega) (by omega)) ?_;simp;have G:=m.h0.at_ k k0 hi;have q0:=iP (l:=p.cs) (n:=c) (v:=1+2*k) u r;have q1:=iP (l:=p.h0) (n:=k) (v:=gt p.h0 k-1) k0 hi;simp[e,q0,q1];refine lh q0 q1 ?_;skip;refine LJ.i (c+1,o ++ [kl p k c]) (by first|rfl|simp[a,A,kl,Pos.hand,Pos.mY,lQ,e]) (by first|rfl|simp[a,A,kl,Pos.hand,Pos.mY,lQ,e]) rfl rfl ?_;have:=j [kl p k c] (by rw[t,if_neg (by simp[b,f])]);exact⟨by dsimp only;omega,by dsimp only;omega,by dsimp only;omega,this,by simp,by dsimp only at d ⊢;simp;omega⟩
     .simp[b,f];refine gd ?_;refine LJ.i (c+1,o) (by first|rfl|simp[a]) (by first|rfl|simp[a]) rfl rfl ?_;have:=j [] (by rw[t,if_pos (.inr f)]);rw[az]at this;exact gO ⟨this,B,by dsimp only at d ⊢;omega⟩
   .have z:(upto (k+1).toNat).flatMap (nv p)=o:=by rw[c2,xA k0,bO,show c.toNat=p.cs.length by omega];simp[nv]
    have a:o≠[]:=B;simp[r];refine gd ?_;refine LJ.i (k+1,o) (by first|rfl|simp[a]) (by first|rfl|simp[a]) rfl rfl ?_;exact gO ⟨z.symm,by dsimp only at d ⊢;omega⟩
 .have z:out=nb p:=by rw[k2,nb,show k.toNat=(p.hand p.side).length by simp[Pos.hand,e];omega]
  have H:∀q∈out,Small q:=λq F=>by rw[z,MZ m]at F;exact(Gk m F).small hg
  have I:=P9 hg m;rw[<-z]at I ⊢
  by_cases i:out = []
  .rw[if_pos i,if_pos i];simp[hi];refine gx.c rfl rfl (f48 [] (by simp) (by simp)) rfl (by simp) ?_;simp[i]
  .rw[if_neg i,if_neg i];simp[hi];refine gx.c (x:=dN 5 Pos.cells (kJ out)) rfl rfl (by rw[wS i];exact f48 out H (by omega)) (by simp) (by simp) ?_;simp
theorem aeW(g:gi)(hg:gV g)(p:Pos)(m:iw g p)(e:p.side=1):Wf T 149 [dG g,dP p] [] (Is (dN 5 Pos.cells (kJ (nb p)))):=by
 have L:=m.size;have N:=hg.jJ.size;have M:=hg.kinds;have C:=m.small hg;have K:=m.h0.len;have J:=m.h1.len;refine Yz ze (iZ 68 [1005] (iZ 62 [2039] ze.body)) ?_;simp[ze,iZ,kD,np,nz,nP,ma,e];refine gj.e ((0,[]):Int×List Pos) (λy=>[(3,.ptr 1 0 0),(5,if y.2 = []then .gg else .fY 2 (y.2.length-1) 5 0 y.2.length),(15,dI p.h1),(16,.i p.h1.length),(17,.i y.1)]) (λy=>[.row 43 0 g.cells,.row 46 0 p.cells]++(if y.2 = []then []else [.row 46 (y.2.length-1) (cl Pos.cells y.2)])) (λy=>0<=y.1/\y.1<=p.h1.length/\y.2=(upto y.1.toNat).flatMap (nv p)/\y.2.length<=9*y.1.toNat) (λy=>(p.h1.length-y.1).toNat) ?_ ?_
 .simp
 rintro⟨k,out⟩ ⟨k0,k1,k2,k3⟩;dsimp only at k0 k1 k2 k3 ⊢
 by_cases hi:k<p.h1.length
 .by_cases i:out = []
  .subst i;rw[if_pos rfl,if_pos rfl];simp[hi];refine gd ?_;refine gj.e ((0,[]):Int×List Pos) (λy=>[(3,.ptr 1 0 0),(5,if y.2 = []then .gg else .fY 2 (y.2.length-1) 5 0 y.2.length),(6,.i k),(7,.i (gt p.h1 k)),(15,dI p.h1),(16,.i p.h1.length),(17,.i k),(23,dI p.cs),(24,.i p.cs.length),(25,.i y.1)]) (λy=>[.row 43 0 g.cells,.row 46 0 p.cells]++(if y.2 = []then []else [.row 46 (y.2.length-1) (cl Pos.cells y.2)])) (λy=>0<=y.1/\y.1<=p.cs.length/\y.2=(upto k.toNat).flatMap (nv p)++(upto y.1.toNat).flatMap (l7 p k)/\y.2.length<=9*k.toNat+y.1.toNat) (λy=>(p.cs.length-y.1).toNat) ?_ ?_
   .exact⟨by omega,by omega,by dsimp only;simp[<-k2],by dsimp only;omega⟩
   rintro⟨c,o⟩ ⟨u,E,c2,d⟩;dsimp only at u E c2 d ⊢
   by_cases r:c<p.cs.length
   .have D:(upto k.toNat).flatMap (nv p)++(upto (c+1).toNat).flatMap (l7 p k)=o++l7 p k c:=by rw[xA u,bO,<-aL,<-c2];simp
    have j:∀w,l7 p k c=w->o++w=(upto k.toNat).flatMap (nv p)++(upto (c+1).toNat).flatMap (l7 p k):=λw h=>by rw[D,h]
    have t:l7 p k c=if gt p.h1 k=0\/gt p.cs c≠0 then []else [kl p k c]:=by simp[l7,Pos.hand,e]
    by_cases a:o = []
    .subst a;rw[if_pos rfl,if_pos rfl];simp[r]
     by_cases b:gt p.h1 k=0
     .simp[b];refine gd ?_;refine LJ.i (c+1,[]) (by first|rfl|simp[b]) (by first|rfl|simp[b]) rfl rfl ?_;have:=j [] (by rw[t,if_pos (.inl b)]);rw[az]at this;exact gO ⟨this,by dsimp only at d ⊢;omega⟩
     .by_cases f:gt p.cs c=0
      .simp[b,f];refine gd ?_;refine Yn (f91 { p:=p,kind:=0,cur:=0,jN:=false } C (by dsimp only;omega)) ?_;simp;refine gd ?_;refine Yt (f92 (k:=k) (s:=p.side) k0 (by omega) (by omega) (by omega)) ?_;simp;have G:=m.h1.at_ k k0 hi;have q0:=iP (l:=p.cs) (n:=c) (v:=1+2*k+1) u r;have q1:=iP (l:=p.h1) (n:=k) (v:=gt p.h1 k-1) k0 hi;simp[e,q0,q1];refine lh q0 q1 ?_;refine LJ.i (c+1,[kl p k c]) (by first|rfl|simp[iQ,kl,Pos.hand,Pos.mY,lQ,e]) (by first|rfl|simp[iQ,kl,Pos.hand,Pos.mY,lQ,e]) rfl rfl ?_;have:=j [kl p k c] (by rw[t,if_neg (by simp[b,f])]);exact gO ⟨this,by dsimp only at d ⊢;simp;omega⟩
      .simp[b,f];refine gd ?_;refine LJ.e (c+1,[]) ?_;have:=j [] (by rw[t,if_pos (.inr f)]);rw[az]at this;exact gO ⟨this,by dsimp only at d ⊢;omega⟩
    .have A:o.length-1+1=o.length:=by have:=ax.2 a;omega
     rw[if_neg a,if_neg a];simp[r]
     by_cases b:gt p.h1 k=0
     .simp[b];refine gd ?_;refine LJ.i (c+1,o) (by first|rfl|simp[b,a]) (by first|rfl|simp[b,a]) rfl rfl ?_;have:=j [] (by rw[t,if_pos (.inl b)]);rw[az]at this;exact gO ⟨this,by dsimp only at d ⊢;omega⟩
     .by_cases f:gt p.cs c=0
      .simp[b,f];refine gd ?_;refine Yn (f91 { p:=p,kind:=0,cur:=0,jN:=false } C (by dsimp only;omega)) ?_;simp;refine gd ?_;refine Yt (f92 (k:=k) (s:=p.side) k0 (by omega) (by omega) (by omega)) ?_;simp;have G:=m.h1.at_ k k0 hi;have q0:=iP (l:=p.cs) (n:=c) (v:=1+2*k+1) u r;have q1:=iP (l:=p.h1) (n:=k) (v:=gt p.h1 k-1) k0 hi;simp[e,q0,q1];refine lh q0 q1 ?_;skip;refine LJ.i (c+1,o ++ [kl p k c]) (by first|rfl|simp[a,A,kl,Pos.hand,Pos.mY,lQ,e]) (by first|rfl|simp[a,A,kl,Pos.hand,Pos.mY,lQ,e]) rfl rfl ?_;have:=j [kl p k c] (by rw[t,if_neg (by simp[b,f])]);exact gO ⟨this,by dsimp only at d ⊢;simp;omega⟩
      .simp[b,f];refine gd ?_;refine LJ.i (c+1,o) (by first|rfl|simp[a]) (by first|rfl|simp[a]) rfl rfl ?_;have:=j [] (by rw[t,if_pos (.inr f)]);rw[az]at this;exact gO ⟨this,by dsimp only at d ⊢;omega⟩
   .have z:(upto (k+1).toNat).flatMap (nv p)=o:=by rw[c2,xA k0,bO,show c.toNat=p.cs.length by omega];simp[nv]
    by_cases a:o = []
    .rw[if_pos a,if_pos a];simp[r];refine gd ?_;refine LJ.i (k+1,o) (by first|rfl|simp[a]) (by first|rfl|simp[a]) rfl rfl ?_;exact gO ⟨z.symm,by dsimp only at d ⊢;omega⟩
    .rw[if_neg a,if_neg a];simp[r];refine gd ?_;refine LJ.i (k+1,o) (by first|rfl|simp[a]) (by first|rfl|simp[a]) rfl rfl ?_;exact gO ⟨z.symm,by dsimp only at d ⊢;omega⟩
  .rw[if_neg i,if_neg i];simp[hi];refine gd ?_;refine gj.e ((0,out):Int×List Pos) (λy=>[(3,.ptr 1 0 0),(5,.fY 2 (y.2.length-1) 5 0 y.2.length),(6,.i k),(7,.i (gt p.h1 k)),(15,dI p.h1),(16,.i p.h1.length),(17,.i k),(23,dI p.cs),(24,.i p.cs.length),(25,.i y.1)]) (λy=>[.row 43 0 g.cells,.row 46 0 p.cells,.row 46 (y.2.length-1) (cl Pos.cells y.2)]) (λy=>0<=y.1/\y.1<=p.cs.length/\y.2=(upto k.toNat).flatMap (nv p)++(upto y.1.toNat).flatMap (l7 p k)/\y.2≠[]/\y.2.length<=9*k.toNat+y.1.toNat) (λy=>(p.cs.length-y.1).toNat) ?_ ?_
   .exact⟨by omega,by omega,by dsimp only;rw[k2];simp,i,by dsimp only;omega⟩
   rintro⟨c,o⟩ ⟨u,E,c2,B,d⟩;dsimp only at u E c2 d ⊢
   by_cases r:c<p.cs.length
   .have D:(upto k.toNat).flatMap (nv p)++(upto (c+1).toNat).flatMap (l7 p k)=o++l7 p k c:=by rw[xA u,bO,<-aL,<-c2];simp
    have j:∀w,l7 p k c=w->o++w=(upto k.toNat).flatMap (nv p)++(upto (c+1).toNat).flatMap (l7 p k):=λw h=>by rw[D,h]
    have t:l7 p k c=if gt p.h1 k=0\/gt p.cs c≠0 then []else [kl p k c]:=by simp[l7,Pos.hand,e]
    have a:o≠[]:=B;have A:o.length-1+1=o.length:=by have:=ax.2 a;omega
    simp[r]
    by_cases b:gt p.h1 k=0
    .simp[b];refine gd ?_;refine LJ.i (c+1,o) (by first|rfl|simp[b,a]) (by first|rfl|simp[b,a]) rfl rfl ?_;have:=j [] (by rw[t,if_pos (.inl b)]);rw[az]at this;exact gO ⟨this,B,by dsimp only at d ⊢;omega⟩
    .by_cases f:gt p.cs c=0
     .simp[b,f];refine gd ?_;refine Yn (f91 { p:=p,kind:=0,cur:=0,jN:=false } C (by dsimp only;omega)) ?_;simp;refine gd ?_;refine Yt (f92 (k:=k) (s:=p.side) k0 (by omega) (by omega) (by omega)) ?_;simp;have G:=m.h1.at_ k k0 hi;have q0:=iP (l:=p.cs) (n:=c) (v:=1+2*k+1) u r;have q1:=iP (l:=p.h1) (n:=k) (v:=gt p.h1 k-1) k0 hi;simp[e,q0,q1];refine lh q0 q1 ?_;skip;refine LJ.i (c+1,o ++ [kl p k c]) (by first|rfl|simp[a,A,kl,Pos.hand,Pos.mY,lQ,e]) (by first|rfl|simp[a,A,kl,Pos.hand,Pos.mY,lQ,e]) rfl rfl ?_;have:=j [kl p k c] (by rw[t,if_neg (by simp[b,f])]);exact⟨by dsimp only;omega,by dsimp only;omega,by dsimp only;omega,this,by simp,by dsimp only at d ⊢;simp;omega⟩
     .simp[b,f];refine gd ?_;refine LJ.i (c+1,o) (by first|rfl|simp[a]) (by first|rfl|simp[a]) rfl rfl ?_;have:=j [] (by rw[t,if_pos (.inr f)]);rw[az]at this;exact gO ⟨this,B,by dsimp only at d ⊢;omega⟩
   .have z:(upto (k+1).toNat).flatMap (nv p)=o:=by rw[c2,xA k0,bO,show c.toNat=p.cs.length by omega];simp[nv]
    have a:o≠[]:=B;simp[r];refine gd ?_;refine LJ.i (k+1,o) (by first|rfl|simp[a]) (by first|rfl|simp[a]) rfl rfl ?_;exact gO ⟨z.symm,by dsimp only at d ⊢;omega⟩
 .have z:out=nb p:=by rw[k2,nb,show k.toNat=(p.hand p.side).length by simp[Pos.hand,e];omega]
  have H:∀q∈out,Small q:=λq F=>by rw[z,MZ m]at F;exact(Gk m F).small hg
  have I:=P9 hg m;rw[<-z]at I ⊢
  by_cases i:out = []
  .rw[if_pos i,if_pos i];simp[hi];refine gx.c rfl rfl (f48 [] (by simp) (by simp)) rfl (by simp) ?_;simp[i]
  .rw[if_neg i,if_neg i];simp[hi];refine gx.c (x:=dN 5 Pos.cells (kJ out)) rfl rfl (by rw[wS i];exact f48 out H (by omega)) (by simp) (by simp) ?_;simp
theorem f49(g:gi)(hg:gV g)(p:Pos)(a:iw g p):Wf T 149 [dG g,dP p] [] (Is (dN 5 Pos.cells (kJ (nb p)))):=by
 have:=a.side;rcases(show p.side=0\/p.side=1 by omega)with e|e
 .exact aeV g hg p a e
 .exact aeW g hg p a e
