/- Part 17 of DisputeMatchesReference. -/
import Derived.Test.YtmehofoficaelaaGreatDoorM16
set_option linter.all false
open List renaming length→List.l
open Int renaming toNat→Int.n
namespace Go.Proofs.YtmehofoficaelaaGreatDoor
open Go Go.AL Classical
set_option maxRecDepth 10000
set_option maxHeartbeats 8000000
attribute [local simp] qf
@[simp] theorem auK(l:List gG):closed (dN 8 gG.cells l)=true:=aen l
def seen(l:List gG):Ob:=.map .str (l.map λs=>(.string (pW s),.b true))
def FQ{g:gv}(hg:gZ g){p:Pos}(a:iI g p):(pk p).l<1000:=by have h1:=a.size;have e:=a.h0.len;have d:=a.h1.len;have c:=hg.ki.size;have b:=hg.kinds;rw[Dq,AQ];simp;omega
theorem Eu(x:gG):∀(l a:List gG),nc a (l ++ [x])=if x∈nc a l then nc a l else nc a l ++ [x]
 | [],a=>rfl
 | y::l,a=>by rw[cy,nc,Eu x l,nc]
@[simp] theorem az6(ρ:Nat->Option Nat)(H:gg)(n:Nat):((λx:Value×D=>(x.1,gA ρ H n x.2)) ∘ λs:gG=>((.string (pW s):Value),D.b true))=λs:gG=>((.string (pW s):Value),D.b true):=by funext s;simp
@[simp] theorem aBj(n:Nat)(f:List Nat->List Nat):(f ∘ (λx:Value×D=>jP n x.2) ∘ λs:gG=>((.string (pW s):Value),D.b true))=λ_:gG=>f []:=by funext s;rfl
@[simp] theorem avw(l:List gG):(l.map λ_=>([]:List Nat)).flatten = []:=oh
theorem abw(g:gv)(x:gj)(l:List gG)(s:gG):pY g x (l ++ [s])=nc (pY g x l) (jz g s x):=by simp[pY]
def uh(g:gv):List gj->List gG->List gG
 | [],now=>now
 | x::r,now=>uh g r (pY g x now)
def vD(g:gv)(p:Pos)(c n:Int):List ij:=(uh g (gt (gt g.kinds (gV (gt p.cs c))).jN n) [mc p c]).filterMap (pv p.side)
def f121(g:gv)(hg:gZ g)(p:Pos)(z:iI g p)(c n:Int)(F:0<=c/\c<p.cs.l)(hs:kE (gt p.cs c)=p.side)(X:0<=n/\n<(gt g.kinds (gV (gt p.cs c))).jN.l) :
  Wf T 259 [dG g,dP p,.i c,.i n,.fn (.func 260) [] [.ptr 1 0 0,.ptr 2 0 0]] [.row 43 0 g.cells,.row 46 0 p.cells,.row 256 0 [.gp]] (λd H'=>d = .i 0/\H'=if vD g p c n = []then [.row 43 0 g.cells,.row 46 0 p.cells,.row 256 0 [.gp]]else [.row 43 0 g.cells,.row 46 0 p.cells,.row 256 0 [.gh 3 ((vD g p c n).l-1) 6 0 (vD g p c n).l],.row 259 ((vD g p c n).l-1) (cl ij.cells (vD g p c n))]):=by
 have hz:=z.size;have hb:=hg.ki.size;have E:=hg.kinds;have jB:=z.side;have jD:=z.cs _ (gF F.1 F.2)
 have Z:0<=gV (gt p.cs c):=by
  unfold kE at hs;unfold gV;split at hs<;>rename_i h5
  .grind
  .omega
 have Y:gV (gt p.cs c)<g.kinds.l:=zN jD.2 E.1;refine Yz GJ (jm 127 [1017] (jm 79 [9] (jm 77 [5,6,7] GJ.body))) ?_;simp[GJ,jm,kS,nR,nU,oo,mm];refine Yc (f97 g hg p z) ?_;simp;(with_reducible repeat' first|refine Xk ?_<;>try simp|refine Xs ?_ ?_<;>intro h<;>(try intro h')<;>(try simp[h])<;>try omega|refine Xg ?_|omega);refine Yc (f84 (gt p.cs c)) ?_;simp;simp[hs];(with_reducible repeat' first|refine Xk ?_<;>try simp|refine Xs ?_ ?_<;>intro h<;>(try intro h')<;>(try simp[h])<;>try omega|refine Xg ?_|omega);have lC:=z.small hg;have l0:=z.h0.len;have l1:=z.h1.len;have q0:=jg (l:=p.cs) (n:=c) (v:=0) F.1 F.2;refine Yn (f91 { p:=p,kind:=gV (gt p.cs c),cur:=c,kn:=false } lC gI) ?_;simp;refine iU q0 ?_;have W:yT g (gt (gt g.kinds (gV (gt p.cs c))).jN n):=(hg.jN _ (gF Z Y)).2 _ (gF X.1 X.2);have gD:kU g (mc p c):=⟨z.DR F.1 U U,⟨Z,Y⟩,⟨F.1,by show c<g.size;omega⟩⟩;have O:vD g p c n=(uh g (gt (gt g.kinds (gV (gt p.cs c))).jN n) [mc p c]).filterMap (pv p.side):=rfl;generalize vD g p c n=OO at *;generalize gt (gt g.kinds (gV (gt p.cs c))).jN n=prog at *;have iR:=W.len;have hq:dN 8 gG.cells [mc p c]=lr [⟨⟨pt p.cs c 0,p.h0,p.h1,p.gX,p.side⟩,gV (gt p.cs c),c,false⟩]:=rfl;refine gx.s (by simp[q0];rfl) ?_;refine gx.k ((0,[mc p c]):Int×List gG) (λy=>[(4,.fn (.func 260) [] [.ptr 1 0 0,.ptr 2 0 0]),(5,.ptr 3 0 0),(14,qf y.2),(87,iu prog),(88,.i prog.l),(89,.i y.1)]) (λy=>[.row 43 0 g.cells,.row 46 0 p.cells,.row 256 0 [.gp],.row 43 0 g.cells,.row 46 0 p.cells,.dead,.dead,.dead,.row 330 0 (mc p c).cells,.dead]) (λy=>0<=y.1/\y.1<=prog.l/\(∀s∈y.2,kU g s)/\y.2.l<=10 ^ y.1.n/\uh g prog [mc p c]=uh g (prog.drop y.1.n) y.2) (λy=>(prog.l-y.1).n) ?_ (by simp[hq]) (by simp[q0,mc]) rfl rfl rfl ?_
 .grind
 rintro⟨k,now⟩ ⟨k0,k1,k2,k3,k4⟩;dsimp only at k0 k1 k2 k3 k4 ⊢;have a4:(10:Nat) ^ k.n<=10 ^ 8:=cY jr U
 by_cases E:k<prog.l
 .have C:=W.steps _ (gF k0 E);simp[E];refine gi ?_;refine gx.e ((0,[]):Int×List gG) (λy=>[(4,.fn (.func 260) [] [.ptr 1 0 0,.ptr 2 0 0]),(5,.ptr 3 0 0),(16,.ptr 10 0 0),(17,if y.2 = []then .gp else .gh 12 (y.2.l-1) 8 0 y.2.l),(18,.gM 11),(87,iu prog),(88,.i prog.l),(89,.i k),(94,qf now),(95,.i now.l),(96,.i y.1)]) (λy=>[.row 43 0 g.cells,.row 46 0 p.cells,.row 256 0 [.gp],.row 43 0 g.cells,.row 46 0 p.cells,.dead,.dead,.dead,.row 330 0 (mc p c).cells,.dead,.row 173 0 [.i (gt prog k).1,.i (gt prog k).2],.map .str (y.2.map λs=>(.string (pW s),.b true))]++(if y.2 = []then []else [.row 330 (y.2.l-1) (cl gG.cells y.2)])) (λy=>0<=y.1/\y.1<=now.l/\y.2=pY g (gt prog k) (now.take y.1.n)) (λy=>(now.l-y.1).n) ?_ ?_
  .simp[pY]
  rintro⟨i,f⟩ ⟨i0,M,r⟩;dsimp only at i0 M r ⊢
  by_cases hi:i<now.l
  .have I:=k2 _ (gF i0 hi)
   by_cases w:f = []
   .rw[if_pos w,if_pos w];subst w;simp[hi];refine gi ?_;refine gE.inl ue rfl rfl (by simp[ue]) rfl ?_;simp[ue];have L:(gt prog k).1≠0:=by have:=C.ok;omega
    simp[L];refine Yc (f164 g hg (gt now i) I (gt prog k) C) ?_;simp;refine gx.s ny ?_;have J:∀t∈jz g (gt now i) (gt prog k),kU g t:=λt e=>DY hg I C e;have Q:(jz g (gt now i) (gt prog k)).l<=10:=Gm;generalize R:jz g (gt now i) (gt prog k)=ss at *;refine gx.e ((0,[]):Int×List gG) (λy=>[(4,.fn (.func 260) [] [.ptr 1 0 0,.ptr 2 0 0]),(5,.ptr 3 0 0),(16,.ptr 10 0 0),(17,if y.2 = []then .gp else .gh 13 (y.2.l-1) 8 0 y.2.l),(18,.gM 11),(87,iu prog),(88,.i prog.l),(89,.i k),(94,qf now),(95,.i now.l),(96,.i i),(107,dN 8 gG.cells ss),(108,.i ss.l),(109,.i y.1)]) (λy=>[.row 43 0 g.cells,.row 46 0 p.cells,.row 256 0 [.gp],.row 43 0 g.cells,.row 46 0 p.cells,.dead,.dead,.dead,.row 330 0 (mc p c).cells,.dead,.row 173 0 [.i (gt prog k).1,.i (gt prog k).2],.map .str (y.2.map λs=>(.string (pW s),.b true)),.row 330 0 (gt now i).cells]++(if y.2 = []then []else [.row 330 (y.2.l-1) (cl gG.cells y.2)])) (λy=>0<=y.1/\y.1<=ss.l/\y.2=nc [] (ss.take y.1.n)) (λy=>(ss.l-y.1).n) ?_ ?_
    .simp[nc]
    rintro⟨j,A⟩ ⟨j0,j1,j2⟩;dsimp only at j0 j1 j2 ⊢
    have G:∀t∈A,kU g t:=λt e=>J t (by
     rw[j2,G8]at e
     exact aS (e.resolve_left gf))
    by_cases u:j<ss.l
    .have e:=J _ (gF j0 u);have nN:=TQ hg e.p
     by_cases m:A = []
     .rw[if_pos m,if_pos m];subst m;simp[u];refine gi ?_;refine Yc (f165 (gt ss j) (by have:=e.kind;omega) (by have:=e.cur;omega) (by have:=e.p.size;omega) (FQ hg e.p)) ?_;simp;refine gi ?_;refine LJ.i (j+1,[gt ss j]) (by first|rfl|simp[iY]) (by first|rfl|simp[iY]) rfl rfl ?_;refine ic ?_;dsimp only;rw[jI j0 u,Eu,<-j2];simp
     .rw[if_neg m,if_neg m];simp[u];refine gi ?_;refine Yc (f165 (gt ss j) (by have:=e.kind;omega) (by have:=e.cur;omega) (by have:=e.p.size;omega) (FQ hg e.p)) ?_;simp;simp[Ub hg e G]
      by_cases gQ:gt ss j∈A
      .simp[gQ];refine gi ?_;refine LJ.i (j+1,A) (by first|rfl|simp[m]) (by first|rfl|simp[m]) rfl rfl ?_;refine ic ?_;dsimp only;rw[jI j0 u,Eu,<-j2,if_pos gQ]
      .have a3:0<A.l:=ao.2 m
       have N:A.l<=ss.l:=by have h1:=G7 (a:=[]) (b:=ss.take j.n);rw[<-j2,aG]at h1;simp at h1;omega
       simp[gQ,Uh hg e G gQ];refine gi ?_;refine LJ.i (j+1,A ++ [gt ss j]) (by first|rfl|simp[(U:A.l-1+1=A.l)]) (by first|rfl|simp[(U:A.l-1+1=A.l)]) rfl rfl ?_;refine ic ?_;dsimp only;rw[jI j0 u,Eu,<-j2,if_neg gQ]
    .rw[lW U]at j2
     have H:pY g (gt prog k) (now.take (i+1).n)=A:=by rw[jI i0 hi,abw,<-r,R,j2]
     by_cases m:A = []
     .rw[if_pos m,if_pos m];simp[u,m];refine gi ?_;refine LJ.e (i+1,[]) ?_;exact ic (by rw[H,m])
     .rw[if_neg m,if_neg m];simp[u];refine gi ?_;refine LJ.i (i+1,A) (by first|rfl|simp[m]) (by first|rfl|simp[m]) rfl rfl ?_;exact ic H.symm
   .rw[if_neg w,if_neg w]
    have a6:∀t∈f,kU g t:=λt e=>by rw[r,PQ,bN]at e;obtain⟨s',h1,P⟩:=e;exact DY hg (k2 _ (aS h1)) C P
    have Bb:f.l<=10*now.l:=by rw[r];refine Nat.le_trans Jr ?_;rw[aG];omega
    have ZI:0<f.l:=ao.2 w;simp[hi];refine gi ?_;refine gE.inl ue rfl rfl (by simp[ue]) rfl ?_;simp[ue];have L:(gt prog k).1≠0:=by have:=C.ok;omega
    simp[L];refine Yc (f164 g hg (gt now i) I (gt prog k) C) ?_;simp;refine gx.s ny ?_;have J:∀t∈jz g (gt now i) (gt prog k),kU g t:=λt e=>DY hg I C e;have Q:(jz g (gt now i) (gt prog k)).l<=10:=Gm;generalize R:jz g (gt now i) (gt prog k)=ss at *;refine gx.e ((0,f):Int×List gG) (λy=>[(4,.fn (.func 260) [] [.ptr 1 0 0,.ptr 2 0 0]),(5,.ptr 3 0 0),(16,.ptr 10 0 0),(17,.gh 12 (y.2.l-1) 8 0 y.2.l),(18,.gM 11),(87,iu prog),(88,.i prog.l),(89,.i k),(94,qf now),(95,.i now.l),(96,.i i),(107,dN 8 gG.cells ss),(108,.i ss.l),(109,.i y.1)]) (λy=>[.row 43 0 g.cells,.row 46 0 p.cells,.row 256 0 [.gp],.row 43 0 g.cells,.row 46 0 p.cells,.dead,.dead,.dead,.row 330 0 (mc p c).cells,.dead,.row 173 0 [.i (gt prog k).1,.i (gt prog k).2],.map .str (y.2.map λs=>(.string (pW s),.b true)),.row 330 (y.2.l-1) (cl gG.cells y.2),.row 330 0 (gt now i).cells]) (λy=>0<=y.1/\y.1<=ss.l/\y.2=nc f (ss.take y.1.n)/\0<y.2.l) (λy=>(ss.l-y.1).n) ?_ ?_
    .simp[nc];exact ZI
    rintro⟨j,A⟩ ⟨j0,j1,j2,j3⟩;dsimp only at j0 j1 j2 j3 ⊢
    have G:∀t∈A,kU g t:=λt e=>by
     rw[j2,G8]at e;rcases e with e|e
     .grind
     .grind
    have N:A.l<=f.l+ss.l:=by have h1:=G7 (a:=f) (b:=ss.take j.n);rw[<-j2,aG]at h1;omega
    by_cases u:j<ss.l
    .have e:=J _ (gF j0 u);simp[u];refine gi ?_;refine Yc (f165 (gt ss j) (by have:=e.kind;omega) (by have:=e.cur;omega) (by have:=e.p.size;omega) (FQ hg e.p)) ?_;simp;simp[Ub hg e G]
     by_cases gQ:gt ss j∈A
     .simp[gQ];refine gi ?_;refine LJ.e (j+1,A) ?_;refine ic ⟨?_,j3⟩;dsimp only;rw[jI j0 u,Eu,<-j2,if_pos gQ]
     .simp[gQ,Uh hg e G gQ];refine gi ?_;refine LJ.i (j+1,A ++ [gt ss j]) (by first|rfl|simp[(U:A.l-1+1=A.l)]) (by first|rfl|simp[(U:A.l-1+1=A.l)]) rfl rfl ?_;refine ic ⟨?_,gf⟩;dsimp only;rw[jI j0 u,Eu,<-j2,if_neg gQ]
    .rw[lW U]at j2
     have H:pY g (gt prog k) (now.take (i+1).n)=A:=by rw[jI i0 hi,abw,<-r,R,j2]
     have m:A≠[]:=ao.1 j3;simp[u];refine gi ?_;refine LJ.i (i+1,A) (by first|rfl|simp[m]) (by first|rfl|simp[m]) rfl rfl ?_;exact ic H.symm
  .rw[lW U]at r
   have gu:∀t∈f,kU g t:=λt e=>by rw[r,PQ,bN]at e;obtain⟨s',h1,P⟩:=e;exact DY hg (k2 _ h1) C P
   have Bb:f.l<=10*now.l:=by rw[r];exact Jr
   have S:f.l<=10 ^ (k+1).n:=by rw[(U:(k+1).n=k.n+1),eN];omega
   have K:uh g prog [mc p c]=uh g (prog.drop (k+1).n) f:=by rw[k4,o7 k0 E,uh,<-r,(U:(k+1).n=k.n+1)]
   by_cases w:f = []
   .rw[if_pos w,if_pos w];simp[hi,w];refine gi ?_;refine LJ.i (k+1,[]) (by first|rfl|simp[dN]) (by first|rfl|simp[dN]) rfl rfl ?_;rw[w]at gu S K;exact ic ⟨gu,S,K⟩
   .rw[if_neg w,if_neg w];have V:lr f=dN 8 gG.cells f:=Rq w;simp[hi];refine gi ?_;refine LJ.i (k+1,f) (by first|rfl|simp[V]) (by first|rfl|simp[V]) rfl rfl ?_;exact ic ⟨gu,S,K⟩
 .rw[bF U]at k4;rw[k4,uh]at O;have h8:now.l<=10 ^ 8:=U;simp[E];refine gi ?_;refine gx.e ((0,[]):Int×List ij) (λy=>[(4,.fn (.func 260) [] [.ptr 1 0 0,.ptr 2 0 0]),(129,qf now),(130,.i now.l),(131,.i y.1)]) (λy=>zo g p (mc p c) (if y.2 = []then .gp else .gh 10 (y.2.l-1) 6 0 y.2.l)++(if y.2 = []then []else [.row 259 (y.2.l-1) (cl ij.cells y.2)])) (λy=>0<=y.1/\y.1<=now.l/\y.2=(now.take y.1.n).filterMap (pv p.side)) (λy=>(now.l-y.1).n) ?_ ?_
  .simp
  rintro⟨i,outs⟩ ⟨i0,M,r⟩;dsimp only at i0 M r ⊢
  by_cases hi:i<now.l
  .have e:=k2 _ (gF i0 hi);have mU:outs.l<=now.l:=jZ
   have B:(now.take (i+1).n).filterMap (pv p.side)=outs++(pv p.side (gt now i)).toList:=by rw[jI i0 hi,List.filterMap_append,<-r];cases D:pv p.side (gt now i)<;>simp[D]
   by_cases q:outs = []
   .rw[if_pos q,if_pos q];subst q;simp[hi];refine gi ?_;refine gE.lU rfl rfl (age g hg p z (mc p c) (gt now i) e) ?_;rintro d H' x
    cases D:pv p.side (gt now i)with
    | none=>
     rw[D]at x B;dsimp only at x;subst x;simp;refine gi ?_;refine LJ.e (i+1,[]) ?_;exact ic (by rw[B];rfl)
    | some o=>
     rw[D]at x B;dsimp only at x;subst x;simp;refine gi ?_;refine LJ.e (i+1,[o]) ?_;exact ic (by rw[B];rfl)
   .rw[if_neg q,if_neg q];simp[hi];refine gi ?_;refine gE.lU rfl rfl (agf g hg p z (mc p c) (gt now i) e outs U (ao.2 q)) ?_;rintro d H' x
    cases D:pv p.side (gt now i)with
    | none=>
     rw[D]at x B;dsimp only at x;subst x;simp;refine gi ?_;refine LJ.i (i+1,outs) (by first|rfl|simp[q]) (by first|rfl|simp[q]) rfl rfl ?_;exact ic (by rw[B];simp)
    | some o=>
     rw[D]at x B;dsimp only at x;subst x;simp;refine gi ?_;refine LJ.e (i+1,outs ++ [o]) ?_;exact ic (by rw[B];rfl)
  .rw[lW U]at r;rw[<-r]at O;subst O
   by_cases q:OO = []
   .rw[if_pos q,if_pos q];simp[hi,q]
   .rw[if_neg q,if_neg q];simp[hi,q]
