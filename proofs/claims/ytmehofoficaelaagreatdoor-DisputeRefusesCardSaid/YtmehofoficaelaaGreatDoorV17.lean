/- 17 -/
import Derived.Test.YtmehofoficaelaaGreatDoorV16
set_option linter.all false
open List renaming length→List.l
open Int renaming toNat→Int.n
namespace Go.Proofs.YtmehofoficaelaaGreatDoor
open Go Go.AL Classical
set_option maxRecDepth 10000
set_option maxHeartbeats 8000000
attribute [local simp] pn
@[simp] theorem asZ(l:List gD):closed (dN 8 gD.cells l)=true:=acP l
def seen(l:List gD):Ob:=.map .str (l.map λs=>(.string (o6 s),.b true))
def EL{g:gq}(hg:gR g){p:Pos}(a:iC g p):(oz p).l<1000:=by have h1:=a.size;have e:=a.h0.len;have d:=a.h1.len;have c:=hg.jU.size;have b:=hg.kinds;rw[Ce,zI];simp;omega
theorem Dp(x:gD):∀(l a:List gD),my a (l ++ [x])=if x∈my a l then my a l else my a l ++ [x]
 | [],a=>rfl
 | y::l,a=>by rw[cE,my,Dp x l,my]
@[simp] theorem ays(ρ:Nat->Option Nat)(H:gd)(n:Nat):((λx:Value×D=>(x.1,gw ρ H n x.2)) ∘ λs:gD=>((.string (o6 s):Value),D.b true))=λs:gD=>((.string (o6 s):Value),D.b true):=by funext s;simp
@[simp] theorem azD(n:Nat)(f:List Nat->List Nat):(f ∘ (λx:Value×D=>jB n x.2) ∘ λs:gD=>((.string (o6 s):Value),D.b true))=λ_:gD=>f []:=by funext s;rfl
@[simp] theorem atN(l:List gD):(l.map λ_=>([]:List Nat)).flatten = []:=n9
theorem ZR(g:gq)(x:gg)(l:List gD)(s:gD):o8 g x (l ++ [s])=my (o8 g x l) (jj g s x):=by simp[o8]
def sV(g:gq):List gg->List gD->List gD
 | [],now=>now
 | x::r,now=>sV g r (o8 g x now)
def uj(g:gq)(p:Pos)(c n:Int):List gY:=(sV g (gt (gt g.kinds (gN (gt p.cs c))).jA n) [lL p c]).filterMap (oF p.side)
def f121(g:gq)(hg:gR g)(p:Pos)(B:iC g p)(c n:Int)(G:0<=c/\c<p.cs.l)(hs:kh (gt p.cs c)=p.side)(X:0<=n/\n<(gt g.kinds (gN (gt p.cs c))).jA.l) :
  Wf T 259 [dG g,dP p,.i c,.i n,.fn (.func 260) [] [.ptr 1 0 0,.ptr 2 0 0]] [.row 43 0 g.cells,.row 46 0 p.cells,.row 256 0 [.gi]] (λd H'=>d = .i 0/\H'=if uj g p c n = []then [.row 43 0 g.cells,.row 46 0 p.cells,.row 256 0 [.gi]]else [.row 43 0 g.cells,.row 46 0 p.cells,.row 256 0 [.gf 3 ((uj g p c n).l-1) 6 0 (uj g p c n).l],.row 259 ((uj g p c n).l-1) (cl gY.cells (uj g p c n))]):=by
 have hz:=B.size;have hb:=hg.jU.size;have F:=hg.kinds;have jy:=B.side;have js:=B.cs _ (gF G.1 G.2)
 have Z:0<=gN (gt p.cs c):=by
  unfold kh at hs;unfold gN;split at hs<;>rename_i h5
  .grind
  .omega
 have Y:gN (gt p.cs c)<g.kinds.l:=yI js.2 F.1;refine Yz FA (ji 127 [1017] (ji 79 [9] (ji 77 [5,6,7] FA.body))) ?_;simp[FA,ji,kK,nq,nA,nR,mm];refine Yc (f97 g hg p B) ?_;simp;(with_reducible repeat' first|refine Xk ?_<;>try simp|refine Xs ?_ ?_<;>intro h<;>(try intro h')<;>(try simp[h])<;>try omega|refine Xg ?_|omega);refine Yc (f84 (gt p.cs c)) ?_;simp;simp[hs];(with_reducible repeat' first|refine Xk ?_<;>try simp|refine Xs ?_ ?_<;>intro h<;>(try intro h')<;>(try simp[h])<;>try omega|refine Xg ?_|omega);have kD:=B.small hg;have l0:=B.h0.len;have l1:=B.h1.len;have q0:=iW (l:=p.cs) (n:=c) (v:=0) G.1 G.2;refine Yn (f91 { p:=p,kind:=gN (gt p.cs c),cur:=c,jY:=false } kD gJ) ?_;simp;refine jT q0 ?_;have W:xO g (gt (gt g.kinds (gN (gt p.cs c))).jA n):=(hg.jA _ (gF Z Y)).2 _ (gF X.1 X.2);have gA:kA g (lL p c):=⟨B.CI G.1 U U,⟨Z,Y⟩,⟨G.1,by show c<g.size;omega⟩⟩;have P:uj g p c n=(sV g (gt (gt g.kinds (gN (gt p.cs c))).jA n) [lL p c]).filterMap (oF p.side):=rfl;generalize uj g p c n=OO at *;generalize gt (gt g.kinds (gN (gt p.cs c))).jA n=prog at *;have iP:=W.len;have hq:dN 8 gD.cells [lL p c]=kL [⟨⟨pt p.cs c 0,p.h0,p.h1,p.gO,p.side⟩,gN (gt p.cs c),c,false⟩]:=rfl;refine gx.s (by simp[q0];rfl) ?_;refine gx.k ((0,[lL p c]):Int×List gD) (λy=>[(4,.fn (.func 260) [] [.ptr 1 0 0,.ptr 2 0 0]),(5,.ptr 3 0 0),(14,pn y.2),(87,iw prog),(88,.i prog.l),(89,.i y.1)]) (λy=>[.row 43 0 g.cells,.row 46 0 p.cells,.row 256 0 [.gi],.row 43 0 g.cells,.row 46 0 p.cells,.dead,.dead,.dead,.row 330 0 (lL p c).cells,.dead]) (λy=>0<=y.1/\y.1<=prog.l/\(∀s∈y.2,kA g s)/\y.2.l<=10 ^ y.1.n/\sV g prog [lL p c]=sV g (prog.drop y.1.n) y.2) (λy=>(prog.l-y.1).n) ?_ (by simp[hq]) (by simp[q0,lL]) rfl rfl rfl ?_
 .grind
 rintro⟨k,now⟩ ⟨k0,k1,k2,k3,k4⟩;dsimp only at k0 k1 k2 k3 k4 ⊢;have a6:(10:Nat) ^ k.n<=10 ^ 8:=cO jh U
 by_cases F:k<prog.l
 .have D:=W.steps _ (gF k0 F);simp[F];refine gh ?_;refine gx.e ((0,[]):Int×List gD) (λy=>[(4,.fn (.func 260) [] [.ptr 1 0 0,.ptr 2 0 0]),(5,.ptr 3 0 0),(16,.ptr 10 0 0),(17,if y.2 = []then .gi else .gf 12 (y.2.l-1) 8 0 y.2.l),(18,.gH 11),(87,iw prog),(88,.i prog.l),(89,.i k),(94,pn now),(95,.i now.l),(96,.i y.1)]) (λy=>[.row 43 0 g.cells,.row 46 0 p.cells,.row 256 0 [.gi],.row 43 0 g.cells,.row 46 0 p.cells,.dead,.dead,.dead,.row 330 0 (lL p c).cells,.dead,.row 173 0 [.i (gt prog k).1,.i (gt prog k).2],.map .str (y.2.map λs=>(.string (o6 s),.b true))]++(if y.2 = []then []else [.row 330 (y.2.l-1) (cl gD.cells y.2)])) (λy=>0<=y.1/\y.1<=now.l/\y.2=o8 g (gt prog k) (now.take y.1.n)) (λy=>(now.l-y.1).n) ?_ ?_
  .simp[o8]
  rintro⟨i,f⟩ ⟨i0,N,r⟩;dsimp only at i0 N r ⊢
  by_cases hi:i<now.l
  .have J:=k2 _ (gF i0 hi)
   by_cases w:f = []
   .rw[if_pos w,if_pos w];subst w;simp[hi];refine gh ?_;refine gy.inl sT rfl rfl (by simp[sT]) rfl ?_;simp[sT];have M:(gt prog k).1≠0:=by have:=D.ok;omega
    simp[M];refine Yc (f164 g hg (gt now i) J (gt prog k) D) ?_;simp;refine gx.s mu ?_;have K:∀t∈jj g (gt now i) (gt prog k),kA g t:=λt e=>CR hg J D e;have R:(jj g (gt now i) (gt prog k)).l<=10:=Fg;generalize S:jj g (gt now i) (gt prog k)=ss at *;refine gx.e ((0,[]):Int×List gD) (λy=>[(4,.fn (.func 260) [] [.ptr 1 0 0,.ptr 2 0 0]),(5,.ptr 3 0 0),(16,.ptr 10 0 0),(17,if y.2 = []then .gi else .gf 13 (y.2.l-1) 8 0 y.2.l),(18,.gH 11),(87,iw prog),(88,.i prog.l),(89,.i k),(94,pn now),(95,.i now.l),(96,.i i),(107,dN 8 gD.cells ss),(108,.i ss.l),(109,.i y.1)]) (λy=>[.row 43 0 g.cells,.row 46 0 p.cells,.row 256 0 [.gi],.row 43 0 g.cells,.row 46 0 p.cells,.dead,.dead,.dead,.row 330 0 (lL p c).cells,.dead,.row 173 0 [.i (gt prog k).1,.i (gt prog k).2],.map .str (y.2.map λs=>(.string (o6 s),.b true)),.row 330 0 (gt now i).cells]++(if y.2 = []then []else [.row 330 (y.2.l-1) (cl gD.cells y.2)])) (λy=>0<=y.1/\y.1<=ss.l/\y.2=my [] (ss.take y.1.n)) (λy=>(ss.l-y.1).n) ?_ ?_
    .simp[my]
    rintro⟨j,A⟩ ⟨j0,j1,j2⟩;dsimp only at j0 j1 j2 ⊢
    have H:∀t∈A,kA g t:=λt e=>K t (by
     rw[j2,F1]at e
     exact aX (e.resolve_left fZ))
    by_cases u:j<ss.l
    .have e:=K _ (gF j0 u);have mP:=Sr hg e.p
     by_cases m:A = []
     .rw[if_pos m,if_pos m];subst m;simp[u];refine gh ?_;refine Yc (f165 (gt ss j) (by have:=e.kind;omega) (by have:=e.cur;omega) (by have:=e.p.size;omega) (EL hg e.p)) ?_;simp;refine gh ?_;refine LJ.i (j+1,[gt ss j]) (by first|rfl|simp[je]) (by first|rfl|simp[je]) rfl rfl ?_;refine gX ?_;dsimp only;rw[jt j0 u,Dp,<-j2];simp
     .rw[if_neg m,if_neg m];simp[u];refine gh ?_;refine Yc (f165 (gt ss j) (by have:=e.kind;omega) (by have:=e.cur;omega) (by have:=e.p.size;omega) (EL hg e.p)) ?_;simp;simp[SL hg e H]
      by_cases z:gt ss j∈A
      .simp[z];refine gh ?_;refine LJ.i (j+1,A) (by first|rfl|simp[m]) (by first|rfl|simp[m]) rfl rfl ?_;refine gX ?_;dsimp only;rw[jt j0 u,Dp,<-j2,if_pos z]
      .have a5:0<A.l:=ay.2 m
       have O:A.l<=ss.l:=by have h1:=F0 (a:=[]) (b:=ss.take j.n);rw[<-j2,aJ]at h1;simp at h1;omega
       simp[z,SR hg e H z];refine gh ?_;refine LJ.i (j+1,A ++ [gt ss j]) (by first|rfl|simp[(U:A.l-1+1=A.l)]) (by first|rfl|simp[(U:A.l-1+1=A.l)]) rfl rfl ?_;refine gX ?_;dsimp only;rw[jt j0 u,Dp,<-j2,if_neg z]
    .rw[lC U]at j2
     have I:o8 g (gt prog k) (now.take (i+1).n)=A:=by rw[jt i0 hi,ZR,<-r,S,j2]
     by_cases m:A = []
     .rw[if_pos m,if_pos m];simp[u,m];refine gh ?_;refine LJ.e (i+1,[]) ?_;exact gX (by rw[I,m])
     .rw[if_neg m,if_neg m];simp[u];refine gh ?_;refine LJ.i (i+1,A) (by first|rfl|simp[m]) (by first|rfl|simp[m]) rfl rfl ?_;exact gX I.symm
   .rw[if_neg w,if_neg w]
    have b':∀t∈f,kA g t:=λt e=>by rw[r,OA,bJ]at e;obtain⟨s',h1,Q⟩:=e;exact CR hg (k2 _ (aX h1)) D Q
    have z6:f.l<=10*now.l:=by rw[r];refine Nat.le_trans Iy ?_;rw[aJ];omega
    have X5:0<f.l:=ay.2 w;simp[hi];refine gh ?_;refine gy.inl sT rfl rfl (by simp[sT]) rfl ?_;simp[sT];have M:(gt prog k).1≠0:=by have:=D.ok;omega
    simp[M];refine Yc (f164 g hg (gt now i) J (gt prog k) D) ?_;simp;refine gx.s mu ?_;have K:∀t∈jj g (gt now i) (gt prog k),kA g t:=λt e=>CR hg J D e;have R:(jj g (gt now i) (gt prog k)).l<=10:=Fg;generalize S:jj g (gt now i) (gt prog k)=ss at *;refine gx.e ((0,f):Int×List gD) (λy=>[(4,.fn (.func 260) [] [.ptr 1 0 0,.ptr 2 0 0]),(5,.ptr 3 0 0),(16,.ptr 10 0 0),(17,.gf 12 (y.2.l-1) 8 0 y.2.l),(18,.gH 11),(87,iw prog),(88,.i prog.l),(89,.i k),(94,pn now),(95,.i now.l),(96,.i i),(107,dN 8 gD.cells ss),(108,.i ss.l),(109,.i y.1)]) (λy=>[.row 43 0 g.cells,.row 46 0 p.cells,.row 256 0 [.gi],.row 43 0 g.cells,.row 46 0 p.cells,.dead,.dead,.dead,.row 330 0 (lL p c).cells,.dead,.row 173 0 [.i (gt prog k).1,.i (gt prog k).2],.map .str (y.2.map λs=>(.string (o6 s),.b true)),.row 330 (y.2.l-1) (cl gD.cells y.2),.row 330 0 (gt now i).cells]) (λy=>0<=y.1/\y.1<=ss.l/\y.2=my f (ss.take y.1.n)/\0<y.2.l) (λy=>(ss.l-y.1).n) ?_ ?_
    .simp[my];exact X5
    rintro⟨j,A⟩ ⟨j0,j1,j2,j3⟩;dsimp only at j0 j1 j2 j3 ⊢
    have H:∀t∈A,kA g t:=λt e=>by
     rw[j2,F1]at e;rcases e with e|e
     .grind
     .grind
    have O:A.l<=f.l+ss.l:=by have h1:=F0 (a:=f) (b:=ss.take j.n);rw[<-j2,aJ]at h1;omega
    by_cases u:j<ss.l
    .have e:=K _ (gF j0 u);simp[u];refine gh ?_;refine Yc (f165 (gt ss j) (by have:=e.kind;omega) (by have:=e.cur;omega) (by have:=e.p.size;omega) (EL hg e.p)) ?_;simp;simp[SL hg e H]
     by_cases z:gt ss j∈A
     .simp[z];refine gh ?_;refine LJ.e (j+1,A) ?_;refine gX ⟨?_,j3⟩;dsimp only;rw[jt j0 u,Dp,<-j2,if_pos z]
     .simp[z,SR hg e H z];refine gh ?_;refine LJ.i (j+1,A ++ [gt ss j]) (by first|rfl|simp[(U:A.l-1+1=A.l)]) (by first|rfl|simp[(U:A.l-1+1=A.l)]) rfl rfl ?_;refine gX ⟨?_,fZ⟩;dsimp only;rw[jt j0 u,Dp,<-j2,if_neg z]
    .rw[lC U]at j2
     have I:o8 g (gt prog k) (now.take (i+1).n)=A:=by rw[jt i0 hi,ZR,<-r,S,j2]
     have m:A≠[]:=ay.1 j3;simp[u];refine gh ?_;refine LJ.i (i+1,A) (by first|rfl|simp[m]) (by first|rfl|simp[m]) rfl rfl ?_;exact gX I.symm
  .rw[lC U]at r
   have gp:∀t∈f,kA g t:=λt e=>by rw[r,OA,bJ]at e;obtain⟨s',h1,Q⟩:=e;exact CR hg (k2 _ h1) D Q
   have z6:f.l<=10*now.l:=by rw[r];exact Iy
   have V:f.l<=10 ^ (k+1).n:=by rw[(U:(k+1).n=k.n+1),eE];omega
   have L:sV g prog [lL p c]=sV g (prog.drop (k+1).n) f:=by rw[k4,oe k0 F,sV,<-r,(U:(k+1).n=k.n+1)]
   by_cases w:f = []
   .rw[if_pos w,if_pos w];simp[hi,w];refine gh ?_;refine LJ.i (k+1,[]) (by first|rfl|simp[dN]) (by first|rfl|simp[dN]) rfl rfl ?_;rw[w]at gp V L;exact gX ⟨gp,V,L⟩
   .rw[if_neg w,if_neg w];have Es:kL f=dN 8 gD.cells f:=P8 w;simp[hi];refine gh ?_;refine LJ.i (k+1,f) (by first|rfl|simp[Es]) (by first|rfl|simp[Es]) rfl rfl ?_;exact gX ⟨gp,V,L⟩
 .rw[bA U]at k4;rw[k4,sV]at P;have h8:now.l<=10 ^ 8:=U;simp[F];refine gh ?_;refine gx.e ((0,[]):Int×List gY) (λy=>[(4,.fn (.func 260) [] [.ptr 1 0 0,.ptr 2 0 0]),(129,pn now),(130,.i now.l),(131,.i y.1)]) (λy=>yg g p (lL p c) (if y.2 = []then .gi else .gf 10 (y.2.l-1) 6 0 y.2.l)++(if y.2 = []then []else [.row 259 (y.2.l-1) (cl gY.cells y.2)])) (λy=>0<=y.1/\y.1<=now.l/\y.2=(now.take y.1.n).filterMap (oF p.side)) (λy=>(now.l-y.1).n) ?_ ?_
  .simp
  rintro⟨i,outs⟩ ⟨i0,N,r⟩;dsimp only at i0 N r ⊢
  by_cases hi:i<now.l
  .have e:=k2 _ (gF i0 hi);have mW:outs.l<=now.l:=jS
   have C:(now.take (i+1).n).filterMap (oF p.side)=outs++(oF p.side (gt now i)).toList:=by rw[jt i0 hi,List.filterMap_append,<-r];cases E:oF p.side (gt now i)<;>simp[E]
   by_cases q:outs = []
   .rw[if_pos q,if_pos q];subst q;simp[hi];refine gh ?_;refine gy.lr rfl rfl (aeG g hg p B (lL p c) (gt now i) e) ?_;rintro d H' x
    cases E:oF p.side (gt now i)with
    | none=>
     rw[E]at x C;dsimp only at x;subst x;simp;refine gh ?_;refine LJ.e (i+1,[]) ?_;exact gX (by rw[C];rfl)
    | some o=>
     rw[E]at x C;dsimp only at x;subst x;simp;refine gh ?_;refine LJ.e (i+1,[o]) ?_;exact gX (by rw[C];rfl)
   .rw[if_neg q,if_neg q];simp[hi];refine gh ?_;refine gy.lr rfl rfl (aeH g hg p B (lL p c) (gt now i) e outs U (ay.2 q)) ?_;rintro d H' x
    cases E:oF p.side (gt now i)with
    | none=>
     rw[E]at x C;dsimp only at x;subst x;simp;refine gh ?_;refine LJ.i (i+1,outs) (by first|rfl|simp[q]) (by first|rfl|simp[q]) rfl rfl ?_;exact gX (by rw[C];simp)
    | some o=>
     rw[E]at x C;dsimp only at x;subst x;simp;refine gh ?_;refine LJ.e (i+1,outs ++ [o]) ?_;exact gX (by rw[C];rfl)
  .rw[lC U]at r;rw[<-r]at P;subst P
   by_cases q:OO = []
   .rw[if_pos q,if_pos q];simp[hi,q]
   .rw[if_neg q,if_neg q];simp[hi,q]
