/- 17 -/
import Derived.Test.YtmehofoficaelaaGreatDoorP16
set_option linter.all false
open List renaming length→List.l
open Int renaming toNat→Int.n
namespace Go.Proofs.YtmehofoficaelaaGreatDoor
open Go Go.AL Classical
set_option maxRecDepth 10000
set_option maxHeartbeats 8000000
attribute [local simp] rC
@[simp] theorem ayt(l:List il):closed (dN 8 il.cells l)=true:=agQ l
def seen(l:List il):Ob:=.map .str (l.map λs=>(.string (ri s),.b true))
def G9{g:gY}(hg:iE g){p:Pos}(a:ja g p):(p7 p).l<1000:=by have h1:=a.size;have e:=a.h0.len;have d:=a.h1.len;have c:=hg.kC.size;have b:=hg.kinds;rw[Er,BC];simp;omega
theorem FM(x:il):∀(l a:List il),nL a (l ++ [x])=if x∈nL a l then nL a l else nL a l ++ [x]
 | [],a=>rfl
 | y::l,a=>by rw[bz,nL,FM x l,nL]
@[simp] theorem aDU(ρ:Nat->Option Nat)(H:gQ)(n:Nat):((λx:Value×D=>(x.1,ib ρ H n x.2)) ∘ λs:il=>((.string (ri s):Value),D.b true))=λs:il=>((.string (ri s):Value),D.b true):=by funext s;simp
@[simp] theorem aE4(n:Nat)(f:List Nat->List Nat):(f ∘ (λx:Value×D=>jQ n x.2) ∘ λs:il=>((.string (ri s):Value),D.b true))=λ_:il=>f []:=by funext s;rfl
@[simp] theorem azi(l:List il):(l.map λ_=>([]:List Nat)).flatten = []:=pK
theorem adv(g:gY)(x:gT)(l:List il)(s:il):rk g x (l ++ [s])=nL (rk g x l) (jT g s x):=by simp[rk]
def uP(g:gY):List gT->List il->List il
 | [],now=>now
 | x::r,now=>uP g r (rk g x now)
def wN(g:gY)(p:Pos)(c n:Int):List iJ:=(uP g (gt (gt g.kinds (iC (gt p.cs c))).jv n) [mo p c]).filterMap (pT p.side)
def f121(g:gY)(hg:iE g)(p:Pos)(z:ja g p)(c n:Int)(F:0<=c/\c<p.cs.l)(hs:lg (gt p.cs c)=p.side)(W:0<=n/\n<(gt g.kinds (iC (gt p.cs c))).jv.l) :
  Wf T 259 [dG g,dP p,.i c,.i n,.fn (.func 260) [] [.ptr 1 0 0,.ptr 2 0 0]] [.row 43 0 g.cells,.row 46 0 p.cells,.row 256 0 [.gV]] (λd H'=>d = .i 0/\H'=if wN g p c n = []then [.row 43 0 g.cells,.row 46 0 p.cells,.row 256 0 [.gV]]else [.row 43 0 g.cells,.row 46 0 p.cells,.row 256 0 [.gR 3 ((wN g p c n).l-1) 6 0 (wN g p c n).l],.row 259 ((wN g p c n).l-1) (cl iJ.cells (wN g p c n))]):=by
 have hz:=z.size;have hb:=hg.kC.size;have E:=hg.kinds;have jV:=z.side;have ka:=z.cs _ (ij F.1 F.2)
 have Z:0<=iC (gt p.cs c):=by
  unfold lg at hs;unfold iC;split at hs<;>rename_i h5
  .grind
  .omega
 have X:iC (gt p.cs c)<g.kinds.l:=zq ka.2 E.1;refine Yz Iu (jY 127 [1017] (jY 79 [9] (jY 77 [5,6,7] Iu.body))) ?_;simp[Iu,jY,lV,po,py,pY,nQ];refine Yc (f97 g hg p z) ?_;simp;(with_reducible repeat' first|refine Xk ?_<;>try simp|refine Xs ?_ ?_<;>intro h<;>(try intro h')<;>(try simp[h])<;>try omega|refine Xg ?_|omega);refine Yc (f84 (gt p.cs c)) ?_;simp;simp[hs];(with_reducible repeat' first|refine Xk ?_<;>try simp|refine Xs ?_ ?_<;>intro h<;>(try intro h')<;>(try simp[h])<;>try omega|refine Xg ?_|omega);have mc:=z.small hg;have l0:=z.h0.len;have l1:=z.h1.len;have q0:=jy (l:=p.cs) (n:=c) (v:=0) F.1 F.2;refine Yn (f91 { p:=p,kind:=iC (gt p.cs c),cur:=c,kP:=false } mc iv) ?_;simp;refine jM q0 ?_;have V:zK g (gt (gt g.kinds (iC (gt p.cs c))).jv n):=(hg.jv _ (ij Z X)).2 _ (ij W.1 W.2);have ig:lj g (mo p c):=⟨z.CG F.1 U U,⟨Z,X⟩,⟨F.1,by show c<g.size;omega⟩⟩;have O:wN g p c n=(uP g (gt (gt g.kinds (iC (gt p.cs c))).jv n) [mo p c]).filterMap (pT p.side):=rfl;generalize wN g p c n=OO at *;generalize gt (gt g.kinds (iC (gt p.cs c))).jv n=prog at *;have kc:=V.len;have hq:dN 8 il.cells [mo p c]=lR [⟨⟨pt p.cs c 0,p.h0,p.h1,p.iw,p.side⟩,iC (gt p.cs c),c,false⟩]:=rfl;refine gZ.s (by simp[q0];rfl) ?_;refine gZ.k ((0,[mo p c]):Int×List il) (λy=>[(4,.fn (.func 260) [] [.ptr 1 0 0,.ptr 2 0 0]),(5,.ptr 3 0 0),(14,rC y.2),(87,iS prog),(88,.i prog.l),(89,.i y.1)]) (λy=>[.row 43 0 g.cells,.row 46 0 p.cells,.row 256 0 [.gV],.row 43 0 g.cells,.row 46 0 p.cells,.dead,.dead,.dead,.row 330 0 (mo p c).cells,.dead]) (λy=>0<=y.1/\y.1<=prog.l/\(∀s∈y.2,lj g s)/\y.2.l<=10 ^ y.1.n/\uP g prog [mo p c]=uP g (prog.drop y.1.n) y.2) (λy=>(prog.l-y.1).n) ?_ (by simp[hq]) (by simp[q0,mo]) rfl rfl rfl ?_
 .grind
 rintro⟨k,now⟩ ⟨k0,k1,k2,k3,k4⟩;dsimp only at k0 k1 k2 k3 k4 ⊢;have a4:(10:Nat) ^ k.n<=10 ^ 8:=dt jo U
 by_cases E:k<prog.l
 .have C:=V.steps _ (ij k0 E);simp[E];refine gU ?_;refine gZ.e ((0,[]):Int×List il) (λy=>[(4,.fn (.func 260) [] [.ptr 1 0 0,.ptr 2 0 0]),(5,.ptr 3 0 0),(16,.ptr 10 0 0),(17,if y.2 = []then .gV else .gR 12 (y.2.l-1) 8 0 y.2.l),(18,.im 11),(87,iS prog),(88,.i prog.l),(89,.i k),(94,rC now),(95,.i now.l),(96,.i y.1)]) (λy=>[.row 43 0 g.cells,.row 46 0 p.cells,.row 256 0 [.gV],.row 43 0 g.cells,.row 46 0 p.cells,.dead,.dead,.dead,.row 330 0 (mo p c).cells,.dead,.row 173 0 [.i (gt prog k).1,.i (gt prog k).2],.map .str (y.2.map λs=>(.string (ri s),.b true))]++(if y.2 = []then []else [.row 330 (y.2.l-1) (cl il.cells y.2)])) (λy=>0<=y.1/\y.1<=now.l/\y.2=rk g (gt prog k) (now.take y.1.n)) (λy=>(now.l-y.1).n) ?_ ?_
  .simp[rk]
  rintro⟨i,f⟩ ⟨i0,M,r⟩;dsimp only at i0 M r ⊢
  by_cases hi:i<now.l
  .have I:=k2 _ (ij i0 hi)
   by_cases w:f = []
   .rw[if_pos w,if_pos w];subst w;simp[hi];refine gU ?_;refine ik.inl uN rfl rfl (by simp[uN]) rfl ?_;simp[uN];have L:(gt prog k).1≠0:=by have:=C.ok;omega
    simp[L];refine Yc (f164 g hg (gt now i) I (gt prog k) C) ?_;simp;refine gZ.s lO ?_;have J:∀t∈jT g (gt now i) (gt prog k),lj g t:=λt e=>CJ hg I C e;have Q:(jT g (gt now i) (gt prog k)).l<=10:=HZ;generalize R:jT g (gt now i) (gt prog k)=ss at *;refine gZ.e ((0,[]):Int×List il) (λy=>[(4,.fn (.func 260) [] [.ptr 1 0 0,.ptr 2 0 0]),(5,.ptr 3 0 0),(16,.ptr 10 0 0),(17,if y.2 = []then .gV else .gR 13 (y.2.l-1) 8 0 y.2.l),(18,.im 11),(87,iS prog),(88,.i prog.l),(89,.i k),(94,rC now),(95,.i now.l),(96,.i i),(107,dN 8 il.cells ss),(108,.i ss.l),(109,.i y.1)]) (λy=>[.row 43 0 g.cells,.row 46 0 p.cells,.row 256 0 [.gV],.row 43 0 g.cells,.row 46 0 p.cells,.dead,.dead,.dead,.row 330 0 (mo p c).cells,.dead,.row 173 0 [.i (gt prog k).1,.i (gt prog k).2],.map .str (y.2.map λs=>(.string (ri s),.b true)),.row 330 0 (gt now i).cells]++(if y.2 = []then []else [.row 330 (y.2.l-1) (cl il.cells y.2)])) (λy=>0<=y.1/\y.1<=ss.l/\y.2=nL [] (ss.take y.1.n)) (λy=>(ss.l-y.1).n) ?_ ?_
    .simp[nL]
    rintro⟨j,A⟩ ⟨j0,j1,j2⟩;dsimp only at j0 j1 j2 ⊢
    have G:∀t∈A,lj g t:=λt e=>J t (by
     rw[j2,IT]at e
     exact aQ (e.resolve_left gP))
    by_cases u:j<ss.l
    .have e:=J _ (ij j0 u);have lS:=V1 hg e.p
     by_cases m:A = []
     .rw[if_pos m,if_pos m];subst m;simp[u];refine gU ?_;refine Yc (f165 (gt ss j) (by have:=e.kind;omega) (by have:=e.cur;omega) (by have:=e.p.size;omega) (G9 hg e.p)) ?_;simp;refine gU ?_;refine LJ.i (j+1,[gt ss j]) (by first|rfl|simp[jw]) (by first|rfl|simp[jw]) rfl rfl ?_;refine iQ ?_;dsimp only;rw[jP j0 u,FM,<-j2];simp
     .rw[if_neg m,if_neg m];simp[u];refine gU ?_;refine Yc (f165 (gt ss j) (by have:=e.kind;omega) (by have:=e.cur;omega) (by have:=e.p.size;omega) (G9 hg e.p)) ?_;simp;simp[Wq hg e G]
      by_cases iG:gt ss j∈A
      .simp[iG];refine gU ?_;refine LJ.i (j+1,A) (by first|rfl|simp[m]) (by first|rfl|simp[m]) rfl rfl ?_;refine iQ ?_;dsimp only;rw[jP j0 u,FM,<-j2,if_pos iG]
      .have a3:0<A.l:=ay.2 m
       have N:A.l<=ss.l:=by have h1:=IS (a:=[]) (b:=ss.take j.n);rw[<-j2,aM]at h1;simp at h1;omega
       simp[iG,Wx hg e G iG];refine gU ?_;refine LJ.i (j+1,A ++ [gt ss j]) (by first|rfl|simp[(U:A.l-1+1=A.l)]) (by first|rfl|simp[(U:A.l-1+1=A.l)]) rfl rfl ?_;refine iQ ?_;dsimp only;rw[jP j0 u,FM,<-j2,if_neg iG]
    .rw[nf U]at j2
     have H:rk g (gt prog k) (now.take (i+1).n)=A:=by rw[jP i0 hi,adv,<-r,R,j2]
     by_cases m:A = []
     .rw[if_pos m,if_pos m];simp[u,m];refine gU ?_;refine LJ.e (i+1,[]) ?_;exact iQ (by rw[H,m])
     .rw[if_neg m,if_neg m];simp[u];refine gU ?_;refine LJ.i (i+1,A) (by first|rfl|simp[m]) (by first|rfl|simp[m]) rfl rfl ?_;exact iQ H.symm
   .rw[if_neg w,if_neg w]
    have a6:∀t∈f,lj g t:=λt e=>by rw[r,RU,bG]at e;obtain⟨s',h1,P⟩:=e;exact CJ hg (k2 _ (aQ h1)) C P
    have B2:f.l<=10*now.l:=by rw[r];refine Nat.le_trans Lk ?_;rw[aM];omega
    have ve:0<f.l:=ay.2 w;simp[hi];refine gU ?_;refine ik.inl uN rfl rfl (by simp[uN]) rfl ?_;simp[uN];have L:(gt prog k).1≠0:=by have:=C.ok;omega
    simp[L];refine Yc (f164 g hg (gt now i) I (gt prog k) C) ?_;simp;refine gZ.s lO ?_;have J:∀t∈jT g (gt now i) (gt prog k),lj g t:=λt e=>CJ hg I C e;have Q:(jT g (gt now i) (gt prog k)).l<=10:=HZ;generalize R:jT g (gt now i) (gt prog k)=ss at *;refine gZ.e ((0,f):Int×List il) (λy=>[(4,.fn (.func 260) [] [.ptr 1 0 0,.ptr 2 0 0]),(5,.ptr 3 0 0),(16,.ptr 10 0 0),(17,.gR 12 (y.2.l-1) 8 0 y.2.l),(18,.im 11),(87,iS prog),(88,.i prog.l),(89,.i k),(94,rC now),(95,.i now.l),(96,.i i),(107,dN 8 il.cells ss),(108,.i ss.l),(109,.i y.1)]) (λy=>[.row 43 0 g.cells,.row 46 0 p.cells,.row 256 0 [.gV],.row 43 0 g.cells,.row 46 0 p.cells,.dead,.dead,.dead,.row 330 0 (mo p c).cells,.dead,.row 173 0 [.i (gt prog k).1,.i (gt prog k).2],.map .str (y.2.map λs=>(.string (ri s),.b true)),.row 330 (y.2.l-1) (cl il.cells y.2),.row 330 0 (gt now i).cells]) (λy=>0<=y.1/\y.1<=ss.l/\y.2=nL f (ss.take y.1.n)/\0<y.2.l) (λy=>(ss.l-y.1).n) ?_ ?_
    .simp[nL];exact ve
    rintro⟨j,A⟩ ⟨j0,j1,j2,j3⟩;dsimp only at j0 j1 j2 j3 ⊢
    have G:∀t∈A,lj g t:=λt e=>by
     rw[j2,IT]at e;rcases e with e|e
     .grind
     .grind
    have N:A.l<=f.l+ss.l:=by have h1:=IS (a:=f) (b:=ss.take j.n);rw[<-j2,aM]at h1;omega
    by_cases u:j<ss.l
    .have e:=J _ (ij j0 u);simp[u];refine gU ?_;refine Yc (f165 (gt ss j) (by have:=e.kind;omega) (by have:=e.cur;omega) (by have:=e.p.size;omega) (G9 hg e.p)) ?_;simp;simp[Wq hg e G]
     by_cases iG:gt ss j∈A
     .simp[iG];refine gU ?_;refine LJ.e (j+1,A) ?_;refine iQ ⟨?_,j3⟩;dsimp only;rw[jP j0 u,FM,<-j2,if_pos iG]
     .simp[iG,Wx hg e G iG];refine gU ?_;refine LJ.i (j+1,A ++ [gt ss j]) (by first|rfl|simp[(U:A.l-1+1=A.l)]) (by first|rfl|simp[(U:A.l-1+1=A.l)]) rfl rfl ?_;refine iQ ⟨?_,gP⟩;dsimp only;rw[jP j0 u,FM,<-j2,if_neg iG]
    .rw[nf U]at j2
     have H:rk g (gt prog k) (now.take (i+1).n)=A:=by rw[jP i0 hi,adv,<-r,R,j2]
     have m:A≠[]:=ay.1 j3;simp[u];refine gU ?_;refine LJ.i (i+1,A) (by first|rfl|simp[m]) (by first|rfl|simp[m]) rfl rfl ?_;exact iQ H.symm
  .rw[nf U]at r
   have gW:∀t∈f,lj g t:=λt e=>by rw[r,RU,bG]at e;obtain⟨s',h1,P⟩:=e;exact CJ hg (k2 _ h1) C P
   have B2:f.l<=10*now.l:=by rw[r];exact Lk
   have S:f.l<=10 ^ (k+1).n:=by rw[(U:(k+1).n=k.n+1),fh];omega
   have K:uP g prog [mo p c]=uP g (prog.drop (k+1).n) f:=by rw[k4,pa k0 E,uP,<-r,(U:(k+1).n=k.n+1)]
   by_cases w:f = []
   .rw[if_pos w,if_pos w];simp[hi,w];refine gU ?_;refine LJ.i (k+1,[]) (by first|rfl|simp[dN]) (by first|rfl|simp[dN]) rfl rfl ?_;rw[w]at gW S K;exact iQ ⟨gW,S,K⟩
   .rw[if_neg w,if_neg w];have Y:lR f=dN 8 il.cells f:=TH w;simp[hi];refine gU ?_;refine LJ.i (k+1,f) (by first|rfl|simp[Y]) (by first|rfl|simp[Y]) rfl rfl ?_;exact iQ ⟨gW,S,K⟩
 .rw[bE U]at k4;rw[k4,uP]at O;have h8:now.l<=10 ^ 8:=U;simp[E];refine gU ?_;refine gZ.e ((0,[]):Int×List iJ) (λy=>[(4,.fn (.func 260) [] [.ptr 1 0 0,.ptr 2 0 0]),(129,rC now),(130,.i now.l),(131,.i y.1)]) (λy=>Ag g p (mo p c) (if y.2 = []then .gV else .gR 10 (y.2.l-1) 6 0 y.2.l)++(if y.2 = []then []else [.row 259 (y.2.l-1) (cl iJ.cells y.2)])) (λy=>0<=y.1/\y.1<=now.l/\y.2=(now.take y.1.n).filterMap (pT p.side)) (λy=>(now.l-y.1).n) ?_ ?_
  .simp
  rintro⟨i,outs⟩ ⟨i0,M,r⟩;dsimp only at i0 M r ⊢
  by_cases hi:i<now.l
  .have e:=k2 _ (ij i0 hi);have nz:outs.l<=now.l:=kM
   have B:(now.take (i+1).n).filterMap (pT p.side)=outs++(pT p.side (gt now i)).toList:=by rw[jP i0 hi,List.filterMap_append,<-r];cases D:pT p.side (gt now i)<;>simp[D]
   by_cases q:outs = []
   .rw[if_pos q,if_pos q];subst q;simp[hi];refine gU ?_;refine ik.kZ rfl rfl (aiN g hg p z (mo p c) (gt now i) e) ?_;rintro d H' x
    cases D:pT p.side (gt now i)with
    | none=>
     rw[D]at x B;dsimp only at x;subst x;simp;refine gU ?_;refine LJ.e (i+1,[]) ?_;exact iQ (by rw[B];rfl)
    | some o=>
     rw[D]at x B;dsimp only at x;subst x;simp;refine gU ?_;refine LJ.e (i+1,[o]) ?_;exact iQ (by rw[B];rfl)
   .rw[if_neg q,if_neg q];simp[hi];refine gU ?_;refine ik.kZ rfl rfl (aiO g hg p z (mo p c) (gt now i) e outs U (ay.2 q)) ?_;rintro d H' x
    cases D:pT p.side (gt now i)with
    | none=>
     rw[D]at x B;dsimp only at x;subst x;simp;refine gU ?_;refine LJ.i (i+1,outs) (by first|rfl|simp[q]) (by first|rfl|simp[q]) rfl rfl ?_;exact iQ (by rw[B];simp)
    | some o=>
     rw[D]at x B;dsimp only at x;subst x;simp;refine gU ?_;refine LJ.e (i+1,outs ++ [o]) ?_;exact iQ (by rw[B];rfl)
  .rw[nf U]at r;rw[<-r]at O;subst O
   by_cases q:OO = []
   .rw[if_pos q,if_pos q];simp[hi,q]
   .rw[if_neg q,if_neg q];simp[hi,q]
