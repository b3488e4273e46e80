/- Part 17 of DisputeSettles. -/
import Derived.Test.YtmehofoficaelaaGreatDoorS16
set_option linter.all false
namespace Go.Proofs.YtmehofoficaelaaGreatDoor
open Go Go.AL Classical
set_option maxRecDepth 10000
set_option maxHeartbeats 8000000
attribute [local simp] pd
@[simp] theorem at1(l:List gy):closed (dN 8 gy.cells l)=true:=adJ l
def seen(l:List gy):Ob:=.map .str (l.map λs=>(.string (oX s),.b true))
def ER{g:gj}(hg:gU g){p:Pos}(a:iz g p):(oo p).length<1000:=by have h1:=a.size;have e:=a.h0.len;have d:=a.h1.len;have c:=hg.jJ.size;have b:=hg.kinds;rw[Ct,zS];simp;omega
theorem DB(x:gy):∀(l a:List gy),mo a (l ++ [x])=if x∈mo a l then mo a l else mo a l ++ [x]
 | [],a=>rfl
 | y::l,a=>by rw[bW,mo,DB x l,mo]
@[simp] theorem azq(ρ:Nat->Option Nat)(H:U)(n:Nat):((λx:Value×D=>(x.1,gq ρ H n x.2)) ∘ λs:gy=>((.string (oX s):Value),D.b true))=λs:gy=>((.string (oX s):Value),D.b true):=by funext s;simp
@[simp] theorem aAz(n:Nat)(f:List Nat->List Nat):(f ∘ (λx:Value×D=>jk n x.2) ∘ λs:gy=>((.string (oX s):Value),D.b true))=λ_:gy=>f []:=by funext s;rfl
@[simp] theorem auQ(l:List gy):(l.map λ_=>([]:List Nat)).flatten = []:=by simp_all
theorem aaB(g:gj)(x:gd)(l:List gy)(s:gy):oZ g x (l ++ [s])=mo (oZ g x l) (je g s x):=by simp[oZ]
def sT(g:gj):List gd->List gy->List gy
 | [],now=>now
 | x::r,now=>sT g r (oZ g x now)
def uz(g:gj)(p:Pos)(c n:Int):List gQ:=(sT g (gt (gt g.kinds (gI (gt p.cs c))).jr n) [lE p c]).filterMap (oz p.side)
def f121(g:gj)(hg:gU g)(p:Pos)(z:iz g p)(c n:Int)(F:0<=c/\c<p.cs.length)(hs:jZ (gt p.cs c)=p.side)(V:0<=n/\n<(gt g.kinds (gI (gt p.cs c))).jr.length) :
  Wf T 259 [dG g,dP p,.i c,.i n,.fn (.func 260) [] [.ptr 1 0 0,.ptr 2 0 0]] [.row 43 0 g.cells,.row 46 0 p.cells,.row 256 0 [.gg]] (λd H'=>d = .i 0/\H'=if uz g p c n = []then [.row 43 0 g.cells,.row 46 0 p.cells,.row 256 0 [.gg]]else [.row 43 0 g.cells,.row 46 0 p.cells,.row 256 0 [.fZ 3 ((uz g p c n).length-1) 6 0 (uz g p c n).length],.row 259 ((uz g p c n).length-1) (cl gQ.cells (uz g p c n))]):=by
 have hz:=z.size;have hb:=hg.jJ.size;have E:=hg.kinds;have jq:=z.side;have jz:=z.cs _ (gA F.1 F.2)
 have X:0<=gI (gt p.cs c):=by
  unfold jZ at hs;unfold gI;split at hs<;>rename_i h5
  .grind
  .omega
 have W:gI (gt p.cs c)<g.kinds.length:=yP jz.2 E.1;refine Yz FL (iV 127 [1017] (iV 79 [9] (iV 77 [5,6,7] FL.body))) ?_;simp[FL,iV,kq,nb,ng,nD,lV];refine Yc (f97 g hg p z) ?_;simp;(with_reducible repeat' first|refine Xk ?_<;>try simp|refine Xs ?_ ?_<;>intro h<;>(try intro h')<;>(try simp[h])<;>try omega|refine Xg ?_|omega);refine Yc (f84 (gt p.cs c)) ?_;simp;simp[hs];(with_reducible repeat' first|refine Xk ?_<;>try simp|refine Xs ?_ ?_<;>intro h<;>(try intro h')<;>(try simp[h])<;>try omega|refine Xg ?_|omega);have Z:=z.small hg;have l0:=z.h0.len;have l1:=z.h1.len;have q0:=iC (l:=p.cs) (n:=c) (v:=0) F.1 F.2;refine Yn (f91 { p:=p,kind:=gI (gt p.cs c),cur:=c,jM:=false } Z (by dsimp only;omega)) ?_;simp;refine jD q0 ?_;have U:xW g (gt (gt g.kinds (gI (gt p.cs c))).jr n):=(hg.jr _ (gA X W)).2 _ (gA V.1 V.2);have gv:km g (lE p c):=⟨z.C0 F.1 (by omega) (by omega),⟨X,W⟩,⟨F.1,by show c<g.size;omega⟩⟩;have O:uz g p c n=(sT g (gt (gt g.kinds (gI (gt p.cs c))).jr n) [lE p c]).filterMap (oz p.side):=rfl;generalize uz g p c n=OO at *;generalize gt (gt g.kinds (gI (gt p.cs c))).jr n=prog at *;have iL:=U.len;have hq:dN 8 gy.cells [lE p c]=kE [⟨⟨pt p.cs c 0,p.h0,p.h1,p.gM,p.side⟩,gI (gt p.cs c),c,false⟩]:=rfl;refine gp.s (by simp[q0];rfl) ?_;refine gp.k ((0,[lE p c]):Int×List gy) (λy=>[(4,.fn (.func 260) [] [.ptr 1 0 0,.ptr 2 0 0]),(5,.ptr 3 0 0),(14,pd y.2),(87,iw prog),(88,.i prog.length),(89,.i y.1)]) (λy=>[.row 43 0 g.cells,.row 46 0 p.cells,.row 256 0 [.gg],.row 43 0 g.cells,.row 46 0 p.cells,.dead,.dead,.dead,.row 330 0 (lE p c).cells,.dead]) (λy=>0<=y.1/\y.1<=prog.length/\(∀s∈y.2,km g s)/\y.2.length<=10 ^ y.1.toNat/\sT g prog [lE p c]=sT g (prog.drop y.1.toNat) y.2) (λy=>(prog.length-y.1).toNat) ?_ (by simp[hq]) (by simp[q0,lE]) rfl rfl rfl ?_
 .grind
 rintro⟨k,now⟩ ⟨k0,k1,k2,k3,k4⟩;dsimp only at k0 k1 k2 k3 k4 ⊢;have a2:(10:Nat) ^ k.toNat<=10 ^ 8:=cT (by decide) (by omega)
 by_cases E:k<prog.length
 .have C:=U.steps _ (gA k0 E);simp[E];refine gf ?_;refine gp.e ((0,[]):Int×List gy) (λy=>[(4,.fn (.func 260) [] [.ptr 1 0 0,.ptr 2 0 0]),(5,.ptr 3 0 0),(16,.ptr 10 0 0),(17,if y.2 = []then .gg else .fZ 12 (y.2.length-1) 8 0 y.2.length),(18,.gH 11),(87,iw prog),(88,.i prog.length),(89,.i k),(94,pd now),(95,.i now.length),(96,.i y.1)]) (λy=>[.row 43 0 g.cells,.row 46 0 p.cells,.row 256 0 [.gg],.row 43 0 g.cells,.row 46 0 p.cells,.dead,.dead,.dead,.row 330 0 (lE p c).cells,.dead,.row 173 0 [.i (gt prog k).1,.i (gt prog k).2],.map .str (y.2.map λs=>(.string (oX s),.b true))]++(if y.2 = []then []else [.row 330 (y.2.length-1) (cl gy.cells y.2)])) (λy=>0<=y.1/\y.1<=now.length/\y.2=oZ g (gt prog k) (now.take y.1.toNat)) (λy=>(now.length-y.1).toNat) ?_ ?_
  .simp[oZ]
  rintro⟨i,f⟩ ⟨i0,M,r⟩;dsimp only at i0 M r ⊢
  by_cases hi:i<now.length
  .have H:=k2 _ (gA i0 hi)
   by_cases w:f = []
   .rw[if_pos w,if_pos w];subst w;simp[hi];refine gf ?_;refine gx.inl sQ rfl rfl (by simp[sQ]) rfl ?_;simp[sQ];have L:(gt prog k).1≠0:=by have:=C.ok;omega
    simp[L];refine Yc (f164 g hg (gt now i) H (gt prog k) C) ?_;simp;refine gp.s (by simp;rfl) ?_;have J:∀t∈je g (gt now i) (gt prog k),km g t:=λt e=>C7 hg H C e;have Q:(je g (gt now i) (gt prog k)).length<=10:=Ft;generalize R:je g (gt now i) (gt prog k)=ss at *;refine gp.e ((0,[]):Int×List gy) (λy=>[(4,.fn (.func 260) [] [.ptr 1 0 0,.ptr 2 0 0]),(5,.ptr 3 0 0),(16,.ptr 10 0 0),(17,if y.2 = []then .gg else .fZ 13 (y.2.length-1) 8 0 y.2.length),(18,.gH 11),(87,iw prog),(88,.i prog.length),(89,.i k),(94,pd now),(95,.i now.length),(96,.i i),(107,dN 8 gy.cells ss),(108,.i ss.length),(109,.i y.1)]) (λy=>[.row 43 0 g.cells,.row 46 0 p.cells,.row 256 0 [.gg],.row 43 0 g.cells,.row 46 0 p.cells,.dead,.dead,.dead,.row 330 0 (lE p c).cells,.dead,.row 173 0 [.i (gt prog k).1,.i (gt prog k).2],.map .str (y.2.map λs=>(.string (oX s),.b true)),.row 330 0 (gt now i).cells]++(if y.2 = []then []else [.row 330 (y.2.length-1) (cl gy.cells y.2)])) (λy=>0<=y.1/\y.1<=ss.length/\y.2=mo [] (ss.take y.1.toNat)) (λy=>(ss.length-y.1).toNat) ?_ ?_
    .simp[mo]
    rintro⟨j,A⟩ ⟨j0,j1,j2⟩;dsimp only at j0 j1 j2 ⊢
    have G:∀t∈A,km g t:=λt e=>J t (by
     rw[j2,Ga]at e
     exact aN (e.resolve_left (by simp)))
    by_cases u:j<ss.length
    .have e:=J _ (gA j0 u);have lW:=Tc hg e.p
     by_cases m:A = []
     .rw[if_pos m,if_pos m];subst m;simp[u];refine gf ?_;refine Yc (f165 (gt ss j) (by have:=e.kind;omega) (by have:=e.cur;omega) (by have:=e.p.size;omega) (ER hg e.p)) ?_;simp;refine gf ?_;refine LJ.i (j+1,[gt ss j]) (by first|rfl|simp[iM]) (by first|rfl|simp[iM]) rfl rfl ?_;refine gJ ?_;dsimp only;rw[jn j0 u,DB,<-j2];simp
     .rw[if_neg m,if_neg m];simp[u];refine gf ?_;refine Yc (f165 (gt ss j) (by have:=e.kind;omega) (by have:=e.cur;omega) (by have:=e.p.size;omega) (ER hg e.p)) ?_;simp;simp[Tz hg e G]
      by_cases gF:gt ss j∈A
      .simp[gF];refine gf ?_;refine LJ.i (j+1,A) (by first|rfl|simp[m]) (by first|rfl|simp[m]) rfl rfl ?_;refine gJ ?_;dsimp only;rw[jn j0 u,DB,<-j2,if_pos gF]
      .have a1:0<A.length:=aw.2 m
       have N:A.length<=ss.length:=by have h1:=F' (a:=[]) (b:=ss.take j.toNat);rw[<-j2,aJ]at h1;simp at h1;omega
       simp[gF,TF hg e G gF];refine gf ?_;refine LJ.i (j+1,A ++ [gt ss j]) (by first|rfl|simp[show A.length-1+1=A.length by omega]) (by first|rfl|simp[show A.length-1+1=A.length by omega]) rfl rfl ?_;refine gJ ?_;dsimp only;rw[jn j0 u,DB,<-j2,if_neg gF]
    .rw[lr (by omega)]at j2
     have I:oZ g (gt prog k) (now.take (i+1).toNat)=A:=by rw[jn i0 hi,aaB,<-r,R,j2]
     by_cases m:A = []
     .rw[if_pos m,if_pos m];simp[u,m];refine gf ?_;refine LJ.e (i+1,[]) ?_;exact gJ (by rw[I,m])
     .rw[if_neg m,if_neg m];simp[u];refine gf ?_;refine LJ.i (i+1,A) (by first|rfl|simp[m]) (by first|rfl|simp[m]) rfl rfl ?_;exact gJ I.symm
   .rw[if_neg w,if_neg w]
    have a4:∀t∈f,km g t:=λt e=>by rw[r,O7,bN]at e;obtain⟨s',h1,P⟩:=e;exact C7 hg (k2 _ (aN h1)) C P
    have Ai:f.length<=10*now.length:=by rw[r];refine Nat.le_trans IS ?_;rw[aJ];omega
    have Ej:0<f.length:=aw.2 w;simp[hi];refine gf ?_;refine gx.inl sQ rfl rfl (by simp[sQ]) rfl ?_;simp[sQ];have L:(gt prog k).1≠0:=by have:=C.ok;omega
    simp[L];refine Yc (f164 g hg (gt now i) H (gt prog k) C) ?_;simp;refine gp.s (by simp;rfl) ?_;have J:∀t∈je g (gt now i) (gt prog k),km g t:=λt e=>C7 hg H C e;have Q:(je g (gt now i) (gt prog k)).length<=10:=Ft;generalize R:je g (gt now i) (gt prog k)=ss at *;refine gp.e ((0,f):Int×List gy) (λy=>[(4,.fn (.func 260) [] [.ptr 1 0 0,.ptr 2 0 0]),(5,.ptr 3 0 0),(16,.ptr 10 0 0),(17,.fZ 12 (y.2.length-1) 8 0 y.2.length),(18,.gH 11),(87,iw prog),(88,.i prog.length),(89,.i k),(94,pd now),(95,.i now.length),(96,.i i),(107,dN 8 gy.cells ss),(108,.i ss.length),(109,.i y.1)]) (λy=>[.row 43 0 g.cells,.row 46 0 p.cells,.row 256 0 [.gg],.row 43 0 g.cells,.row 46 0 p.cells,.dead,.dead,.dead,.row 330 0 (lE p c).cells,.dead,.row 173 0 [.i (gt prog k).1,.i (gt prog k).2],.map .str (y.2.map λs=>(.string (oX s),.b true)),.row 330 (y.2.length-1) (cl gy.cells y.2),.row 330 0 (gt now i).cells]) (λy=>0<=y.1/\y.1<=ss.length/\y.2=mo f (ss.take y.1.toNat)/\0<y.2.length) (λy=>(ss.length-y.1).toNat) ?_ ?_
    .simp[mo];exact Ej
    rintro⟨j,A⟩ ⟨j0,j1,j2,j3⟩;dsimp only at j0 j1 j2 j3 ⊢
    have G:∀t∈A,km g t:=λt e=>by
     rw[j2,Ga]at e;rcases e with e|e
     .grind
     .grind
    have N:A.length<=f.length+ss.length:=by have h1:=F' (a:=f) (b:=ss.take j.toNat);rw[<-j2,aJ]at h1;omega
    by_cases u:j<ss.length
    .have e:=J _ (gA j0 u);simp[u];refine gf ?_;refine Yc (f165 (gt ss j) (by have:=e.kind;omega) (by have:=e.cur;omega) (by have:=e.p.size;omega) (ER hg e.p)) ?_;simp;simp[Tz hg e G]
     by_cases gF:gt ss j∈A
     .simp[gF];refine gf ?_;refine LJ.e (j+1,A) ?_;refine gJ ⟨?_,j3⟩;dsimp only;rw[jn j0 u,DB,<-j2,if_pos gF]
     .simp[gF,TF hg e G gF];refine gf ?_;refine LJ.i (j+1,A ++ [gt ss j]) (by first|rfl|simp[show A.length-1+1=A.length by omega]) (by first|rfl|simp[show A.length-1+1=A.length by omega]) rfl rfl ?_;refine gJ ⟨?_,by simp⟩;dsimp only;rw[jn j0 u,DB,<-j2,if_neg gF]
    .rw[lr (by omega)]at j2
     have I:oZ g (gt prog k) (now.take (i+1).toNat)=A:=by rw[jn i0 hi,aaB,<-r,R,j2]
     have m:A≠[]:=aw.1 j3;simp[u];refine gf ?_;refine LJ.i (i+1,A) (by first|rfl|simp[m]) (by first|rfl|simp[m]) rfl rfl ?_;exact gJ I.symm
  .rw[lr (by omega)]at r
   have gi:∀t∈f,km g t:=λt e=>by rw[r,O7,bN]at e;obtain⟨s',h1,P⟩:=e;exact C7 hg (k2 _ h1) C P
   have Ai:f.length<=10*now.length:=by rw[r];exact IS
   have S:f.length<=10 ^ (k+1).toNat:=by rw[show(k+1).toNat=k.toNat+1 by omega,eM];omega
   have K:sT g prog [lE p c]=sT g (prog.drop (k+1).toNat) f:=by rw[k4,n5 k0 E,sT,<-r,show(k+1).toNat=k.toNat+1 by omega]
   by_cases w:f = []
   .rw[if_pos w,if_pos w];simp[hi,w];refine gf ?_;refine LJ.i (k+1,[]) (by first|rfl|simp[dN]) (by first|rfl|simp[dN]) rfl rfl ?_;rw[w]at gi S K;exact gJ ⟨gi,S,K⟩
   .rw[if_neg w,if_neg w];have Y:kE f=dN 8 gy.cells f:=QM w;simp[hi];refine gf ?_;refine LJ.i (k+1,f) (by first|rfl|simp[Y]) (by first|rfl|simp[Y]) rfl rfl ?_;exact gJ ⟨gi,S,K⟩
 .rw[bF (by omega)]at k4;rw[k4,sT]at O;have h8:now.length<=10 ^ 8:=by omega
  simp[E];refine gf ?_;refine gp.e ((0,[]):Int×List gQ) (λy=>[(4,.fn (.func 260) [] [.ptr 1 0 0,.ptr 2 0 0]),(129,pd now),(130,.i now.length),(131,.i y.1)]) (λy=>yn g p (lE p c) (if y.2 = []then .gg else .fZ 10 (y.2.length-1) 6 0 y.2.length)++(if y.2 = []then []else [.row 259 (y.2.length-1) (cl gQ.cells y.2)])) (λy=>0<=y.1/\y.1<=now.length/\y.2=(now.take y.1.toNat).filterMap (oz p.side)) (λy=>(now.length-y.1).toNat) ?_ ?_
  .simp
  rintro⟨i,outs⟩ ⟨i0,M,r⟩;dsimp only at i0 M r ⊢
  by_cases hi:i<now.length
  .have e:=k2 _ (gA i0 hi);have mM:outs.length<=now.length:=by grind
   have B:(now.take (i+1).toNat).filterMap (oz p.side)=outs++(oz p.side (gt now i)).toList:=by rw[jn i0 hi,List.filterMap_append,<-r];cases D:oz p.side (gt now i)<;>simp[D]
   by_cases q:outs = []
   .rw[if_pos q,if_pos q];subst q;simp[hi];refine gf ?_;refine gx.kG rfl rfl (afr g hg p z (lE p c) (gt now i) e) ?_;rintro d H' x
    cases D:oz p.side (gt now i)with
    | none=>
     rw[D]at x B;dsimp only at x;subst x;simp;refine gf ?_;refine LJ.e (i+1,[]) ?_;exact gJ (by rw[B];rfl)
    | some o=>
     rw[D]at x B;dsimp only at x;subst x;simp;refine gf ?_;refine LJ.e (i+1,[o]) ?_;exact gJ (by rw[B];rfl)
   .rw[if_neg q,if_neg q];simp[hi];refine gf ?_;refine gx.kG rfl rfl (afs g hg p z (lE p c) (gt now i) e outs (by omega) (aw.2 q)) ?_;rintro d H' x
    cases D:oz p.side (gt now i)with
    | none=>
     rw[D]at x B;dsimp only at x;subst x;simp;refine gf ?_;refine LJ.i (i+1,outs) (by first|rfl|simp[q]) (by first|rfl|simp[q]) rfl rfl ?_;exact gJ (by rw[B];simp)
    | some o=>
     rw[D]at x B;dsimp only at x;subst x;simp;refine gf ?_;refine LJ.e (i+1,outs ++ [o]) ?_;exact gJ (by rw[B];rfl)
  .rw[lr (by omega)]at r;rw[<-r]at O;subst O
   by_cases q:OO = []
   .rw[if_pos q,if_pos q];simp[hi,q]
   .rw[if_neg q,if_neg q];simp[hi,q]
