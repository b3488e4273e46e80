/- Part 17 of DisputeReferee. -/
import Derived.Test.YtmehofoficaelaaGreatDoorR16
set_option linter.all false
namespace Go.Proofs.YtmehofoficaelaaGreatDoor
open Go Go.AL Classical
set_option maxRecDepth 10000
set_option maxHeartbeats 8000000
attribute [local simp] oq
@[simp] theorem apW(l:List fQ):closed (dN 8 fQ.cells l)=true:=aam l
def seen(l:List fQ):Ob:=.map .str (l.map λs=>(.string (nV s),.b true))
theorem C1{g:fH}(hg:gF g){p:Pos}(a:gT g p):(nu p).length<1000:=by have h1:=a.size;have e:=a.h0.len;have d:=a.h1.len;have c:=hg.jm.size;have b:=hg.kinds;rw[AY,yv];simp;omega
theorem BT(x:fQ):∀(l a:List fQ),lO a (l ++ [x])=if x∈lO a l then lO a l else lO a l ++ [x]
 | [],a=>rfl
 | y::l,a=>by rw[cy,lO,BT x l,lO]
@[simp] theorem avu(ρ:Nat->Option Nat)(H:U)(n:Nat):((λx:Value×D=>(x.1,fL ρ H n x.2)) ∘ λs:fQ=>((.string (nV s):Value),D.b true))=λs:fQ=>((.string (nV s):Value),D.b true):=by funext s;simp
@[simp] theorem awG(n:Nat)(f:List Nat->List Nat):(f ∘ (λx:Value×D=>iT n x.2) ∘ λs:fQ=>((.string (nV s):Value),D.b true))=λ_:fQ=>f []:=by funext s;rfl
@[simp] theorem aqH(l:List fQ):(l.map λ_=>([]:List Nat)).flatten = []:=by simp_all
theorem W3(g:fH)(x:fE)(l:List fQ)(s:fQ):nY g x (l ++ [s])=lO (nY g x l) (iD g s x):=by simp[nY]
def rL(g:fH):List fE->List fQ->List fQ
 | [],now=>now
 | x::r,now=>rL g r (nY g x now)
def tb(g:fH)(p:Pos)(c n:Int):List gy:=(rL g (gt (gt g.kinds (gi (gt p.cs c))).iS n) [kN p c]).filterMap (nA p.side)
theorem f121(g:fH)(hg:gF g)(p:Pos)(z:gT g p)(c n:Int)(F:0<=c/\c<p.cs.length)(hs:jD (gt p.cs c)=p.side)(W:0<=n/\n<(gt g.kinds (gi (gt p.cs c))).iS.length) :
  Wf T 259 [dG g,dP p,.i c,.i n,.fn (.func 260) [] [.ptr 1 0 0,.ptr 2 0 0]] [.row 43 0 g.cells,.row 46 0 p.cells,.row 256 0 [.fJ]] (λd H'=>d = .i 0/\H'=if tb g p c n = []then [.row 43 0 g.cells,.row 46 0 p.cells,.row 256 0 [.fJ]]else [.row 43 0 g.cells,.row 46 0 p.cells,.row 256 0 [.fy 3 ((tb g p c n).length-1) 6 0 (tb g p c n).length],.row 259 ((tb g p c n).length-1) (cl gy.cells (tb g p c n))]):=by
 have hz:=z.size;have hb:=hg.jm.size;have E:=hg.kinds;have iI:=z.side;have iV:=z.cs _ (fZ F.1 F.2)
 have U:0<=gi (gt p.cs c):=by
  unfold jD at hs;unfold gi;split at hs<;>rename_i h5
  .grind
  .omega
 have X:gi (gt p.cs c)<g.kinds.length:=xt iV.2 E.1;refine Yz DK (iB 127 [1017] (iB 79 [9] (iB 77 [5,6,7] DK.body))) ?_;simp[DK,iB,jN,mw,mz,mH,lq];refine Yc (f97 g hg p z) ?_;simp;(with_reducible repeat' first|refine Xk ?_<;>try simp|refine Xs ?_ ?_<;>intro h<;>(try intro h')<;>(try simp[h])<;>try omega|refine Xg ?_|omega);refine Yc (f84 (gt p.cs c)) ?_;simp;simp[hs];(with_reducible repeat' first|refine Xk ?_<;>try simp|refine Xs ?_ ?_<;>intro h<;>(try intro h')<;>(try simp[h])<;>try omega|refine Xg ?_|omega);have ke:=z.small hg;have l0:=z.h0.len;have l1:=z.h1.len;have q0:=iq (l:=p.cs) (n:=c) (v:=0) F.1 F.2;refine Yn (f91 { p:=p,kind:=gi (gt p.cs c),cur:=c,jq:=false } ke (by dsimp only;omega)) ?_;simp;refine jw q0 ?_;have V:wB g (gt (gt g.kinds (gi (gt p.cs c))).iS n):=(hg.iS _ (fZ U X)).2 _ (fZ W.1 W.2);have fR:jQ g (kN p c):=⟨z.Bp F.1 (by omega) (by omega),⟨U,X⟩,⟨F.1,by show c<g.size;omega⟩⟩;have O:tb g p c n=(rL g (gt (gt g.kinds (gi (gt p.cs c))).iS n) [kN p c]).filterMap (nA p.side):=rfl;generalize tb g p c n=OO at *;generalize gt (gt g.kinds (gi (gt p.cs c))).iS n=prog at *;have gX:=V.len;have hq:dN 8 fQ.cells [kN p c]=jX [⟨⟨pt p.cs c 0,p.h0,p.h1,p.gj,p.side⟩,gi (gt p.cs c),c,false⟩]:=rfl;refine fO.s (by simp[q0];rfl) ?_;refine fO.k ((0,[kN p c]):Int×List fQ) (λy=>[(4,.fn (.func 260) [] [.ptr 1 0 0,.ptr 2 0 0]),(5,.ptr 3 0 0),(14,oq y.2),(87,gY prog),(88,.i prog.length),(89,.i y.1)]) (λy=>[.row 43 0 g.cells,.row 46 0 p.cells,.row 256 0 [.fJ],.row 43 0 g.cells,.row 46 0 p.cells,.dead,.dead,.dead,.row 330 0 (kN p c).cells,.dead]) (λy=>0<=y.1/\y.1<=prog.length/\(∀s∈y.2,jQ g s)/\y.2.length<=10 ^ y.1.toNat/\rL g prog [kN p c]=rL g (prog.drop y.1.toNat) y.2) (λy=>(prog.length-y.1).toNat) ?_ (by simp[hq]) (by simp[q0,kN]) rfl rfl rfl ?_
 .grind
 rintro⟨k,now⟩ ⟨k0,k1,k2,k3,k4⟩;dsimp only at k0 k1 k2 k3 k4 ⊢;have a4:(10:Nat) ^ k.toNat<=10 ^ 8:=cE (by decide) (by omega)
 by_cases E:k<prog.length
 .have C:=V.steps _ (fZ k0 E);simp[E];refine fD ?_;refine fO.e ((0,[]):Int×List fQ) (λy=>[(4,.fn (.func 260) [] [.ptr 1 0 0,.ptr 2 0 0]),(5,.ptr 3 0 0),(16,.ptr 10 0 0),(17,if y.2 = []then .fJ else .fy 12 (y.2.length-1) 8 0 y.2.length),(18,.gg 11),(87,gY prog),(88,.i prog.length),(89,.i k),(94,oq now),(95,.i now.length),(96,.i y.1)]) (λy=>[.row 43 0 g.cells,.row 46 0 p.cells,.row 256 0 [.fJ],.row 43 0 g.cells,.row 46 0 p.cells,.dead,.dead,.dead,.row 330 0 (kN p c).cells,.dead,.row 173 0 [.i (gt prog k).1,.i (gt prog k).2],.map .str (y.2.map λs=>(.string (nV s),.b true))]++(if y.2 = []then []else [.row 330 (y.2.length-1) (cl fQ.cells y.2)])) (λy=>0<=y.1/\y.1<=now.length/\y.2=nY g (gt prog k) (now.take y.1.toNat)) (λy=>(now.length-y.1).toNat) ?_ ?_
  .simp[nY]
  rintro⟨i,f⟩ ⟨i0,M,r⟩;dsimp only at i0 M r ⊢
  by_cases hi:i<now.length
  .have I:=k2 _ (fZ i0 hi)
   by_cases w:f = []
   .rw[if_pos w,if_pos w];subst w;simp[hi];refine fD ?_;refine fY.inl rH rfl rfl (by simp[rH]) rfl ?_;simp[rH];have L:(gt prog k).1≠0:=by have:=C.ok;omega
    simp[L];refine Yc (f164 g hg (gt now i) I (gt prog k) C) ?_;simp;refine fO.s (by simp;rfl) ?_;have J:∀t∈iD g (gt now i) (gt prog k),jQ g t:=λt e=>Bu hg I C e;have Q:(iD g (gt now i) (gt prog k)).length<=10:=Du;generalize R:iD g (gt now i) (gt prog k)=ss at *;refine fO.e ((0,[]):Int×List fQ) (λy=>[(4,.fn (.func 260) [] [.ptr 1 0 0,.ptr 2 0 0]),(5,.ptr 3 0 0),(16,.ptr 10 0 0),(17,if y.2 = []then .fJ else .fy 13 (y.2.length-1) 8 0 y.2.length),(18,.gg 11),(87,gY prog),(88,.i prog.length),(89,.i k),(94,oq now),(95,.i now.length),(96,.i i),(107,dN 8 fQ.cells ss),(108,.i ss.length),(109,.i y.1)]) (λy=>[.row 43 0 g.cells,.row 46 0 p.cells,.row 256 0 [.fJ],.row 43 0 g.cells,.row 46 0 p.cells,.dead,.dead,.dead,.row 330 0 (kN p c).cells,.dead,.row 173 0 [.i (gt prog k).1,.i (gt prog k).2],.map .str (y.2.map λs=>(.string (nV s),.b true)),.row 330 0 (gt now i).cells]++(if y.2 = []then []else [.row 330 (y.2.length-1) (cl fQ.cells y.2)])) (λy=>0<=y.1/\y.1<=ss.length/\y.2=lO [] (ss.take y.1.toNat)) (λy=>(ss.length-y.1).toNat) ?_ ?_
    .simp[lO]
    rintro⟨j,A⟩ ⟨j0,j1,j2⟩;dsimp only at j0 j1 j2 ⊢
    have G:∀t∈A,jQ g t:=λt e=>J t (by
     rw[j2,D5]at e
     exact aN (e.resolve_left (by simp)))
    by_cases u:j<ss.length
    .have e:=J _ (fZ j0 u);have mm:=P9 hg e.p
     by_cases m:A = []
     .rw[if_pos m,if_pos m];subst m;simp[u];refine fD ?_;refine Yc (f165 (gt ss j) (by have:=e.kind;omega) (by have:=e.cur;omega) (by have:=e.p.size;omega) (C1 hg e.p)) ?_;simp;refine fD ?_;refine LJ.i (j+1,[gt ss j]) (by first|rfl|simp[iQ]) (by first|rfl|simp[iQ]) rfl rfl ?_;refine gx ?_;dsimp only;rw[iO j0 u,BT,<-j2];simp
     .rw[if_neg m,if_neg m];simp[u];refine fD ?_;refine Yc (f165 (gt ss j) (by have:=e.kind;omega) (by have:=e.cur;omega) (by have:=e.p.size;omega) (C1 hg e.p)) ?_;simp;simp[Qp hg e G]
      by_cases gq:gt ss j∈A
      .simp[gq];refine fD ?_;refine LJ.i (j+1,A) (by first|rfl|simp[m]) (by first|rfl|simp[m]) rfl rfl ?_;refine gx ?_;dsimp only;rw[iO j0 u,BT,<-j2,if_pos gq]
      .have a3:0<A.length:=av.2 m
       have N:A.length<=ss.length:=by have h1:=D4 (a:=[]) (b:=ss.take j.toNat);rw[<-j2,aJ]at h1;simp at h1;omega
       simp[gq,Qv hg e G gq];refine fD ?_;refine LJ.i (j+1,A ++ [gt ss j]) (by first|rfl|simp[show A.length-1+1=A.length by omega]) (by first|rfl|simp[show A.length-1+1=A.length by omega]) rfl rfl ?_;refine gx ?_;dsimp only;rw[iO j0 u,BT,<-j2,if_neg gq]
    .rw[kG (by omega)]at j2
     have H:nY g (gt prog k) (now.take (i+1).toNat)=A:=by rw[iO i0 hi,W3,<-r,R,j2]
     by_cases m:A = []
     .rw[if_pos m,if_pos m];simp[u,m];refine fD ?_;refine LJ.e (i+1,[]) ?_;exact gx (by rw[H,m])
     .rw[if_neg m,if_neg m];simp[u];refine fD ?_;refine LJ.i (i+1,A) (by first|rfl|simp[m]) (by first|rfl|simp[m]) rfl rfl ?_;exact gx H.symm
   .rw[if_neg w,if_neg w]
    have a6:∀t∈f,jQ g t:=λt e=>by rw[r,Mh,bC]at e;obtain⟨s',h1,P⟩:=e;exact Bu hg (k2 _ (aN h1)) C P
    have Z:f.length<=10*now.length:=by rw[r];refine Nat.le_trans Ga ?_;rw[aJ];omega
    have Vo:0<f.length:=av.2 w;simp[hi];refine fD ?_;refine fY.inl rH rfl rfl (by simp[rH]) rfl ?_;simp[rH];have L:(gt prog k).1≠0:=by have:=C.ok;omega
    simp[L];refine Yc (f164 g hg (gt now i) I (gt prog k) C) ?_;simp;refine fO.s (by simp;rfl) ?_;have J:∀t∈iD g (gt now i) (gt prog k),jQ g t:=λt e=>Bu hg I C e;have Q:(iD g (gt now i) (gt prog k)).length<=10:=Du;generalize R:iD g (gt now i) (gt prog k)=ss at *;refine fO.e ((0,f):Int×List fQ) (λy=>[(4,.fn (.func 260) [] [.ptr 1 0 0,.ptr 2 0 0]),(5,.ptr 3 0 0),(16,.ptr 10 0 0),(17,.fy 12 (y.2.length-1) 8 0 y.2.length),(18,.gg 11),(87,gY prog),(88,.i prog.length),(89,.i k),(94,oq now),(95,.i now.length),(96,.i i),(107,dN 8 fQ.cells ss),(108,.i ss.length),(109,.i y.1)]) (λy=>[.row 43 0 g.cells,.row 46 0 p.cells,.row 256 0 [.fJ],.row 43 0 g.cells,.row 46 0 p.cells,.dead,.dead,.dead,.row 330 0 (kN p c).cells,.dead,.row 173 0 [.i (gt prog k).1,.i (gt prog k).2],.map .str (y.2.map λs=>(.string (nV s),.b true)),.row 330 (y.2.length-1) (cl fQ.cells y.2),.row 330 0 (gt now i).cells]) (λy=>0<=y.1/\y.1<=ss.length/\y.2=lO f (ss.take y.1.toNat)/\0<y.2.length) (λy=>(ss.length-y.1).toNat) ?_ ?_
    .simp[lO];exact Vo
    rintro⟨j,A⟩ ⟨j0,j1,j2,j3⟩;dsimp only at j0 j1 j2 j3 ⊢
    have G:∀t∈A,jQ g t:=λt e=>by
     rw[j2,D5]at e;rcases e with e|e
     .grind
     .grind
    have N:A.length<=f.length+ss.length:=by have h1:=D4 (a:=f) (b:=ss.take j.toNat);rw[<-j2,aJ]at h1;omega
    by_cases u:j<ss.length
    .have e:=J _ (fZ j0 u);simp[u];refine fD ?_;refine Yc (f165 (gt ss j) (by have:=e.kind;omega) (by have:=e.cur;omega) (by have:=e.p.size;omega) (C1 hg e.p)) ?_;simp;simp[Qp hg e G]
     by_cases gq:gt ss j∈A
     .simp[gq];refine fD ?_;refine LJ.e (j+1,A) ?_;refine gx ⟨?_,j3⟩;dsimp only;rw[iO j0 u,BT,<-j2,if_pos gq]
     .simp[gq,Qv hg e G gq];refine fD ?_;refine LJ.i (j+1,A ++ [gt ss j]) (by first|rfl|simp[show A.length-1+1=A.length by omega]) (by first|rfl|simp[show A.length-1+1=A.length by omega]) rfl rfl ?_;refine gx ⟨?_,by simp⟩;dsimp only;rw[iO j0 u,BT,<-j2,if_neg gq]
    .rw[kG (by omega)]at j2
     have H:nY g (gt prog k) (now.take (i+1).toNat)=A:=by rw[iO i0 hi,W3,<-r,R,j2]
     have m:A≠[]:=av.1 j3;simp[u];refine fD ?_;refine LJ.i (i+1,A) (by first|rfl|simp[m]) (by first|rfl|simp[m]) rfl rfl ?_;exact gx H.symm
  .rw[kG (by omega)]at r
   have fG:∀t∈f,jQ g t:=λt e=>by rw[r,Mh,bC]at e;obtain⟨s',h1,P⟩:=e;exact Bu hg (k2 _ h1) C P
   have Z:f.length<=10*now.length:=by rw[r];exact Ga
   have S:f.length<=10 ^ (k+1).toNat:=by rw[show(k+1).toNat=k.toNat+1 by omega,dZ];omega
   have K:rL g prog [kN p c]=rL g (prog.drop (k+1).toNat) f:=by rw[k4,nb k0 E,rL,<-r,show(k+1).toNat=k.toNat+1 by omega]
   by_cases w:f = []
   .rw[if_pos w,if_pos w];simp[hi,w];refine fD ?_;refine LJ.i (k+1,[]) (by first|rfl|simp[dN]) (by first|rfl|simp[dN]) rfl rfl ?_;rw[w]at fG S K;exact gx ⟨fG,S,K⟩
   .rw[if_neg w,if_neg w];have Y:jX f=dN 8 fQ.cells f:=NP w;simp[hi];refine fD ?_;refine LJ.i (k+1,f) (by first|rfl|simp[Y]) (by first|rfl|simp[Y]) rfl rfl ?_;exact gx ⟨fG,S,K⟩
 .rw[bp (by omega)]at k4;rw[k4,rL]at O;have h8:now.length<=10 ^ 8:=by omega
  simp[E];refine fD ?_;refine fO.e ((0,[]):Int×List gy) (λy=>[(4,.fn (.func 260) [] [.ptr 1 0 0,.ptr 2 0 0]),(129,oq now),(130,.i now.length),(131,.i y.1)]) (λy=>w5 g p (kN p c) (if y.2 = []then .fJ else .fy 10 (y.2.length-1) 6 0 y.2.length)++(if y.2 = []then []else [.row 259 (y.2.length-1) (cl gy.cells y.2)])) (λy=>0<=y.1/\y.1<=now.length/\y.2=(now.take y.1.toNat).filterMap (nA p.side)) (λy=>(now.length-y.1).toNat) ?_ ?_
  .simp
  rintro⟨i,outs⟩ ⟨i0,M,r⟩;dsimp only at i0 M r ⊢
  by_cases hi:i<now.length
  .have e:=k2 _ (fZ i0 hi);have lr:outs.length<=now.length:=by grind
   have B:(now.take (i+1).toNat).filterMap (nA p.side)=outs++(nA p.side (gt now i)).toList:=by rw[iO i0 hi,List.filterMap_append,<-r];cases D:nA p.side (gt now i)<;>simp[D]
   by_cases q:outs = []
   .rw[if_pos q,if_pos q];subst q;simp[hi];refine fD ?_;refine fY.lW rfl rfl (ab0 g hg p z (kN p c) (gt now i) e) ?_;rintro d H' x
    cases D:nA p.side (gt now i)with
    | none=>
     rw[D]at x B;dsimp only at x;subst x;simp;refine fD ?_;refine LJ.e (i+1,[]) ?_;exact gx (by rw[B];rfl)
    | some o=>
     rw[D]at x B;dsimp only at x;subst x;simp;refine fD ?_;refine LJ.e (i+1,[o]) ?_;exact gx (by rw[B];rfl)
   .rw[if_neg q,if_neg q];simp[hi];refine fD ?_;refine fY.lW rfl rfl (ab1 g hg p z (kN p c) (gt now i) e outs (by omega) (av.2 q)) ?_;rintro d H' x
    cases D:nA p.side (gt now i)with
    | none=>
     rw[D]at x B;dsimp only at x;subst x;simp;refine fD ?_;refine LJ.i (i+1,outs) (by first|rfl|simp[q]) (by first|rfl|simp[q]) rfl rfl ?_;exact gx (by rw[B];simp)
    | some o=>
     rw[D]at x B;dsimp only at x;subst x;simp;refine fD ?_;refine LJ.e (i+1,outs ++ [o]) ?_;exact gx (by rw[B];rfl)
  .rw[kG (by omega)]at r;rw[<-r]at O;subst O
   by_cases q:OO = []
   .rw[if_pos q,if_pos q];simp[hi,q]
   .rw[if_neg q,if_neg q];simp[hi,q]
