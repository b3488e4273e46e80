/- Part 17 of DisputeTruth. -/
import Derived.Test.YtmehofoficaelaaGreatDoorV16
set_option linter.all false
namespace Go.Proofs.YtmehofoficaelaaGreatDoor
open Go Go.AL Classical
set_option maxRecDepth 10000
set_option maxHeartbeats 8000000
attribute [local simp] oT
@[simp] theorem asp(l:List gg):closed (dN 8 gg.cells l)=true:=acq l
def seen(l:List gg):Ob:=.map .str (l.map λs=>(.string (oD s),.b true))
theorem D4{g:fY}(hg:gN g){p:Pos}(a:ij g p):(nV p).length<1000:=by have h1:=a.size;have e:=a.h0.len;have d:=a.h1.len;have c:=hg.jB.size;have b:=hg.kinds;rw[BI,za];simp;omega
theorem CP(x:gg):∀(l a:List gg),l9 a (l ++ [x])=if x∈l9 a l then l9 a l else l9 a l ++ [x]
 | [],a=>rfl
 | y::l,a=>by rw[bQ,l9,CP x l,l9]
@[simp] theorem axT(ρ:Nat->Option Nat)(H:U)(n:Nat):((λx:Value×D=>(x.1,gd ρ H n x.2)) ∘ λs:gg=>((.string (oD s):Value),D.b true))=λs:gg=>((.string (oD s):Value),D.b true):=by funext s;simp
@[simp] theorem ay4(n:Nat)(f:List Nat->List Nat):(f ∘ (λx:Value×D=>ji n x.2) ∘ λs:gg=>((.string (oD s):Value),D.b true))=λ_:gg=>f []:=by funext s;rfl
@[simp] theorem atb(l:List gg):(l.map λ_=>([]:List Nat)).flatten = []:=by simp_all
theorem Zl(g:fY)(x:fO)(l:List gg)(s:gg):oF g x (l ++ [s])=l9 (oF g x l) (iT g s x):=by simp[oF]
def sw(g:fY):List fO->List gg->List gg
 | [],now=>now
 | x::r,now=>sw g r (oF g x now)
def tO(g:fY)(p:Pos)(c n:Int):List gJ:=(sw g (gt (gt g.kinds (gC (gt p.cs c))).jh n) [lq p c]).filterMap (nZ p.side)
theorem f121(g:fY)(hg:gN g)(p:Pos)(z:ij g p)(c n:Int)(F:0<=c/\c<p.cs.length)(hs:jS (gt p.cs c)=p.side)(V:0<=n/\n<(gt g.kinds (gC (gt p.cs c))).jh.length) :
  Wf T 259 [dG g,dP p,.i c,.i n,.fn (.func 260) [] [.ptr 1 0 0,.ptr 2 0 0]] [.row 43 0 g.cells,.row 46 0 p.cells,.row 256 0 [.fX]] (λd H'=>d = .i 0/\H'=if tO g p c n = []then [.row 43 0 g.cells,.row 46 0 p.cells,.row 256 0 [.fX]]else [.row 43 0 g.cells,.row 46 0 p.cells,.row 256 0 [.fM 3 ((tO g p c n).length-1) 6 0 (tO g p c n).length],.row 259 ((tO g p c n).length-1) (cl gJ.cells (tO g p c n))]):=by
 have hz:=z.size;have hb:=hg.jB.size;have E:=hg.kinds;have jg:=z.side;have jr:=z.cs _ (gq F.1 F.2)
 have X:0<=gC (gt p.cs c):=by
  unfold jS at hs;unfold gC;split at hs<;>rename_i h5
  .grind
  .omega
 have W:gC (gt p.cs c)<g.kinds.length:=yf jr.2 E.1;refine Yz EP (iO 127 [1017] (iO 79 [9] (iO 77 [5,6,7] EP.body))) ?_;simp[EP,iO,kh,mN,mQ,nf,lK];refine Yc (f97 g hg p z) ?_;simp;(with_reducible repeat' first|refine Xk ?_<;>try simp|refine Xs ?_ ?_<;>intro h<;>(try intro h')<;>(try simp[h])<;>try omega|refine Xg ?_|omega);refine Yc (f84 (gt p.cs c)) ?_;simp;simp[hs];(with_reducible repeat' first|refine Xk ?_<;>try simp|refine Xs ?_ ?_<;>intro h<;>(try intro h')<;>(try simp[h])<;>try omega|refine Xg ?_|omega);have kD:=z.small hg;have l0:=z.h0.len;have l1:=z.h1.len;have q0:=iH (l:=p.cs) (n:=c) (v:=0) F.1 F.2;refine Yn (f91 { p:=p,kind:=gC (gt p.cs c),cur:=c,jF:=false } kD (by dsimp only;omega)) ?_;simp;refine jH q0 ?_;have U:xk g (gt (gt g.kinds (gC (gt p.cs c))).jh n):=(hg.jh _ (gq X W)).2 _ (gq V.1 V.2);have gh:kd g (lq p c):=⟨z.Cb F.1 (by omega) (by omega),⟨X,W⟩,⟨F.1,by show c<g.size;omega⟩⟩;have O:tO g p c n=(sw g (gt (gt g.kinds (gC (gt p.cs c))).jh n) [lq p c]).filterMap (nZ p.side):=rfl;generalize tO g p c n=OO at *;generalize gt (gt g.kinds (gC (gt p.cs c))).jh n=prog at *;have iz:=U.len;have hq:dN 8 gg.cells [lq p c]=kq [⟨⟨pt p.cs c 0,p.h0,p.h1,p.gD,p.side⟩,gC (gt p.cs c),c,false⟩]:=rfl;refine fZ.s (by simp[q0];rfl) ?_;refine fZ.k ((0,[lq p c]):Int×List gg) (λy=>[(4,.fn (.func 260) [] [.ptr 1 0 0,.ptr 2 0 0]),(5,.ptr 3 0 0),(14,oT y.2),(87,ie prog),(88,.i prog.length),(89,.i y.1)]) (λy=>[.row 43 0 g.cells,.row 46 0 p.cells,.row 256 0 [.fX],.row 43 0 g.cells,.row 46 0 p.cells,.dead,.dead,.dead,.row 330 0 (lq p c).cells,.dead]) (λy=>0<=y.1/\y.1<=prog.length/\(∀s∈y.2,kd g s)/\y.2.length<=10 ^ y.1.toNat/\sw g prog [lq p c]=sw g (prog.drop y.1.toNat) y.2) (λy=>(prog.length-y.1).toNat) ?_ (by simp[hq]) (by simp[q0,lq]) rfl rfl rfl ?_
 .grind
 rintro⟨k,now⟩ ⟨k0,k1,k2,k3,k4⟩;dsimp only at k0 k1 k2 k3 k4 ⊢;have a4:(10:Nat) ^ k.toNat<=10 ^ 8:=cM (by decide) (by omega)
 by_cases E:k<prog.length
 .have C:=U.steps _ (gq k0 E);simp[E];refine fQ ?_;refine fZ.e ((0,[]):Int×List gg) (λy=>[(4,.fn (.func 260) [] [.ptr 1 0 0,.ptr 2 0 0]),(5,.ptr 3 0 0),(16,.ptr 10 0 0),(17,if y.2 = []then .fX else .fM 12 (y.2.length-1) 8 0 y.2.length),(18,.gx 11),(87,ie prog),(88,.i prog.length),(89,.i k),(94,oT now),(95,.i now.length),(96,.i y.1)]) (λy=>[.row 43 0 g.cells,.row 46 0 p.cells,.row 256 0 [.fX],.row 43 0 g.cells,.row 46 0 p.cells,.dead,.dead,.dead,.row 330 0 (lq p c).cells,.dead,.row 173 0 [.i (gt prog k).1,.i (gt prog k).2],.map .str (y.2.map λs=>(.string (oD s),.b true))]++(if y.2 = []then []else [.row 330 (y.2.length-1) (cl gg.cells y.2)])) (λy=>0<=y.1/\y.1<=now.length/\y.2=oF g (gt prog k) (now.take y.1.toNat)) (λy=>(now.length-y.1).toNat) ?_ ?_
  .simp[oF]
  rintro⟨i,f⟩ ⟨i0,M,r⟩;dsimp only at i0 M r ⊢
  by_cases hi:i<now.length
  .have I:=k2 _ (gq i0 hi)
   by_cases w:f = []
   .rw[if_pos w,if_pos w];subst w;simp[hi];refine fQ ?_;refine gj.inl su rfl rfl (by simp[su]) rfl ?_;simp[su];have L:(gt prog k).1≠0:=by have:=C.ok;omega
    simp[L];refine Yc (f164 g hg (gt now i) I (gt prog k) C) ?_;simp;refine fZ.s (by simp;rfl) ?_;have J:∀t∈iT g (gt now i) (gt prog k),kd g t:=λt e=>Ci hg I C e;have Q:(iT g (gt now i) (gt prog k)).length<=10:=EA;generalize R:iT g (gt now i) (gt prog k)=ss at *;refine fZ.e ((0,[]):Int×List gg) (λy=>[(4,.fn (.func 260) [] [.ptr 1 0 0,.ptr 2 0 0]),(5,.ptr 3 0 0),(16,.ptr 10 0 0),(17,if y.2 = []then .fX else .fM 13 (y.2.length-1) 8 0 y.2.length),(18,.gx 11),(87,ie prog),(88,.i prog.length),(89,.i k),(94,oT now),(95,.i now.length),(96,.i i),(107,dN 8 gg.cells ss),(108,.i ss.length),(109,.i y.1)]) (λy=>[.row 43 0 g.cells,.row 46 0 p.cells,.row 256 0 [.fX],.row 43 0 g.cells,.row 46 0 p.cells,.dead,.dead,.dead,.row 330 0 (lq p c).cells,.dead,.row 173 0 [.i (gt prog k).1,.i (gt prog k).2],.map .str (y.2.map λs=>(.string (oD s),.b true)),.row 330 0 (gt now i).cells]++(if y.2 = []then []else [.row 330 (y.2.length-1) (cl gg.cells y.2)])) (λy=>0<=y.1/\y.1<=ss.length/\y.2=l9 [] (ss.take y.1.toNat)) (λy=>(ss.length-y.1).toNat) ?_ ?_
    .simp[l9]
    rintro⟨j,A⟩ ⟨j0,j1,j2⟩;dsimp only at j0 j1 j2 ⊢
    have G:∀t∈A,kd g t:=λt e=>J t (by
     rw[j2,Fe]at e
     exact aS (e.resolve_left (by simp)))
    by_cases u:j<ss.length
    .have e:=J _ (gq j0 u);have mw:=RY hg e.p
     by_cases m:A = []
     .rw[if_pos m,if_pos m];subst m;simp[u];refine fQ ?_;refine Yc (f165 (gt ss j) (by have:=e.kind;omega) (by have:=e.cur;omega) (by have:=e.p.size;omega) (D4 hg e.p)) ?_;simp;refine fQ ?_;refine LJ.i (j+1,[gt ss j]) (by first|rfl|simp[iI]) (by first|rfl|simp[iI]) rfl rfl ?_;refine gI ?_;dsimp only;rw[jd j0 u,CP,<-j2];simp
     .rw[if_neg m,if_neg m];simp[u];refine fQ ?_;refine Yc (f165 (gt ss j) (by have:=e.kind;omega) (by have:=e.cur;omega) (by have:=e.p.size;omega) (D4 hg e.p)) ?_;simp;simp[Sk hg e G]
      by_cases gy:gt ss j∈A
      .simp[gy];refine fQ ?_;refine LJ.i (j+1,A) (by first|rfl|simp[m]) (by first|rfl|simp[m]) rfl rfl ?_;refine gI ?_;dsimp only;rw[jd j0 u,CP,<-j2,if_pos gy]
      .have a3:0<A.length:=ax.2 m
       have N:A.length<=ss.length:=by have h1:=Fc (a:=[]) (b:=ss.take j.toNat);rw[<-j2,aK]at h1;simp at h1;omega
       simp[gy,Sr hg e G gy];refine fQ ?_;refine LJ.i (j+1,A ++ [gt ss j]) (by first|rfl|simp[show A.length-1+1=A.length by omega]) (by first|rfl|simp[show A.length-1+1=A.length by omega]) rfl rfl ?_;refine gI ?_;dsimp only;rw[jd j0 u,CP,<-j2,if_neg gy]
    .rw[kW (by omega)]at j2
     have H:oF g (gt prog k) (now.take (i+1).toNat)=A:=by rw[jd i0 hi,Zl,<-r,R,j2]
     by_cases m:A = []
     .rw[if_pos m,if_pos m];simp[u,m];refine fQ ?_;refine LJ.e (i+1,[]) ?_;exact gI (by rw[H,m])
     .rw[if_neg m,if_neg m];simp[u];refine fQ ?_;refine LJ.i (i+1,A) (by first|rfl|simp[m]) (by first|rfl|simp[m]) rfl rfl ?_;exact gI H.symm
   .rw[if_neg w,if_neg w]
    have a6:∀t∈f,kd g t:=λt e=>by rw[r,NQ,bI]at e;obtain⟨s',h1,P⟩:=e;exact Ci hg (k2 _ (aS h1)) C P
    have Z:f.length<=10*now.length:=by rw[r];refine Nat.le_trans HD ?_;rw[aK];omega
    have Xr:0<f.length:=ax.2 w;simp[hi];refine fQ ?_;refine gj.inl su rfl rfl (by simp[su]) rfl ?_;simp[su];have L:(gt prog k).1≠0:=by have:=C.ok;omega
    simp[L];refine Yc (f164 g hg (gt now i) I (gt prog k) C) ?_;simp;refine fZ.s (by simp;rfl) ?_;have J:∀t∈iT g (gt now i) (gt prog k),kd g t:=λt e=>Ci hg I C e;have Q:(iT g (gt now i) (gt prog k)).length<=10:=EA;generalize R:iT g (gt now i) (gt prog k)=ss at *;refine fZ.e ((0,f):Int×List gg) (λy=>[(4,.fn (.func 260) [] [.ptr 1 0 0,.ptr 2 0 0]),(5,.ptr 3 0 0),(16,.ptr 10 0 0),(17,.fM 12 (y.2.length-1) 8 0 y.2.length),(18,.gx 11),(87,ie prog),(88,.i prog.length),(89,.i k),(94,oT now),(95,.i now.length),(96,.i i),(107,dN 8 gg.cells ss),(108,.i ss.length),(109,.i y.1)]) (λy=>[.row 43 0 g.cells,.row 46 0 p.cells,.row 256 0 [.fX],.row 43 0 g.cells,.row 46 0 p.cells,.dead,.dead,.dead,.row 330 0 (lq p c).cells,.dead,.row 173 0 [.i (gt prog k).1,.i (gt prog k).2],.map .str (y.2.map λs=>(.string (oD s),.b true)),.row 330 (y.2.length-1) (cl gg.cells y.2),.row 330 0 (gt now i).cells]) (λy=>0<=y.1/\y.1<=ss.length/\y.2=l9 f (ss.take y.1.toNat)/\0<y.2.length) (λy=>(ss.length-y.1).toNat) ?_ ?_
    .simp[l9];exact Xr
    rintro⟨j,A⟩ ⟨j0,j1,j2,j3⟩;dsimp only at j0 j1 j2 j3 ⊢
    have G:∀t∈A,kd g t:=λt e=>by
     rw[j2,Fe]at e;rcases e with e|e
     .grind
     .grind
    have N:A.length<=f.length+ss.length:=by have h1:=Fc (a:=f) (b:=ss.take j.toNat);rw[<-j2,aK]at h1;omega
    by_cases u:j<ss.length
    .have e:=J _ (gq j0 u);simp[u];refine fQ ?_;refine Yc (f165 (gt ss j) (by have:=e.kind;omega) (by have:=e.cur;omega) (by have:=e.p.size;omega) (D4 hg e.p)) ?_;simp;simp[Sk hg e G]
     by_cases gy:gt ss j∈A
     .simp[gy];refine fQ ?_;refine LJ.e (j+1,A) ?_;refine gI ⟨?_,j3⟩;dsimp only;rw[jd j0 u,CP,<-j2,if_pos gy]
     .simp[gy,Sr hg e G gy];refine fQ ?_;refine LJ.i (j+1,A ++ [gt ss j]) (by first|rfl|simp[show A.length-1+1=A.length by omega]) (by first|rfl|simp[show A.length-1+1=A.length by omega]) rfl rfl ?_;refine gI ⟨?_,by simp⟩;dsimp only;rw[jd j0 u,CP,<-j2,if_neg gy]
    .rw[kW (by omega)]at j2
     have H:oF g (gt prog k) (now.take (i+1).toNat)=A:=by rw[jd i0 hi,Zl,<-r,R,j2]
     have m:A≠[]:=ax.1 j3;simp[u];refine fQ ?_;refine LJ.i (i+1,A) (by first|rfl|simp[m]) (by first|rfl|simp[m]) rfl rfl ?_;exact gI H.symm
  .rw[kW (by omega)]at r
   have fV:∀t∈f,kd g t:=λt e=>by rw[r,NQ,bI]at e;obtain⟨s',h1,P⟩:=e;exact Ci hg (k2 _ h1) C P
   have Z:f.length<=10*now.length:=by rw[r];exact HD
   have S:f.length<=10 ^ (k+1).toNat:=by rw[show(k+1).toNat=k.toNat+1 by omega,eA];omega
   have K:sw g prog [lq p c]=sw g (prog.drop (k+1).toNat) f:=by rw[k4,nN k0 E,sw,<-r,show(k+1).toNat=k.toNat+1 by omega]
   by_cases w:f = []
   .rw[if_pos w,if_pos w];simp[hi,w];refine fQ ?_;refine LJ.i (k+1,[]) (by first|rfl|simp[dN]) (by first|rfl|simp[dN]) rfl rfl ?_;rw[w]at fV S K;exact gI ⟨fV,S,K⟩
   .rw[if_neg w,if_neg w];have Y:kq f=dN 8 gg.cells f:=Pz w;simp[hi];refine fQ ?_;refine LJ.i (k+1,f) (by first|rfl|simp[Y]) (by first|rfl|simp[Y]) rfl rfl ?_;exact gI ⟨fV,S,K⟩
 .rw[bw (by omega)]at k4;rw[k4,sw]at O;have h8:now.length<=10 ^ 8:=by omega
  simp[E];refine fQ ?_;refine fZ.e ((0,[]):Int×List gJ) (λy=>[(4,.fn (.func 260) [] [.ptr 1 0 0,.ptr 2 0 0]),(129,oT now),(130,.i now.length),(131,.i y.1)]) (λy=>xN g p (lq p c) (if y.2 = []then .fX else .fM 10 (y.2.length-1) 6 0 y.2.length)++(if y.2 = []then []else [.row 259 (y.2.length-1) (cl gJ.cells y.2)])) (λy=>0<=y.1/\y.1<=now.length/\y.2=(now.take y.1.toNat).filterMap (nZ p.side)) (λy=>(now.length-y.1).toNat) ?_ ?_
  .simp
  rintro⟨i,outs⟩ ⟨i0,M,r⟩;dsimp only at i0 M r ⊢
  by_cases hi:i<now.length
  .have e:=k2 _ (gq i0 hi);have mz:outs.length<=now.length:=by grind
   have B:(now.take (i+1).toNat).filterMap (nZ p.side)=outs++(nZ p.side (gt now i)).toList:=by rw[jd i0 hi,List.filterMap_append,<-r];cases D:nZ p.side (gt now i)<;>simp[D]
   by_cases q:outs = []
   .rw[if_pos q,if_pos q];subst q;simp[hi];refine fQ ?_;refine gj.kU rfl rfl (ad7 g hg p z (lq p c) (gt now i) e) ?_;rintro d H' x
    cases D:nZ p.side (gt now i)with
    | none=>
     rw[D]at x B;dsimp only at x;subst x;simp;refine fQ ?_;refine LJ.e (i+1,[]) ?_;exact gI (by rw[B];rfl)
    | some o=>
     rw[D]at x B;dsimp only at x;subst x;simp;refine fQ ?_;refine LJ.e (i+1,[o]) ?_;exact gI (by rw[B];rfl)
   .rw[if_neg q,if_neg q];simp[hi];refine fQ ?_;refine gj.kU rfl rfl (ad8 g hg p z (lq p c) (gt now i) e outs (by omega) (ax.2 q)) ?_;rintro d H' x
    cases D:nZ p.side (gt now i)with
    | none=>
     rw[D]at x B;dsimp only at x;subst x;simp;refine fQ ?_;refine LJ.i (i+1,outs) (by first|rfl|simp[q]) (by first|rfl|simp[q]) rfl rfl ?_;exact gI (by rw[B];simp)
    | some o=>
     rw[D]at x B;dsimp only at x;subst x;simp;refine fQ ?_;refine LJ.e (i+1,outs ++ [o]) ?_;exact gI (by rw[B];rfl)
  .rw[kW (by omega)]at r;rw[<-r]at O;subst O
   by_cases q:OO = []
   .rw[if_pos q,if_pos q];simp[hi,q]
   .rw[if_neg q,if_neg q];simp[hi,q]
