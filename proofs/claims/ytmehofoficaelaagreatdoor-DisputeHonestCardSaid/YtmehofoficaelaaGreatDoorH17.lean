/- Part 17 of DisputeHonest. -/
import Derived.Test.YtmehofoficaelaaGreatDoorH16
set_option linter.all false
namespace Go.Proofs.YtmehofoficaelaaGreatDoor
open Go Go.AL Classical
set_option maxRecDepth 10000
set_option maxHeartbeats 8000000
attribute [local simp] nZ
@[simp] theorem apg(l:List fF):closed (dN 8 fF.cells l)=true:=ZK l
def seen(l:List fF):Ob:=.map .str (l.map λs=>(.string (nH s),.b true))
theorem Cr{g:fu}(hg:gu g){p:Pos}(a:gJ g p):(mY p).length<1000:=by have h1:=a.size;have e:=a.h0.len;have d:=a.h1.len;have c:=hg.jb.size;have b:=hg.kinds;rw[Aq,xV];simp;omega
theorem Bn(x:fF):∀(l a:List fF),lA a (l ++ [x])=if x∈lA a l then lA a l else lA a l ++ [x]
 | [],a=>rfl
 | y::l,a=>by rw[bP,lA,Bn x l,lA]
@[simp] theorem auO(ρ:Nat->Option Nat)(H:U)(n:Nat):((λx:Value×D=>(x.1,fy ρ H n x.2)) ∘ λs:fF=>((.string (nH s):Value),D.b true))=λs:fF=>((.string (nH s):Value),D.b true):=by funext s;simp
@[simp] theorem avZ(n:Nat)(f:List Nat->List Nat):(f ∘ (λx:Value×D=>iH n x.2) ∘ λs:fF=>((.string (nH s):Value),D.b true))=λ_:fF=>f []:=by funext s;rfl
@[simp] theorem ap2(l:List fF):(l.map λ_=>([]:List Nat)).flatten = []:=by simp_all
theorem Wy(g:fu)(x:fq)(l:List fF)(s:fF):nM g x (l ++ [s])=lA (nM g x l) (im g s x):=by simp[nM]
def rm(g:fu):List fq->List fF->List fF
 | [],now=>now
 | x::r,now=>rm g r (nM g x now)
def sN(g:fu)(p:Pos)(c n:Int):List gh:=(rm g (gt (gt g.kinds (fX (gt p.cs c))).iG n) [kC p c]).filterMap (nc p.side)
theorem f121(g:fu)(hg:gu g)(p:Pos)(z:gJ g p)(c n:Int)(F:0<=c/\c<p.cs.length)(hs:jr (gt p.cs c)=p.side)(V:0<=n/\n<(gt g.kinds (fX (gt p.cs c))).iG.length) :
  Wf T 259 [dG g,dP p,.i c,.i n,.fn (.func 260) [] [.ptr 1 0 0,.ptr 2 0 0]] [.row 43 0 g.cells,.row 46 0 p.cells,.row 256 0 [.fw]] (λd H'=>d = .i 0/\H'=if sN g p c n = []then [.row 43 0 g.cells,.row 46 0 p.cells,.row 256 0 [.fw]]else [.row 43 0 g.cells,.row 46 0 p.cells,.row 256 0 [.fm 3 ((sN g p c n).length-1) 6 0 (sN g p c n).length],.row 259 ((sN g p c n).length-1) (cl gh.cells (sN g p c n))]):=by
 have hz:=z.size;have hb:=hg.jb.size;have E:=hg.kinds;have iz:=z.side;have iQ:=z.cs _ (fM F.1 F.2)
 have S:0<=fX (gt p.cs c):=by
  unfold jr at hs;unfold fX;split at hs<;>rename_i h5
  .grind
  .omega
 have W:fX (gt p.cs c)<g.kinds.length:=wY iQ.2 E.1;refine Yz Da (ik 127 [1017] (ik 79 [9] (ik 77 [5,6,7] Da.body))) ?_;simp[Da,ik,jG,me,mg,mq,kQ];refine Yc (f97 g hg p z) ?_;simp;(with_reducible repeat' first|refine Xk ?_<;>try simp|refine Xs ?_ ?_<;>intro h<;>(try intro h')<;>(try simp[h])<;>try omega|refine Xg ?_|omega);refine Yc (f84 (gt p.cs c)) ?_;simp;simp[hs];(with_reducible repeat' first|refine Xk ?_<;>try simp|refine Xs ?_ ?_<;>intro h<;>(try intro h')<;>(try simp[h])<;>try omega|refine Xg ?_|omega);have jU:=z.small hg;have l0:=z.h0.len;have l1:=z.h1.len;have q0:=ig (l:=p.cs) (n:=c) (v:=0) F.1 F.2;refine Yn (f91 { p:=p,kind:=fX (gt p.cs c),cur:=c,je:=false } jU (by dsimp only;omega)) ?_;simp;refine ja q0 ?_;have U:vQ g (gt (gt g.kinds (fX (gt p.cs c))).iG n):=(hg.iG _ (fM S W)).2 _ (fM V.1 V.2);have fG:jE g (kC p c):=⟨z.AV F.1 (by omega) (by omega),⟨S,W⟩,⟨F.1,by show c<g.size;omega⟩⟩;have N:sN g p c n=(rm g (gt (gt g.kinds (fX (gt p.cs c))).iG n) [kC p c]).filterMap (nc p.side):=rfl;generalize sN g p c n=OO at *;generalize gt (gt g.kinds (fX (gt p.cs c))).iG n=prog at *;have gU:=U.len;have hq:dN 8 fF.cells [kC p c]=jN [⟨⟨pt p.cs c 0,p.h0,p.h1,p.fY,p.side⟩,fX (gt p.cs c),c,false⟩]:=rfl;refine fE.s (by simp[q0];rfl) ?_;refine fE.k ((0,[kC p c]):Int×List fF) (λy=>[(4,.fn (.func 260) [] [.ptr 1 0 0,.ptr 2 0 0]),(5,.ptr 3 0 0),(14,nZ y.2),(87,gQ prog),(88,.i prog.length),(89,.i y.1)]) (λy=>[.row 43 0 g.cells,.row 46 0 p.cells,.row 256 0 [.fw],.row 43 0 g.cells,.row 46 0 p.cells,.dead,.dead,.dead,.row 330 0 (kC p c).cells,.dead]) (λy=>0<=y.1/\y.1<=prog.length/\(∀s∈y.2,jE g s)/\y.2.length<=10 ^ y.1.toNat/\rm g prog [kC p c]=rm g (prog.drop y.1.toNat) y.2) (λy=>(prog.length-y.1).toNat) ?_ (by simp[hq]) (by simp[q0,kC]) rfl rfl rfl ?_
 .grind
 rintro⟨k,now⟩ ⟨k0,k1,k2,k3,k4⟩;dsimp only at k0 k1 k2 k3 k4 ⊢;have a3:(10:Nat) ^ k.toNat<=10 ^ 8:=cE (by decide) (by omega)
 by_cases E:k<prog.length
 .have C:=U.steps _ (fM k0 E);simp[E];refine fo ?_;refine fE.e ((0,[]):Int×List fF) (λy=>[(4,.fn (.func 260) [] [.ptr 1 0 0,.ptr 2 0 0]),(5,.ptr 3 0 0),(16,.ptr 10 0 0),(17,if y.2 = []then .fw else .fm 12 (y.2.length-1) 8 0 y.2.length),(18,.fV 11),(87,gQ prog),(88,.i prog.length),(89,.i k),(94,nZ now),(95,.i now.length),(96,.i y.1)]) (λy=>[.row 43 0 g.cells,.row 46 0 p.cells,.row 256 0 [.fw],.row 43 0 g.cells,.row 46 0 p.cells,.dead,.dead,.dead,.row 330 0 (kC p c).cells,.dead,.row 173 0 [.i (gt prog k).1,.i (gt prog k).2],.map .str (y.2.map λs=>(.string (nH s),.b true))]++(if y.2 = []then []else [.row 330 (y.2.length-1) (cl fF.cells y.2)])) (λy=>0<=y.1/\y.1<=now.length/\y.2=nM g (gt prog k) (now.take y.1.toNat)) (λy=>(now.length-y.1).toNat) ?_ ?_
  .simp[nM]
  rintro⟨i,f⟩ ⟨i0,L,r⟩;dsimp only at i0 L r ⊢
  by_cases hi:i<now.length
  .have H:=k2 _ (fM i0 hi)
   by_cases w:f = []
   .rw[if_pos w,if_pos w];subst w;simp[hi];refine fo ?_;refine fL.inl ri rfl rfl (by simp[ri]) rfl ?_;simp[ri];have P:(gt prog k).1≠0:=by have:=C.ok;omega
    simp[P];refine Yc (f164 g hg (gt now i) H (gt prog k) C) ?_;simp;refine fE.s (by simp;rfl) ?_;have I:∀t∈im g (gt now i) (gt prog k),jE g t:=λt e=>A0 hg H C e;have Q:(im g (gt now i) (gt prog k)).length<=10:=CW;generalize R:im g (gt now i) (gt prog k)=ss at *;refine fE.e ((0,[]):Int×List fF) (λy=>[(4,.fn (.func 260) [] [.ptr 1 0 0,.ptr 2 0 0]),(5,.ptr 3 0 0),(16,.ptr 10 0 0),(17,if y.2 = []then .fw else .fm 13 (y.2.length-1) 8 0 y.2.length),(18,.fV 11),(87,gQ prog),(88,.i prog.length),(89,.i k),(94,nZ now),(95,.i now.length),(96,.i i),(107,dN 8 fF.cells ss),(108,.i ss.length),(109,.i y.1)]) (λy=>[.row 43 0 g.cells,.row 46 0 p.cells,.row 256 0 [.fw],.row 43 0 g.cells,.row 46 0 p.cells,.dead,.dead,.dead,.row 330 0 (kC p c).cells,.dead,.row 173 0 [.i (gt prog k).1,.i (gt prog k).2],.map .str (y.2.map λs=>(.string (nH s),.b true)),.row 330 0 (gt now i).cells]++(if y.2 = []then []else [.row 330 (y.2.length-1) (cl fF.cells y.2)])) (λy=>0<=y.1/\y.1<=ss.length/\y.2=lA [] (ss.take y.1.toNat)) (λy=>(ss.length-y.1).toNat) ?_ ?_
    .simp[lA]
    rintro⟨j,A⟩ ⟨j0,j1,j2⟩;dsimp only at j0 j1 j2 ⊢
    have G:∀t∈A,jE g t:=λt e=>I t (by
     rw[j2,Dx]at e
     exact aN (e.resolve_left (by simp)))
    by_cases u:j<ss.length
    .have e:=I _ (fM j0 u);have l7:=PE hg e.p
     by_cases m:A = []
     .rw[if_pos m,if_pos m];subst m;simp[u];refine fo ?_;refine Yc (f165 (gt ss j) (by have:=e.kind;omega) (by have:=e.cur;omega) (by have:=e.p.size;omega) (Cr hg e.p)) ?_;simp;refine fo ?_;refine LJ.i (j+1,[gt ss j]) (by first|rfl|simp[iF]) (by first|rfl|simp[iF]) rfl rfl ?_;refine gg ?_;dsimp only;rw[iD j0 u,Bn,<-j2];simp
     .rw[if_neg m,if_neg m];simp[u];refine fo ?_;refine Yc (f165 (gt ss j) (by have:=e.kind;omega) (by have:=e.cur;omega) (by have:=e.p.size;omega) (Cr hg e.p)) ?_;simp;simp[PY hg e G]
      by_cases fZ:gt ss j∈A
      .simp[fZ];refine fo ?_;refine LJ.i (j+1,A) (by first|rfl|simp[m]) (by first|rfl|simp[m]) rfl rfl ?_;refine gg ?_;dsimp only;rw[iD j0 u,Bn,<-j2,if_pos fZ]
      .have a2:0<A.length:=av.2 m
       have M:A.length<=ss.length:=by have h1:=Dw (a:=[]) (b:=ss.take j.toNat);rw[<-j2,aK]at h1;simp at h1;omega
       simp[fZ,P4 hg e G fZ];refine fo ?_;refine LJ.i (j+1,A ++ [gt ss j]) (by first|rfl|simp[show A.length-1+1=A.length by omega]) (by first|rfl|simp[show A.length-1+1=A.length by omega]) rfl rfl ?_;refine gg ?_;dsimp only;rw[iD j0 u,Bn,<-j2,if_neg fZ]
    .rw[kq (by omega)]at j2
     have rL:nM g (gt prog k) (now.take (i+1).toNat)=A:=by rw[iD i0 hi,Wy,<-r,R,j2]
     by_cases m:A = []
     .rw[if_pos m,if_pos m];simp[u,m];refine fo ?_;refine LJ.e (i+1,[]) ?_;exact gg (by rw[rL,m])
     .rw[if_neg m,if_neg m];simp[u];refine fo ?_;refine LJ.i (i+1,A) (by first|rfl|simp[m]) (by first|rfl|simp[m]) rfl rfl ?_;exact gg rL.symm
   .rw[if_neg w,if_neg w]
    have a5:∀t∈f,jE g t:=λt e=>by rw[r,LN,bB]at e;obtain⟨Z,h1,O⟩:=e;exact A0 hg (k2 _ (aN h1)) C O
    have Y:f.length<=10*now.length:=by rw[r];refine Nat.le_trans FE ?_;rw[aK];omega
    have UZ:0<f.length:=av.2 w;simp[hi];refine fo ?_;refine fL.inl ri rfl rfl (by simp[ri]) rfl ?_;simp[ri];have P:(gt prog k).1≠0:=by have:=C.ok;omega
    simp[P];refine Yc (f164 g hg (gt now i) H (gt prog k) C) ?_;simp;refine fE.s (by simp;rfl) ?_;have I:∀t∈im g (gt now i) (gt prog k),jE g t:=λt e=>A0 hg H C e;have Q:(im g (gt now i) (gt prog k)).length<=10:=CW;generalize R:im g (gt now i) (gt prog k)=ss at *;refine fE.e ((0,f):Int×List fF) (λy=>[(4,.fn (.func 260) [] [.ptr 1 0 0,.ptr 2 0 0]),(5,.ptr 3 0 0),(16,.ptr 10 0 0),(17,.fm 12 (y.2.length-1) 8 0 y.2.length),(18,.fV 11),(87,gQ prog),(88,.i prog.length),(89,.i k),(94,nZ now),(95,.i now.length),(96,.i i),(107,dN 8 fF.cells ss),(108,.i ss.length),(109,.i y.1)]) (λy=>[.row 43 0 g.cells,.row 46 0 p.cells,.row 256 0 [.fw],.row 43 0 g.cells,.row 46 0 p.cells,.dead,.dead,.dead,.row 330 0 (kC p c).cells,.dead,.row 173 0 [.i (gt prog k).1,.i (gt prog k).2],.map .str (y.2.map λs=>(.string (nH s),.b true)),.row 330 (y.2.length-1) (cl fF.cells y.2),.row 330 0 (gt now i).cells]) (λy=>0<=y.1/\y.1<=ss.length/\y.2=lA f (ss.take y.1.toNat)/\0<y.2.length) (λy=>(ss.length-y.1).toNat) ?_ ?_
    .simp[lA];exact UZ
    rintro⟨j,A⟩ ⟨j0,j1,j2,j3⟩;dsimp only at j0 j1 j2 j3 ⊢
    have G:∀t∈A,jE g t:=λt e=>by
     rw[j2,Dx]at e;rcases e with e|e
     .grind
     .grind
    have M:A.length<=f.length+ss.length:=by have h1:=Dw (a:=f) (b:=ss.take j.toNat);rw[<-j2,aK]at h1;omega
    by_cases u:j<ss.length
    .have e:=I _ (fM j0 u);simp[u];refine fo ?_;refine Yc (f165 (gt ss j) (by have:=e.kind;omega) (by have:=e.cur;omega) (by have:=e.p.size;omega) (Cr hg e.p)) ?_;simp;simp[PY hg e G]
     by_cases fZ:gt ss j∈A
     .simp[fZ];refine fo ?_;refine LJ.e (j+1,A) ?_;refine gg ⟨?_,j3⟩;dsimp only;rw[iD j0 u,Bn,<-j2,if_pos fZ]
     .simp[fZ,P4 hg e G fZ];refine fo ?_;refine LJ.i (j+1,A ++ [gt ss j]) (by first|rfl|simp[show A.length-1+1=A.length by omega]) (by first|rfl|simp[show A.length-1+1=A.length by omega]) rfl rfl ?_;refine gg ⟨?_,by simp⟩;dsimp only;rw[iD j0 u,Bn,<-j2,if_neg fZ]
    .rw[kq (by omega)]at j2
     have rL:nM g (gt prog k) (now.take (i+1).toNat)=A:=by rw[iD i0 hi,Wy,<-r,R,j2]
     have m:A≠[]:=av.1 j3;simp[u];refine fo ?_;refine LJ.i (i+1,A) (by first|rfl|simp[m]) (by first|rfl|simp[m]) rfl rfl ?_;exact gg rL.symm
  .rw[kq (by omega)]at r
   have ft:∀t∈f,jE g t:=λt e=>by rw[r,LN,bB]at e;obtain⟨Z,h1,O⟩:=e;exact A0 hg (k2 _ h1) C O
   have Y:f.length<=10*now.length:=by rw[r];exact FE
   have J:f.length<=10 ^ (k+1).toNat:=by rw[show(k+1).toNat=k.toNat+1 by omega,dW];omega
   have K:rm g prog [kC p c]=rm g (prog.drop (k+1).toNat) f:=by rw[k4,mP k0 E,rm,<-r,show(k+1).toNat=k.toNat+1 by omega]
   by_cases w:f = []
   .rw[if_pos w,if_pos w];simp[hi,w];refine fo ?_;refine LJ.i (k+1,[]) (by first|rfl|simp[dN]) (by first|rfl|simp[dN]) rfl rfl ?_;rw[w]at ft J K;exact gg ⟨ft,J,K⟩
   .rw[if_neg w,if_neg w];have X:jN f=dN 8 fF.cells f:=Nq w;simp[hi];refine fo ?_;refine LJ.i (k+1,f) (by first|rfl|simp[X]) (by first|rfl|simp[X]) rfl rfl ?_;exact gg ⟨ft,J,K⟩
 .rw[bn (by omega)]at k4;rw[k4,rm]at N;have h8:now.length<=10 ^ 8:=by omega
  simp[E];refine fo ?_;refine fE.e ((0,[]):Int×List gh) (λy=>[(4,.fn (.func 260) [] [.ptr 1 0 0,.ptr 2 0 0]),(129,nZ now),(130,.i now.length),(131,.i y.1)]) (λy=>wC g p (kC p c) (if y.2 = []then .fw else .fm 10 (y.2.length-1) 6 0 y.2.length)++(if y.2 = []then []else [.row 259 (y.2.length-1) (cl gh.cells y.2)])) (λy=>0<=y.1/\y.1<=now.length/\y.2=(now.take y.1.toNat).filterMap (nc p.side)) (λy=>(now.length-y.1).toNat) ?_ ?_
  .simp
  rintro⟨i,outs⟩ ⟨i0,L,r⟩;dsimp only at i0 L r ⊢
  by_cases hi:i<now.length
  .have e:=k2 _ (fM i0 hi);have lU:outs.length<=now.length:=by grind
   have B:(now.take (i+1).toNat).filterMap (nc p.side)=outs++(nc p.side (gt now i)).toList:=by rw[iD i0 hi,List.filterMap_append,<-r];cases D:nc p.side (gt now i)<;>simp[D]
   by_cases q:outs = []
   .rw[if_pos q,if_pos q];subst q;simp[hi];refine fo ?_;refine fL.lG rfl rfl (abm g hg p z (kC p c) (gt now i) e) ?_;rintro d H' x
    cases D:nc p.side (gt now i)with
    | none=>
     rw[D]at x B;dsimp only at x;subst x;simp;refine fo ?_;refine LJ.e (i+1,[]) ?_;exact gg (by rw[B];rfl)
    | some o=>
     rw[D]at x B;dsimp only at x;subst x;simp;refine fo ?_;refine LJ.e (i+1,[o]) ?_;exact gg (by rw[B];rfl)
   .rw[if_neg q,if_neg q];simp[hi];refine fo ?_;refine fL.lG rfl rfl (abn g hg p z (kC p c) (gt now i) e outs (by omega) (av.2 q)) ?_;rintro d H' x
    cases D:nc p.side (gt now i)with
    | none=>
     rw[D]at x B;dsimp only at x;subst x;simp;refine fo ?_;refine LJ.i (i+1,outs) (by first|rfl|simp[q]) (by first|rfl|simp[q]) rfl rfl ?_;exact gg (by rw[B];simp)
    | some o=>
     rw[D]at x B;dsimp only at x;subst x;simp;refine fo ?_;refine LJ.e (i+1,outs ++ [o]) ?_;exact gg (by rw[B];rfl)
  .rw[kq (by omega)]at r;rw[<-r]at N;subst N
   by_cases q:OO = []
   .rw[if_pos q,if_pos q];simp[hi,q]
   .rw[if_neg q,if_neg q];simp[hi,q]
