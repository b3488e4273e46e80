/- Part 17 of DisputeWorkers. -/
import Derived.Test.YtmehofoficaelaaGreatDoorW16
set_option linter.all false
namespace Go.Proofs.YtmehofoficaelaaGreatDoor
open Go Go.AL Classical
set_option maxRecDepth 10000
set_option maxHeartbeats 8000000
attribute [local simp] pe
@[simp] theorem as7(l:List gv):closed (dN 8 gv.cells l)=true:=acI l
def seen(l:List gv):Ob:=.map .str (l.map λs=>(.string (oW s),.b true))
theorem EA{g:gi}(hg:gV g){p:Pos}(a:iw g p):(ot p).length<1000:=by have h1:=a.size;have e:=a.h0.len;have d:=a.h1.len;have c:=hg.jJ.size;have b:=hg.kinds;rw[Ca,zG];simp;omega
theorem Dk(x:gv):∀(l a:List gv),ml a (l ++ [x])=if x∈ml a l then ml a l else ml a l ++ [x]
 | [],a=>rfl
 | y::l,a=>by rw[bU,ml,Dk x l,ml]
@[simp] theorem ayD(ρ:Nat->Option Nat)(H:U)(n:Nat):((λx:Value×D=>(x.1,gq ρ H n x.2)) ∘ λs:gv=>((.string (oW s):Value),D.b true))=λs:gv=>((.string (oW s):Value),D.b true):=by funext s;simp
@[simp] theorem azR(n:Nat)(f:List Nat->List Nat):(f ∘ (λx:Value×D=>jv n x.2) ∘ λs:gv=>((.string (oW s):Value),D.b true))=λ_:gv=>f []:=by funext s;rfl
@[simp] theorem atX(l:List gv):(l.map λ_=>([]:List Nat)).flatten = []:=by simp_all
theorem ZJ(g:gi)(x:fZ)(l:List gv)(s:gv):oY g x (l ++ [s])=ml (oY g x l) (jd g s x):=by simp[oY]
def sU(g:gi):List fZ->List gv->List gv
 | [],now=>now
 | x::r,now=>sU g r (oY g x now)
def um(g:gi)(p:Pos)(c n:Int):List gQ:=(sU g (gt (gt g.kinds (gJ (gt p.cs c))).jt n) [lD p c]).filterMap (oD p.side)
theorem f121(g:gi)(hg:gV g)(p:Pos)(z:iw g p)(c n:Int)(F:0<=c/\c<p.cs.length)(hs:jY (gt p.cs c)=p.side)(W:0<=n/\n<(gt g.kinds (gJ (gt p.cs c))).jt.length) :
  Wf T 259 [dG g,dP p,.i c,.i n,.fn (.func 260) [] [.ptr 1 0 0,.ptr 2 0 0]] [.row 43 0 g.cells,.row 46 0 p.cells,.row 256 0 [.gg]] (λd H'=>d = .i 0/\H'=if um g p c n = []then [.row 43 0 g.cells,.row 46 0 p.cells,.row 256 0 [.gg]]else [.row 43 0 g.cells,.row 46 0 p.cells,.row 256 0 [.fY 3 ((um g p c n).length-1) 6 0 (um g p c n).length],.row 259 ((um g p c n).length-1) (cl gQ.cells (um g p c n))]):=by
 have hz:=z.size;have hb:=hg.jJ.size;have E:=hg.kinds;have js:=z.side;have jk:=z.cs _ (gy F.1 F.2)
 have U:0<=gJ (gt p.cs c):=by
  unfold jY at hs;unfold gJ;split at hs<;>rename_i h5
  .grind
  .omega
 have X:gJ (gt p.cs c)<g.kinds.length:=yG jk.2 E.1;refine Yz Fk (iZ 127 [1017] (iZ 79 [9] (iZ 77 [5,6,7] Fk.body))) ?_;simp[Fk,iZ,kD,np,nz,nP,ma];refine Yc (f97 g hg p z) ?_;simp;(with_reducible repeat' first|refine Xk ?_<;>try simp|refine Xs ?_ ?_<;>intro h<;>(try intro h')<;>(try simp[h])<;>try omega|refine Xg ?_|omega);refine Yc (f84 (gt p.cs c)) ?_;simp;simp[hs];(with_reducible repeat' first|refine Xk ?_<;>try simp|refine Xs ?_ ?_<;>intro h<;>(try intro h')<;>(try simp[h])<;>try omega|refine Xg ?_|omega);have kq:=z.small hg;have l0:=z.h0.len;have l1:=z.h1.len;have q0:=iP (l:=p.cs) (n:=c) (v:=0) F.1 F.2;refine Yn (f91 { p:=p,kind:=gJ (gt p.cs c),cur:=c,jN:=false } kq (by dsimp only;omega)) ?_;simp;refine jP q0 ?_;have V:xM g (gt (gt g.kinds (gJ (gt p.cs c))).jt n):=(hg.jt _ (gy U X)).2 _ (gy W.1 W.2);have gw:kn g (lD p c):=⟨z.CG F.1 (by omega) (by omega),⟨U,X⟩,⟨F.1,by show c<g.size;omega⟩⟩;have O:um g p c n=(sU g (gt (gt g.kinds (gJ (gt p.cs c))).jt n) [lD p c]).filterMap (oD p.side):=rfl;generalize um g p c n=OO at *;generalize gt (gt g.kinds (gJ (gt p.cs c))).jt n=prog at *;have iF:=V.len;have hq:dN 8 gv.cells [lD p c]=kF [⟨⟨pt p.cs c 0,p.h0,p.h1,p.gL,p.side⟩,gJ (gt p.cs c),c,false⟩]:=rfl;refine gj.s (by simp[q0];rfl) ?_;refine gj.k ((0,[lD p c]):Int×List gv) (λy=>[(4,.fn (.func 260) [] [.ptr 1 0 0,.ptr 2 0 0]),(5,.ptr 3 0 0),(14,pe y.2),(87,gY prog),(88,.i prog.length),(89,.i y.1)]) (λy=>[.row 43 0 g.cells,.row 46 0 p.cells,.row 256 0 [.gg],.row 43 0 g.cells,.row 46 0 p.cells,.dead,.dead,.dead,.row 330 0 (lD p c).cells,.dead]) (λy=>0<=y.1/\y.1<=prog.length/\(∀s∈y.2,kn g s)/\y.2.length<=10 ^ y.1.toNat/\sU g prog [lD p c]=sU g (prog.drop y.1.toNat) y.2) (λy=>(prog.length-y.1).toNat) ?_ (by simp[hq]) (by simp[q0,lD]) rfl rfl rfl ?_
 .grind
 rintro⟨k,now⟩ ⟨k0,k1,k2,k3,k4⟩;dsimp only at k0 k1 k2 k3 k4 ⊢;have a5:(10:Nat) ^ k.toNat<=10 ^ 8:=cN (by decide) (by omega)
 by_cases E:k<prog.length
 .have C:=V.steps _ (gy k0 E);simp[E];refine gd ?_;refine gj.e ((0,[]):Int×List gv) (λy=>[(4,.fn (.func 260) [] [.ptr 1 0 0,.ptr 2 0 0]),(5,.ptr 3 0 0),(16,.ptr 10 0 0),(17,if y.2 = []then .gg else .fY 12 (y.2.length-1) 8 0 y.2.length),(18,.gD 11),(87,gY prog),(88,.i prog.length),(89,.i k),(94,pe now),(95,.i now.length),(96,.i y.1)]) (λy=>[.row 43 0 g.cells,.row 46 0 p.cells,.row 256 0 [.gg],.row 43 0 g.cells,.row 46 0 p.cells,.dead,.dead,.dead,.row 330 0 (lD p c).cells,.dead,.row 173 0 [.i (gt prog k).1,.i (gt prog k).2],.map .str (y.2.map λs=>(.string (oW s),.b true))]++(if y.2 = []then []else [.row 330 (y.2.length-1) (cl gv.cells y.2)])) (λy=>0<=y.1/\y.1<=now.length/\y.2=oY g (gt prog k) (now.take y.1.toNat)) (λy=>(now.length-y.1).toNat) ?_ ?_
  .simp[oY]
  rintro⟨i,f⟩ ⟨i0,M,r⟩;dsimp only at i0 M r ⊢
  by_cases hi:i<now.length
  .have I:=k2 _ (gy i0 hi)
   by_cases w:f = []
   .rw[if_pos w,if_pos w];subst w;simp[hi];refine gd ?_;refine gx.inl sQ rfl rfl (by simp[sQ]) rfl ?_;simp[sQ];have L:(gt prog k).1≠0:=by have:=C.ok;omega
    simp[L];refine Yc (f164 g hg (gt now i) I (gt prog k) C) ?_;simp;refine gj.s (by simp;rfl) ?_;have J:∀t∈jd g (gt now i) (gt prog k),kn g t:=λt e=>CQ hg I C e;have Q:(jd g (gt now i) (gt prog k)).length<=10:=E4;generalize R:jd g (gt now i) (gt prog k)=ss at *;refine gj.e ((0,[]):Int×List gv) (λy=>[(4,.fn (.func 260) [] [.ptr 1 0 0,.ptr 2 0 0]),(5,.ptr 3 0 0),(16,.ptr 10 0 0),(17,if y.2 = []then .gg else .fY 13 (y.2.length-1) 8 0 y.2.length),(18,.gD 11),(87,gY prog),(88,.i prog.length),(89,.i k),(94,pe now),(95,.i now.length),(96,.i i),(107,dN 8 gv.cells ss),(108,.i ss.length),(109,.i y.1)]) (λy=>[.row 43 0 g.cells,.row 46 0 p.cells,.row 256 0 [.gg],.row 43 0 g.cells,.row 46 0 p.cells,.dead,.dead,.dead,.row 330 0 (lD p c).cells,.dead,.row 173 0 [.i (gt prog k).1,.i (gt prog k).2],.map .str (y.2.map λs=>(.string (oW s),.b true)),.row 330 0 (gt now i).cells]++(if y.2 = []then []else [.row 330 (y.2.length-1) (cl gv.cells y.2)])) (λy=>0<=y.1/\y.1<=ss.length/\y.2=ml [] (ss.take y.1.toNat)) (λy=>(ss.length-y.1).toNat) ?_ ?_
    .simp[ml]
    rintro⟨j,A⟩ ⟨j0,j1,j2⟩;dsimp only at j0 j1 j2 ⊢
    have G:∀t∈A,kn g t:=λt e=>J t (by
     rw[j2,FM]at e
     exact aW (e.resolve_left (by simp)))
    by_cases u:j<ss.length
    .have e:=J _ (gy j0 u);have mN:=Sp hg e.p
     by_cases m:A = []
     .rw[if_pos m,if_pos m];subst m;simp[u];refine gd ?_;refine Yc (f165 (gt ss j) (by have:=e.kind;omega) (by have:=e.cur;omega) (by have:=e.p.size;omega) (EA hg e.p)) ?_;simp;refine gd ?_;refine LJ.i (j+1,[gt ss j]) (by first|rfl|simp[iQ]) (by first|rfl|simp[iQ]) rfl rfl ?_;refine gO ?_;dsimp only;rw[jq j0 u,Dk,<-j2];simp
     .rw[if_neg m,if_neg m];simp[u];refine gd ?_;refine Yc (f165 (gt ss j) (by have:=e.kind;omega) (by have:=e.cur;omega) (by have:=e.p.size;omega) (EA hg e.p)) ?_;simp;simp[SK hg e G]
      by_cases gH:gt ss j∈A
      .simp[gH];refine gd ?_;refine LJ.i (j+1,A) (by first|rfl|simp[m]) (by first|rfl|simp[m]) rfl rfl ?_;refine gO ?_;dsimp only;rw[jq j0 u,Dk,<-j2,if_pos gH]
      .have a4:0<A.length:=ax.2 m
       have N:A.length<=ss.length:=by have h1:=FL (a:=[]) (b:=ss.take j.toNat);rw[<-j2,aK]at h1;simp at h1;omega
       simp[gH,SQ hg e G gH];refine gd ?_;refine LJ.i (j+1,A ++ [gt ss j]) (by first|rfl|simp[show A.length-1+1=A.length by omega]) (by first|rfl|simp[show A.length-1+1=A.length by omega]) rfl rfl ?_;refine gO ?_;dsimp only;rw[jq j0 u,Dk,<-j2,if_neg gH]
    .rw[ln (by omega)]at j2
     have H:oY g (gt prog k) (now.take (i+1).toNat)=A:=by rw[jq i0 hi,ZJ,<-r,R,j2]
     by_cases m:A = []
     .rw[if_pos m,if_pos m];simp[u,m];refine gd ?_;refine LJ.e (i+1,[]) ?_;exact gO (by rw[H,m])
     .rw[if_neg m,if_neg m];simp[u];refine gd ?_;refine LJ.i (i+1,A) (by first|rfl|simp[m]) (by first|rfl|simp[m]) rfl rfl ?_;exact gO H.symm
   .rw[if_neg w,if_neg w]
    have a9:∀t∈f,kn g t:=λt e=>by rw[r,Ov,bM]at e;obtain⟨s',h1,P⟩:=e;exact CQ hg (k2 _ (aW h1)) C P
    have Z:f.length<=10*now.length:=by rw[r];refine Nat.le_trans Il ?_;rw[aK];omega
    have ym:0<f.length:=ax.2 w;simp[hi];refine gd ?_;refine gx.inl sQ rfl rfl (by simp[sQ]) rfl ?_;simp[sQ];have L:(gt prog k).1≠0:=by have:=C.ok;omega
    simp[L];refine Yc (f164 g hg (gt now i) I (gt prog k) C) ?_;simp;refine gj.s (by simp;rfl) ?_;have J:∀t∈jd g (gt now i) (gt prog k),kn g t:=λt e=>CQ hg I C e;have Q:(jd g (gt now i) (gt prog k)).length<=10:=E4;generalize R:jd g (gt now i) (gt prog k)=ss at *;refine gj.e ((0,f):Int×List gv) (λy=>[(4,.fn (.func 260) [] [.ptr 1 0 0,.ptr 2 0 0]),(5,.ptr 3 0 0),(16,.ptr 10 0 0),(17,.fY 12 (y.2.length-1) 8 0 y.2.length),(18,.gD 11),(87,gY prog),(88,.i prog.length),(89,.i k),(94,pe now),(95,.i now.length),(96,.i i),(107,dN 8 gv.cells ss),(108,.i ss.length),(109,.i y.1)]) (λy=>[.row 43 0 g.cells,.row 46 0 p.cells,.row 256 0 [.gg],.row 43 0 g.cells,.row 46 0 p.cells,.dead,.dead,.dead,.row 330 0 (lD p c).cells,.dead,.row 173 0 [.i (gt prog k).1,.i (gt prog k).2],.map .str (y.2.map λs=>(.string (oW s),.b true)),.row 330 (y.2.length-1) (cl gv.cells y.2),.row 330 0 (gt now i).cells]) (λy=>0<=y.1/\y.1<=ss.length/\y.2=ml f (ss.take y.1.toNat)/\0<y.2.length) (λy=>(ss.length-y.1).toNat) ?_ ?_
    .simp[ml];exact ym
    rintro⟨j,A⟩ ⟨j0,j1,j2,j3⟩;dsimp only at j0 j1 j2 j3 ⊢
    have G:∀t∈A,kn g t:=λt e=>by
     rw[j2,FM]at e;rcases e with e|e
     .grind
     .grind
    have N:A.length<=f.length+ss.length:=by have h1:=FL (a:=f) (b:=ss.take j.toNat);rw[<-j2,aK]at h1;omega
    by_cases u:j<ss.length
    .have e:=J _ (gy j0 u);simp[u];refine gd ?_;refine Yc (f165 (gt ss j) (by have:=e.kind;omega) (by have:=e.cur;omega) (by have:=e.p.size;omega) (EA hg e.p)) ?_;simp;simp[SK hg e G]
     by_cases gH:gt ss j∈A
     .simp[gH];refine gd ?_;refine LJ.e (j+1,A) ?_;refine gO ⟨?_,j3⟩;dsimp only;rw[jq j0 u,Dk,<-j2,if_pos gH]
     .simp[gH,SQ hg e G gH];refine gd ?_;refine LJ.i (j+1,A ++ [gt ss j]) (by first|rfl|simp[show A.length-1+1=A.length by omega]) (by first|rfl|simp[show A.length-1+1=A.length by omega]) rfl rfl ?_;refine gO ⟨?_,by simp⟩;dsimp only;rw[jq j0 u,Dk,<-j2,if_neg gH]
    .rw[ln (by omega)]at j2
     have H:oY g (gt prog k) (now.take (i+1).toNat)=A:=by rw[jq i0 hi,ZJ,<-r,R,j2]
     have m:A≠[]:=ax.1 j3;simp[u];refine gd ?_;refine LJ.i (i+1,A) (by first|rfl|simp[m]) (by first|rfl|simp[m]) rfl rfl ?_;exact gO H.symm
  .rw[ln (by omega)]at r
   have gf:∀t∈f,kn g t:=λt e=>by rw[r,Ov,bM]at e;obtain⟨s',h1,P⟩:=e;exact CQ hg (k2 _ h1) C P
   have Z:f.length<=10*now.length:=by rw[r];exact Il
   have S:f.length<=10 ^ (k+1).toNat:=by rw[show(k+1).toNat=k.toNat+1 by omega,eG];omega
   have K:sU g prog [lD p c]=sU g (prog.drop (k+1).toNat) f:=by rw[k4,oc k0 E,sU,<-r,show(k+1).toNat=k.toNat+1 by omega]
   by_cases w:f = []
   .rw[if_pos w,if_pos w];simp[hi,w];refine gd ?_;refine LJ.i (k+1,[]) (by first|rfl|simp[dN]) (by first|rfl|simp[dN]) rfl rfl ?_;rw[w]at gf S K;exact gO ⟨gf,S,K⟩
   .rw[if_neg w,if_neg w];have Y:kF f=dN 8 gv.cells f:=P6 w;simp[hi];refine gd ?_;refine LJ.i (k+1,f) (by first|rfl|simp[Y]) (by first|rfl|simp[Y]) rfl rfl ?_;exact gO ⟨gf,S,K⟩
 .rw[bB (by omega)]at k4;rw[k4,sU]at O;have h8:now.length<=10 ^ 8:=by omega
  simp[E];refine gd ?_;refine gj.e ((0,[]):Int×List gQ) (λy=>[(4,.fn (.func 260) [] [.ptr 1 0 0,.ptr 2 0 0]),(129,pe now),(130,.i now.length),(131,.i y.1)]) (λy=>yi g p (lD p c) (if y.2 = []then .gg else .fY 10 (y.2.length-1) 6 0 y.2.length)++(if y.2 = []then []else [.row 259 (y.2.length-1) (cl gQ.cells y.2)])) (λy=>0<=y.1/\y.1<=now.length/\y.2=(now.take y.1.toNat).filterMap (oD p.side)) (λy=>(now.length-y.1).toNat) ?_ ?_
  .simp
  rintro⟨i,outs⟩ ⟨i0,M,r⟩;dsimp only at i0 M r ⊢
  by_cases hi:i<now.length
  .have e:=k2 _ (gy i0 hi);have mF:outs.length<=now.length:=by grind
   have B:(now.take (i+1).toNat).filterMap (oD p.side)=outs++(oD p.side (gt now i)).toList:=by rw[jq i0 hi,List.filterMap_append,<-r];cases D:oD p.side (gt now i)<;>simp[D]
   by_cases q:outs = []
   .rw[if_pos q,if_pos q];subst q;simp[hi];refine gd ?_;refine gx.kH rfl rfl (aey g hg p z (lD p c) (gt now i) e) ?_;rintro d H' x
    cases D:oD p.side (gt now i)with
    | none=>
     rw[D]at x B;dsimp only at x;subst x;simp;refine gd ?_;refine LJ.e (i+1,[]) ?_;exact gO (by rw[B];rfl)
    | some o=>
     rw[D]at x B;dsimp only at x;subst x;simp;refine gd ?_;refine LJ.e (i+1,[o]) ?_;exact gO (by rw[B];rfl)
   .rw[if_neg q,if_neg q];simp[hi];refine gd ?_;refine gx.kH rfl rfl (aez g hg p z (lD p c) (gt now i) e outs (by omega) (ax.2 q)) ?_;rintro d H' x
    cases D:oD p.side (gt now i)with
    | none=>
     rw[D]at x B;dsimp only at x;subst x;simp;refine gd ?_;refine LJ.i (i+1,outs) (by first|rfl|simp[q]) (by first|rfl|simp[q]) rfl rfl ?_;exact gO (by rw[B];simp)
    | some o=>
     rw[D]at x B;dsimp only at x;subst x;simp;refine gd ?_;refine LJ.e (i+1,outs ++ [o]) ?_;exact gO (by rw[B];rfl)
  .rw[ln (by omega)]at r;rw[<-r]at O;subst O
   by_cases q:OO = []
   .rw[if_pos q,if_pos q];simp[hi,q]
   .rw[if_neg q,if_neg q];simp[hi,q]
