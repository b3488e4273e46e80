/- Part 24 of DisputeReferee. -/
import Derived.Test.YtmehofoficaelaaGreatDoorR22
import Derived.Test.YtmehofoficaelaaGreatDoorR23
set_option linter.all false
namespace Go.Proofs.YtmehofoficaelaaGreatDoor
open Go Go.AL Classical
set_option maxRecDepth 10000
set_option maxHeartbeats 8000000
@[irreducible] def fN(x:List Int):List D:=[dN 1 f1 x]
theorem yp(x:List Int):fN x = [dN 1 f1 x]:=by unfold fN;rfl
instance:Fl fN 1:=⟨λx=>by rw[yp];rfl,λx=>by simp[yp,gh]⟩
theorem Z8(a b:List (List Int))(x:List Int)(h:x≠[]):cl fN a++dI x::cl fN b=cl fN (a++x::b):=by
 rw[<-yg,mi,yp]
 cases x with
 | nil=>exact absurd rfl h
 | cons y r=>rfl
theorem S8(a b:List (List Int)):cl fN a++D.fJ::cl fN b=cl fN (a ++ []::b):=by rw[<-yg,mi,yp];rfl
theorem aki(n:Nat):List.replicate n D.fJ=cl fN (List.replicate n []):=by rw[<-Gx,yp];simp[dN]
def um(l:List Pos)(n:Nat):List (Value×D):=(upto n).map λj=>(.string (nI (gt l j)),.i j)
@[simp] theorem awF(q:Nat->Bool)(n m:Nat)(l:List Pos):(List.map ((List.filter q) ∘ λx:Value×D=>iT n x.2) (um l m)).flatten = []:=
 flatten_nil λa b=>by obtain⟨j,_,rfl⟩:=aq.1 b;rfl
@[simp] theorem avr(ρ:Nat->Option Nat)(H:U)(m:Nat)(l:List Pos):(um l m).map (λx=>(x.1,fL ρ H 40 x.2))=um l m:=by rw[um,List.map_map];exact ak λj _=>by simp
theorem WQ{α:Type}{f:α->ByteArray}{v:α->D}{k:ByteArray}{d:D}:∀ {l:List α},(∀x∈l,k≠f x)->lZ (l.map λx=>((.string (f x):Value),v x)) (.string k) d=(l.map λx=>((.string (f x):Value),v x)) ++ [(.string k,d)]
 | [],_=>by simp[lZ]
 | a::l,h=>by rw[List.map_cons,lZ,L4,WQ λx b=>h x (by simp[b])];simp[h a (by simp)]
theorem WM{α:Type}{f:α->ByteArray}{v:α->D}{x:α}:∀ {l:List α},x∈l->(∀y∈l,f x=f y->y=x)->pY (l.map λx=>((.string (f x):Value),v x)) (.string (f x))=some (v x)
 | a::l,hx,h=>by
  rw[List.map_cons,pY,L4]
  by_cases e:f x=f a
  .have:=h a (by simp) e;subst this;simp
  .have b:x∈l:=(aw.1 hx).resolve_left λd=>e (by rw[d]);rw[WM b λy c=>h y (by simp[c])];simp[e]
section
variable{g:fH}(hg:gF g){l:List Pos}(hl:∀p∈l,gT g p)(hs:kr l)
include hg hl hs
theorem Wg{i j:Int}(i0:0<=i)(a:i<l.length)(j0:0<=j)(j1:j<l.length)(h:nI (gt l i)=nI (gt l j)):i=j:=
 hs.inj i0 a j0 j1 (Wh hg (hl _ (fZ i0 a)) (hl _ (fZ j0 j1)) h)
theorem aeZ{i:Int}(i0:0<=i)(b:i<l.length):lZ (um l i.toNat) (.string (nI (gt l i))) (.i i)=um l (i+1).toNat:=by
 unfold um;rw[WQ (f:=λj=>nI (gt l j)) (λj a e=>?_),wi i0,List.map_append]
 .rfl
 .rw[jj]at a;have:=Wg hg hl hs i0 b a.1 (by omega) e;omega
theorem WL{q:Pos}(b:q∈l):pY (um l l.length) (.string (nI q))=some (.i (oW l q)):=by
 obtain⟨h0,h1,c⟩:=EM b
 have:=WM (f:=λj=>nI (gt l j)) (v:=λj=>D.i j) (x:=oW l q) (l:=upto l.length) (jj.2 ⟨h0,h1⟩) (λy a e=>by
  rw[jj]at a
  exact(Wg hg hl hs h0 h1 a.1 a.2 e).symm)
 rw[c]at this;exact this
end
attribute [local simp] aki
theorem f52(g:fH)(hg:gF g)(l:List Pos)(B:oR g l)(h0:0<l.length):Wf T 56 [dG g,gJ l] [] (Is (.tup [.sl 1 ((gd g l).map fN),.i 0])):=by
 have hl:=B.ok;have hs:=B.zm;have h9:=B.len;have hb:=hg.jm.size;refine Yz DU (iB 87 [3] DU.body) ?_;simp[DU,iB,jN,mw,mz,mH,lq];refine Yc (f98 g hg) ?_;simp;(with_reducible repeat' first|refine Xk ?_<;>try simp|refine Xs ?_ ?_<;>intro h<;>(try intro E)<;>(try simp[h])<;>try omega|refine Xg ?_|omega);refine Yr (f99 g hg l hl (by omega)) ?_;simp;refine fD ?_;refine Yc (f100 l (by omega) (λp u=>(hl p u).small hg) hs) ?_;simp;refine fD ?_;refine fO.e (0:Int) (λy=>[(1,gJ l),(2,.ptr 0 0 0),(7,.gg 1),(37,gJ l),(38,.i l.length),(39,.i y)]) (λy=>[.row 43 0 g.cells,.map .str (um l y.toNat)]) (λy=>0<=y/\y<=l.length) (λy=>(l.length-y).toNat) ?_ ?_
 .simp
 rintro i ⟨i0,P⟩
 by_cases hi:i<l.length
 .have u:=hl _ (fZ i0 hi);have LI:=u.size;simp[hi];refine fD ?_;refine Yc (f101 (gt l i) (by omega) (C1 hg u)) ?_;simp;simp[aeZ hg hl hs i0 hi];refine fD ?_;refine LJ.e (i+1) ?_;exact mr
 .have e:i=l.length:=by omega
  subst e;have Y:(gd g l).length=l.length:=by simp[gd]
  simp;refine fD ?_;refine fO.e (0:Int) (λy=>[(2,.ptr 0 0 0),(7,.gg 1),(10,.fy 2 0 1 0 l.length),(52,gJ l),(53,.i l.length),(54,.i y)]) (λy=>[.row 43 0 g.cells,.map .str (um l l.length),.row 37 0 (cl fN ((gd g l).take y.toNat++List.replicate (l.length-y.toNat) []))]) (λy=>0<=y/\y<=l.length) (λy=>(l.length-y).toNat) ?_ ?_
  .simp
  rintro i ⟨i0,P⟩
  by_cases hi:i<l.length
  .have u:=hl _ (fZ i0 hi);obtain⟨n1,n2⟩:=qw B i0 hi;have O:∀q∈iz g (gt l i),q∈l:=λq z=>B.cl _ (fZ i0 hi) q (A3.1 z);have Vt:=y8 hg u;simp[hi];refine fD ?_;refine Yc (f26 g hg (gt l i) u) ?_;simp
   have gw:cl fN ((gd g l).take i.toNat++List.replicate (l.length-i.toNat) [])=cl fN ((gd g l).take i.toNat) ++ .fJ::cl fN (List.replicate (l.length-(i+1).toNat) []):=by
    have S:List.replicate (l.length-i.toNat) ([]:List Int) = []::List.replicate (l.length-(i+1).toNat) []:=by rw[<-bt];congr 1;omega
    rw[S,S8]
   have N:(gd g l).take (i+1).toNat=(gd g l).take i.toNat ++ [gt (gd g l) i]:=iO i0 (by omega)
   have I:gt (gd g l) i = []->cl fN ((gd g l).take i.toNat) ++ .fJ::cl fN (List.replicate (l.length-(i+1).toNat) [])=cl fN ((gd g l).take (i+1).toNat++List.replicate (l.length-(i+1).toNat) []):=λe=>by rw[S8,N,e];simp
   have Z:gt (gd g l) i≠[]->cl fN ((gd g l).take i.toNat)++dI (gt (gd g l) i)::cl fN (List.replicate (l.length-(i+1).toNat) [])=cl fN ((gd g l).take (i+1).toNat++List.replicate (l.length-(i+1).toNat) []):=λe=>by rw[Z8 _ _ _ e,N];simp
   have s:(cl fN ((gd g l).take i.toNat)).length=i.toNat:=by rw[rO,aJ];omega
   have o:∀(ρ:Nat->Option Nat) (H:U) (k:Nat),(cl fN ((gd g l).take i.toNat)).map (fL ρ H k)=cl fN ((gd g l).take i.toNat):=λρ H k=>A1 (ue _);have c:∀(ρ:Nat->Option Nat) (H:U) (k:Nat),(cl fN (List.replicate (l.length-(i+1).toNat) [])).map (fL ρ H k)=cl fN (List.replicate (l.length-(i+1).toNat) []):=λρ H k=>A1 (ue _)
   have m:∀(q:Nat->Bool) (n:Nat),(List.map ((List.filter q) ∘ iT n) (cl fN ((gd g l).take i.toNat))).flatten = []:=λq n=>flatten_nil λa G=>by show List.filter q (iT n a) = [];rw[M7 n (lS (ue _) a G)];rfl
   have f:∀(q:Nat->Bool) (n:Nat),(List.map ((List.filter q) ∘ iT n) (cl fN (List.replicate (l.length-(i+1).toNat) []))).flatten = []:=λq n=>flatten_nil λa G=>by show List.filter q (iT n a) = [];rw[M7 n (lS (ue _) a G)];rfl
   have b:(gt (gd g l) i).length=(iz g (gt l i)).length:=by rw[n1,List.length_map]
   have M:∀j:Int,0<=j->j<(iz g (gt l i)).length->gt (gt (gd g l) i) j=oW l (gt (iz g (gt l i)) j):=λj j0 j1=>by rw[n1,jc j0 (by rw[List.length_map];exact j1),jc j0 j1,List.getElem_map]
   generalize cl fN ((gd g l).take i.toNat)=A at *;generalize Q:cl fN (List.replicate (l.length-(i+1).toNat) [])=R at *;have w:∀(d:D) (r:List D),(A++d::r)[i.toNat]? = some d:=λd r=>by rw[ai (by omega),s];simp
   have v:∀(d:D) (r:List D),(A++d::r).take i.toNat=A:=λd r=>by rw[aV (by omega),af (by omega)]
   have x:∀(d:D) (r:List D),(A++d::r).drop (i.toNat+1)=r:=λd r=>by rw[cT,bp (by omega),s];simp
   have V:∀(d:D),i.toNat<(A++d::R).length:=λd=>by simp;omega
   refine fO.e (0:Int) (λy=>[(2,.ptr 0 0 0),(7,.gg 1),(10,.fy 2 0 1 0 l.length),(11,.i i),(52,gJ l),(53,.i l.length),(54,.i i),(61,dN 5 Pos.cells (iz g (gt l i))),(62,.i (iz g (gt l i)).length),(63,.i y)]) (λy=>[.row 43 0 g.cells,.map .str (um l l.length),.row 37 0 (A++(if y=0 then .fJ else .fy 4 (y.toNat-1) 1 0 y.toNat)::R),.row 46 0 (gt l i).cells]++(if y=0 then []else [.row 3 (y.toNat-1) (cl f1 ((gt (gd g l) i).take y.toNat))])) (λy=>0<=y/\y<=(iz g (gt l i)).length) (λy=>((iz g (gt l i)).length-y).toNat) ?_ ?_
   .simp
   rintro k ⟨k0,k1⟩
   by_cases C:k<(iz g (gt l i)).length
   .have z:=O _ (fZ k0 C);have K:=hl _ z;have LL:=K.size
    by_cases t:k=0
    .subst t;rw[if_pos rfl,if_pos rfl];simp[C];(with_reducible repeat' first|refine Xk ?_<;>try simp|refine Xs ?_ ?_<;>intro h<;>(try intro E)<;>(try simp[h])<;>try omega|refine Xg ?_|omega);refine Yc (f101 (gt (iz g (gt l i)) 0) (by omega) (C1 hg K)) ?_;simp;simp[WL hg hl hs z];refine fD ?_;simp[w,v,x,s,o,c,m,f,b];(with_reducible repeat' first|refine Xk ?_<;>try simp[w,v,x,s,o,c,m,f,b]|refine Xs ?_ ?_<;>intro h<;>(try intro E)<;>(try simp[h,w,v,x,s,o,c,m,f,b])<;>try omega|refine Xg ?_|omega)
     have t1:(gt (gd g l) i).take 1 = [oW l (gt (iz g (gt l i)) 0)]:=by have:=iO (l:=gt (gd g l) i) (n:=0) (by omega) (by omega);rw[M 0 (by omega) (by omega)]at this;exact this
     refine LJ.i (1:Int) (by first|rfl|simp[t1,iQ]) (by first|rfl|simp[t1,iQ]) rfl rfl ?_;exact mr
    .rw[if_neg t,if_neg t];simp[C];refine fD ?_;refine Yc (f101 (gt (iz g (gt l i)) k) (by omega) (C1 hg K)) ?_;simp;simp[WL hg hl hs z];refine fD ?_;simp[w,v,x,s,o,c,m,f,b];(with_reducible repeat' first|refine Xk ?_<;>try simp[w,v,x,s,o,c,m,f,b]|refine Xs ?_ ?_<;>intro h<;>(try intro E)<;>(try simp[h,w,v,x,s,o,c,m,f,b])<;>try omega|refine Xg ?_|omega)
     have t2:(gt (gd g l) i).take (k.toNat+1)=(gt (gd g l) i).take k.toNat ++ [oW l (gt (iz g (gt l i)) k)]:=by have:=iO (l:=gt (gd g l) i) (n:=k) (by omega) (by omega);rw[M k (by omega) (by omega),show(k+1).toNat=k.toNat+1 by omega]at this;exact this
     refine LJ.i (k+1) (by first|rfl|simp[show¬(k+1=0)by omega,show(k+1).toNat=k.toNat+1 by omega,show k.toNat-1+1=k.toNat by omega,t2,dD]) (by first|rfl|simp[show¬(k+1=0)by omega,show(k+1).toNat=k.toNat+1 by omega,show k.toNat-1+1=k.toNat by omega,t2,dD]) rfl rfl ?_;exact mr
   .by_cases t:k=0
    .have J:gt (gd g l) i = []:=az.1 (by omega);have X:=I J;subst t;rw[if_pos rfl,if_pos rfl];simp[show¬ 0<(iz g (gt l i)).length by omega,o,c,m,f];refine zC o c m f ?_;exact LJ.i (i+1) rfl (by rw[<-X]) rfl rfl mr
    .have J:gt (gd g l) i≠[]:=λe=>by rw[e]at b;simp at b;omega
     have W:=Z J;have F:(gt (gd g l) i).take k.toNat=gt (gd g l) i:=af (by omega);rw[if_neg t,if_neg t];have L:k.toNat=(iz g (gt l i)).length:=by omega
     simp[C,o,c,m,f,b,F,L];(with_reducible repeat' first|refine Xk ?_<;>try simp[o,c,m,f,b,F,L]|refine Xs ?_ ?_<;>intro h<;>(try intro E)<;>(try simp[h,o,c,m,f,b,F,L])<;>try omega|refine Xg ?_|omega);exact LJ.i (i+1) rfl (by rw[<-W]) rfl rfl mr
  .have e:i=l.length:=by omega
   subst e;simp;rw[af (by omega),uq Y.symm]
