/- Part 24 of DisputeTruth. -/
import Derived.Test.YtmehofoficaelaaGreatDoorV22
import Derived.Test.YtmehofoficaelaaGreatDoorV23
set_option linter.all false
namespace Go.Proofs.YtmehofoficaelaaGreatDoor
open Go Go.AL Classical
set_option maxRecDepth 10000
set_option maxHeartbeats 8000000
@[irreducible] def fN(x:List Int):List D:=[dN 1 f1 x]
theorem xF(x:List Int):fN x = [dN 1 f1 x]:=by unfold fN;rfl
instance:Fl fN 1:=⟨λx=>by rw[xF];rfl,λx=>by simp[xF,gw]⟩
theorem ab9(a b:List (List Int))(x:List Int)(h:x≠[]):cl fN a++dI x::cl fN b=cl fN (a++x::b):=by
 rw[<-AA,mO,xF]
 cases x with
 | nil=>exact absurd rfl h
 | cons y r=>rfl
theorem UX(a b:List (List Int)):cl fN a++D.fX::cl fN b=cl fN (a ++ []::b):=by rw[<-AA,mO,xF];rfl
theorem amA(n:Nat):List.replicate n D.fX=cl fN (List.replicate n []):=by rw[<-H6,xF];simp[dN]
def uZ(l:List Pos)(n:Nat):List (Value×D):=(upto n).map λj=>(.string (oh (gt l j)),.i j)
@[simp] theorem ay3(q:Nat->Bool)(n m:Nat)(l:List Pos):(List.map ((List.filter q) ∘ λx:Value×D=>ji n x.2) (uZ l m)).flatten = []:=
 flatten_nil λa b=>by obtain⟨j,_,rfl⟩:=ao.1 b;rfl
@[simp] theorem axQ(ρ:Nat->Option Nat)(H:U)(m:Nat)(l:List Pos):(uZ l m).map (λx=>(x.1,gd ρ H 40 x.2))=uZ l m:=by rw[uZ,bY];exact au λj _=>by simp
theorem Y9{α:Type}{f:α->ByteArray}{v:α->D}{k:ByteArray}{d:D}:∀ {l:List α},(∀x∈l,k≠f x)->mg (l.map λx=>((.string (f x):Value),v x)) (.string k) d=(l.map λx=>((.string (f x):Value),v x)) ++ [(.string k,d)]
 | [],_=>by simp[mg]
 | a::l,h=>by rw[List.map_cons,mg,NB,Y9 λx b=>h x (by simp[b])];simp[h a (by simp)]
theorem Y6{α:Type}{f:α->ByteArray}{v:α->D}{x:α}:∀ {l:List α},x∈l->(∀y∈l,f x=f y->y=x)->qm (l.map λx=>((.string (f x):Value),v x)) (.string (f x))=some (v x)
 | a::l,hx,h=>by
  rw[List.map_cons,qm,NB]
  by_cases e:f x=f a
  .have:=h a (by simp) e;subst this;simp
  .have b:x∈l:=(aw.1 hx).resolve_left λd=>e (by rw[d]);rw[Y6 b λy c=>h y (by simp[c])];simp[e]
section
variable{g:fY}(hg:gN g){l:List Pos}(hl:∀p∈l,ij g p)(hs:kL l)
include hg hl hs
theorem Yw{i j:Int}(i0:0<=i)(a:i<l.length)(j0:0<=j)(j1:j<l.length)(h:oh (gt l i)=oh (gt l j)):i=j:=
 hs.inj i0 a j0 j1 (Yx hg (hl _ (gq i0 a)) (hl _ (gq j0 j1)) h)
theorem ag3{i:Int}(i0:0<=i)(b:i<l.length):mg (uZ l i.toNat) (.string (oh (gt l i))) (.i i)=uZ l (i+1).toNat:=by
 unfold uZ;rw[Y9 (f:=λj=>oh (gt l j)) (λj a e=>?_),xa i0,List.map_append]
 .rfl
 .rw[iS]at a;have:=Yw hg hl hs i0 b a.1 (by omega) e;omega
theorem Y5{q:Pos}(b:q∈l):qm (uZ l l.length) (.string (oh q))=some (.i (pk l q)):=by
 obtain⟨h0,h1,c⟩:=F1 b
 have:=Y6 (f:=λj=>oh (gt l j)) (v:=λj=>D.i j) (x:=pk l q) (l:=upto l.length) (iS.2 ⟨h0,h1⟩) (λy a e=>by
  rw[iS]at a
  exact(Yw hg hl hs h0 h1 a.1 a.2 e).symm)
 rw[c]at this;exact this
end
attribute [local simp] amA
theorem f52(g:fY)(hg:gN g)(l:List Pos)(B:oP g l)(h0:0<l.length):Wf T 56 [dG g,gQ l] [] (Is (.tup [.sl 1 ((gu g l).map fN),.i 0])):=by
 have hl:=B.ok;have hs:=B.Ai;have h9:=B.len;have hb:=hg.jB.size;refine Yz E0 (iO 87 [3] E0.body) ?_;simp[E0,iO,kh,mN,mQ,nf,lK];refine Yc (f98 g hg) ?_;simp;(with_reducible repeat' first|refine Xk ?_<;>try simp|refine Xs ?_ ?_<;>intro h<;>(try intro E)<;>(try simp[h])<;>try omega|refine Xg ?_|omega);refine Yr (f99 g hg l hl (by omega)) ?_;simp;refine fQ ?_;refine Yc (f100 l (by omega) (λp u=>(hl p u).small hg) hs) ?_;simp;refine fQ ?_;refine fZ.e (0:Int) (λy=>[(1,gQ l),(2,.ptr 0 0 0),(7,.gx 1),(37,gQ l),(38,.i l.length),(39,.i y)]) (λy=>[.row 43 0 g.cells,.map .str (uZ l y.toNat)]) (λy=>0<=y/\y<=l.length) (λy=>(l.length-y).toNat) ?_ ?_
 .simp
 rintro i ⟨i0,P⟩
 by_cases hi:i<l.length
 .have u:=hl _ (gq i0 hi);have Ng:=u.size;simp[hi];refine fQ ?_;refine Yc (f101 (gt l i) (by omega) (D4 hg u)) ?_;simp;simp[ag3 hg hl hs i0 hi];refine fQ ?_;refine LJ.e (i+1) ?_;exact l4
 .have e:i=l.length:=by omega
  subst e;have Y:(gu g l).length=l.length:=by simp[gu]
  simp;refine fQ ?_;refine fZ.e (0:Int) (λy=>[(2,.ptr 0 0 0),(7,.gx 1),(10,.fM 2 0 1 0 l.length),(52,gQ l),(53,.i l.length),(54,.i y)]) (λy=>[.row 43 0 g.cells,.map .str (uZ l l.length),.row 37 0 (cl fN ((gu g l).take y.toNat++List.replicate (l.length-y.toNat) []))]) (λy=>0<=y/\y<=l.length) (λy=>(l.length-y).toNat) ?_ ?_
  .simp
  rintro i ⟨i0,P⟩
  by_cases hi:i<l.length
  .have u:=hl _ (gq i0 hi);obtain⟨n1,n2⟩:=qn B i0 hi;have O:∀q∈iJ g (gt l i),q∈l:=λq z=>B.cl _ (gq i0 hi) q (BP.1 z);have Xz:=zU hg u;simp[hi];refine fQ ?_;refine Yc (f26 g hg (gt l i) u) ?_;simp
   have gP:cl fN ((gu g l).take i.toNat++List.replicate (l.length-i.toNat) [])=cl fN ((gu g l).take i.toNat) ++ .fX::cl fN (List.replicate (l.length-(i+1).toNat) []):=by
    have S:List.replicate (l.length-i.toNat) ([]:List Int) = []::List.replicate (l.length-(i+1).toNat) []:=by rw[<-bn];congr 1;omega
    rw[S,UX]
   have N:(gu g l).take (i+1).toNat=(gu g l).take i.toNat ++ [gt (gu g l) i]:=jd i0 (by omega)
   have I:gt (gu g l) i = []->cl fN ((gu g l).take i.toNat) ++ .fX::cl fN (List.replicate (l.length-(i+1).toNat) [])=cl fN ((gu g l).take (i+1).toNat++List.replicate (l.length-(i+1).toNat) []):=λe=>by rw[UX,N,e];simp
   have Z:gt (gu g l) i≠[]->cl fN ((gu g l).take i.toNat)++dI (gt (gu g l) i)::cl fN (List.replicate (l.length-(i+1).toNat) [])=cl fN ((gu g l).take (i+1).toNat++List.replicate (l.length-(i+1).toNat) []):=λe=>by rw[ab9 _ _ _ e,N];simp
   have s:(cl fN ((gu g l).take i.toNat)).length=i.toNat:=by rw[rh,aK];omega
   have o:∀(ρ:Nat->Option Nat) (H:U) (k:Nat),(cl fN ((gu g l).take i.toNat)).map (gd ρ H k)=cl fN ((gu g l).take i.toNat):=λρ H k=>BL (ue _);have b:∀(ρ:Nat->Option Nat) (H:U) (k:Nat),(cl fN (List.replicate (l.length-(i+1).toNat) [])).map (gd ρ H k)=cl fN (List.replicate (l.length-(i+1).toNat) []):=λρ H k=>BL (ue _)
   have f:∀(q:Nat->Bool) (n:Nat),(List.map ((List.filter q) ∘ ji n) (cl fN ((gu g l).take i.toNat))).flatten = []:=λq n=>flatten_nil λa G=>by show List.filter q (ji n a) = [];rw[OJ n (lH (ue _) a G)];rfl
   have c:∀(q:Nat->Bool) (n:Nat),(List.map ((List.filter q) ∘ ji n) (cl fN (List.replicate (l.length-(i+1).toNat) []))).flatten = []:=λq n=>flatten_nil λa G=>by show List.filter q (ji n a) = [];rw[OJ n (lH (ue _) a G)];rfl
   have m:(gt (gu g l) i).length=(iJ g (gt l i)).length:=by rw[n1,List.length_map]
   have M:∀j:Int,0<=j->j<(iJ g (gt l i)).length->gt (gt (gu g l) i) j=pk l (gt (iJ g (gt l i)) j):=λj j0 j1=>by rw[n1,jb j0 (by rw[List.length_map];exact j1),jb j0 j1,List.getElem_map]
   generalize cl fN ((gu g l).take i.toNat)=A at *;generalize Q:cl fN (List.replicate (l.length-(i+1).toNat) [])=R at *;have w:∀(d:D) (r:List D),(A++d::r)[i.toNat]? = some d:=λd r=>by rw[ai (by omega),s];simp
   have v:∀(d:D) (r:List D),(A++d::r).take i.toNat=A:=λd r=>by rw[aU (by omega),af (by omega)]
   have x:∀(d:D) (r:List D),(A++d::r).drop (i.toNat+1)=r:=λd r=>by rw[ff,bw (by omega),s];simp
   have V:∀(d:D),i.toNat<(A++d::R).length:=λd=>by simp;omega
   refine fZ.e (0:Int) (λy=>[(2,.ptr 0 0 0),(7,.gx 1),(10,.fM 2 0 1 0 l.length),(11,.i i),(52,gQ l),(53,.i l.length),(54,.i i),(61,dN 5 Pos.cells (iJ g (gt l i))),(62,.i (iJ g (gt l i)).length),(63,.i y)]) (λy=>[.row 43 0 g.cells,.map .str (uZ l l.length),.row 37 0 (A++(if y=0 then .fX else .fM 4 (y.toNat-1) 1 0 y.toNat)::R),.row 46 0 (gt l i).cells]++(if y=0 then []else [.row 3 (y.toNat-1) (cl f1 ((gt (gu g l) i).take y.toNat))])) (λy=>0<=y/\y<=(iJ g (gt l i)).length) (λy=>((iJ g (gt l i)).length-y).toNat) ?_ ?_
   .simp
   rintro k ⟨k0,k1⟩
   by_cases C:k<(iJ g (gt l i)).length
   .have z:=O _ (gq k0 C);have K:=hl _ z;have Ni:=K.size
    by_cases t:k=0
    .subst t;rw[if_pos rfl,if_pos rfl];simp[C];(with_reducible repeat' first|refine Xk ?_<;>try simp|refine Xs ?_ ?_<;>intro h<;>(try intro E)<;>(try simp[h])<;>try omega|refine Xg ?_|omega);refine Yc (f101 (gt (iJ g (gt l i)) 0) (by omega) (D4 hg K)) ?_;simp;simp[Y5 hg hl hs z];refine fQ ?_;simp[w,v,x,s,o,b,f,c,m];(with_reducible repeat' first|refine Xk ?_<;>try simp[w,v,x,s,o,b,f,c,m]|refine Xs ?_ ?_<;>intro h<;>(try intro E)<;>(try simp[h,w,v,x,s,o,b,f,c,m])<;>try omega|refine Xg ?_|omega)
     have t1:(gt (gu g l) i).take 1 = [pk l (gt (iJ g (gt l i)) 0)]:=by have:=jd (l:=gt (gu g l) i) (n:=0) (by omega) (by omega);rw[M 0 (by omega) (by omega)]at this;exact this
     refine LJ.i (1:Int) (by first|rfl|simp[t1,iI]) (by first|rfl|simp[t1,iI]) rfl rfl ?_;exact l4
    .rw[if_neg t,if_neg t];simp[C];refine fQ ?_;refine Yc (f101 (gt (iJ g (gt l i)) k) (by omega) (D4 hg K)) ?_;simp;simp[Y5 hg hl hs z];refine fQ ?_;simp[w,v,x,s,o,b,f,c,m];(with_reducible repeat' first|refine Xk ?_<;>try simp[w,v,x,s,o,b,f,c,m]|refine Xs ?_ ?_<;>intro h<;>(try intro E)<;>(try simp[h,w,v,x,s,o,b,f,c,m])<;>try omega|refine Xg ?_|omega)
     have t2:(gt (gu g l) i).take (k.toNat+1)=(gt (gu g l) i).take k.toNat ++ [pk l (gt (iJ g (gt l i)) k)]:=by have:=jd (l:=gt (gu g l) i) (n:=k) (by omega) (by omega);rw[M k (by omega) (by omega),show(k+1).toNat=k.toNat+1 by omega]at this;exact this
     refine LJ.i (k+1) (by first|rfl|simp[show¬(k+1=0)by omega,show(k+1).toNat=k.toNat+1 by omega,show k.toNat-1+1=k.toNat by omega,t2,dR]) (by first|rfl|simp[show¬(k+1=0)by omega,show(k+1).toNat=k.toNat+1 by omega,show k.toNat-1+1=k.toNat by omega,t2,dR]) rfl rfl ?_;exact l4
   .by_cases t:k=0
    .have J:gt (gu g l) i = []:=ay.1 (by omega);have X:=I J;subst t;rw[if_pos rfl,if_pos rfl];simp[show¬ 0<(iJ g (gt l i)).length by omega,o,b,f,c];refine CN o b f c ?_;exact LJ.i (i+1) rfl (by rw[<-X]) rfl rfl l4
    .have J:gt (gu g l) i≠[]:=λe=>by rw[e]at m;simp at m;omega
     have W:=Z J;have F:(gt (gu g l) i).take k.toNat=gt (gu g l) i:=af (by omega);rw[if_neg t,if_neg t];have L:k.toNat=(iJ g (gt l i)).length:=by omega
     simp[C,o,b,f,c,m,F,L];(with_reducible repeat' first|refine Xk ?_<;>try simp[o,b,f,c,m,F,L]|refine Xs ?_ ?_<;>intro h<;>(try intro E)<;>(try simp[h,o,b,f,c,m,F,L])<;>try omega|refine Xg ?_|omega);exact LJ.i (i+1) rfl (by rw[<-W]) rfl rfl l4
  .have e:i=l.length:=by omega
   subst e;simp;rw[af (by omega),u6 Y.symm]
