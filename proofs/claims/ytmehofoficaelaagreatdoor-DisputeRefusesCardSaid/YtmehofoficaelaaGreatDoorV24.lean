/- 24 -/
import Derived.Test.YtmehofoficaelaaGreatDoorV22
import Derived.Test.YtmehofoficaelaaGreatDoorV23
set_option linter.all false
open List renaming replicate→aE,filter→bb,length_map→bs,map_cons→b4,length→List.l
open Int renaming toNat→Int.n
namespace Go.Proofs.YtmehofoficaelaaGreatDoor
open Go Go.AL Classical
set_option maxRecDepth 10000
set_option maxHeartbeats 8000000
@[irreducible] def fN(x:List Int):List D:=[dN 1 f1 x]
theorem x7(x:List Int):fN x = [dN 1 f1 x]:=by unfold fN;rfl
instance:Fl fN 1:=⟨λx=>by rw[x7];rfl,λx=>by simp[x7,gK]⟩
def acy(a b:List (List Int))(x:List Int)(h:x≠[]):cl fN a++dI x::cl fN b=cl fN (a++x::b):=by
 rw[<-Ba,nb,x7]
 cases x with
 | nil=>exact absurd rfl h
 | cons y r=>rfl
def Vc(a b:List (List Int)):cl fN a++D.gi::cl fN b=cl fN (a ++ []::b):=by rw[<-Ba,nb,x7];rfl
def am2(n:Nat):aE n D.gi=cl fN (aE n []):=by rw[<-IT,x7];simp[dN]
def vp(l:List Pos)(n:Nat):List (Value×D):=(upto n).map λj=>(.string (oO (gt l j)),.i j)
@[simp] theorem azC(q:Nat->Bool)(n m:Nat)(l:List Pos):(List.map ((bb q) ∘ λx:Value×D=>jB n x.2) (vp l m)).flatten = []:=
 flatten_nil λa b=>by obtain⟨j,_,rfl⟩:=az.1 b;rfl
@[simp] theorem ayp(ρ:Nat->Option Nat)(H:gd)(m:Nat)(l:List Pos):(vp l m).map (λx=>(x.1,gw ρ H 40 x.2))=vp l m:=by rw[vp,b7];exact au λj _=>fZ
theorem ZH{α:Type}{f:α->ByteArray}{v:α->D}{k:ByteArray}{d:D}:∀ {l:List α},(∀x∈l,k≠f x)->mE (l.map λx=>((.string (f x):Value),v x)) (.string k) d=(l.map λx=>((.string (f x):Value),v x)) ++ [(.string k,d)]
 | [],_=>by simp[mE]
 | a::l,h=>by rw[b4,mE,N',ZH λx b=>h x (by simp[b])];simp[h a fZ]
theorem ZE{α:Type}{f:α->ByteArray}{v:α->D}{x:α}:∀ {l:List α},x∈l->(∀y∈l,f x=f y->y=x)->rz (l.map λx=>((.string (f x):Value),v x)) (.string (f x))=some (v x)
 | a::l,hx,h=>by
  rw[b4,rz,N']
  by_cases e:f x=f a
  .have:=h a fZ e;subst this;simp
  .have b:x∈l:=(av.1 hx).resolve_left λd=>e (by rw[d]);rw[ZE b λy c=>h y (by simp[c])];simp[e]
section
variable{g:gq}(hg:gR g){l:List Pos}(hl:∀p∈l,iC g p)(hs:kT l)
include hg hl hs
theorem Y9{i j:Int}(i0:0<=i)(a:i<l.l)(j0:0<=j)(j1:j<l.l)(h:oO (gt l i)=oO (gt l j)):i=j:=
 hs.inj i0 a j0 j1 (Y' hg (hl _ (gF i0 a)) (hl _ (gF j0 j1)) h)
theorem ahD{i:Int}(i0:0<=i)(b:i<l.l):mE (vp l i.n) (.string (oO (gt l i))) (.i i)=vp l (i+1).n:=by
 unfold vp;rw[ZH (f:=λj=>oO (gt l j)) (λj a e=>?_),xE i0,List.map_append]
 .rfl
 .rw[jJ]at a;have:=Y9 hg hl hs i0 b a.1 U e;omega
theorem ZD{q:Pos}(b:q∈l):rz (vp l l.l) (.string (oO q))=some (.i (pO l q)):=by
 obtain⟨h0,h1,c⟩:=GK b
 have:=ZE (f:=λj=>oO (gt l j)) (v:=λj=>D.i j) (x:=pO l q) (l:=upto l.l) (jJ.2 ⟨h0,h1⟩) (λy a e=>by
  rw[jJ]at a
  exact(Y9 hg hl hs h0 h1 a.1 a.2 e).symm)
 rw[c]at this;exact this
end
attribute [local simp] am2
def f52(g:gq)(hg:gR g)(l:List Pos)(B:lZ g l)(h0:0<l.l):Wf T 56 [dG g,gP l] [] (Is (.tup [.sl 1 ((gE g l).map fN),.i 0])):=by
 have hl:=B.ok;have hs:=B.yZ;have h9:=B.len;have hb:=hg.jU.size;refine Yz AW (ji 87 [3] AW.body) ?_;simp[AW,ji,kK,nq,nA,nR,mm];refine Yc (f98 g hg) ?_;simp;(with_reducible repeat' first|refine Xk ?_<;>try simp|refine Xs ?_ ?_<;>intro h<;>(try intro E)<;>(try simp[h])<;>try omega|refine Xg ?_|omega);refine Yr (f99 g hg l hl U) ?_;simp;refine gh ?_;refine Yc (f100 l U (λp u=>(hl p u).small hg) hs) ?_;simp;refine gh ?_;refine gx.e (0:Int) (λy=>[(1,gP l),(2,.ptr 0 0 0),(7,.gH 1),(37,gP l),(38,.i l.l),(39,.i y)]) (λy=>[.row 43 0 g.cells,.map .str (vp l y.n)]) (λy=>0<=y/\y<=l.l) (λy=>(l.l-y).n) ?_ ?_
 .simp
 rintro i ⟨i0,O⟩
 by_cases hi:i<l.l
 .have u:=hl _ (gF i0 hi);have NP:=u.size;simp[hi];refine gh ?_;refine Yc (f101 (gt l i) U (EL hg u)) ?_;simp;simp[ahD hg hl hs i0 hi];refine gh ?_;refine LJ.e (i+1) ?_;exact mF
 .have e:i=l.l:=by omega
  subst e;have X:(gE g l).l=l.l:=by simp[gE]
  simp;refine gh ?_;refine gx.e (0:Int) (λy=>[(2,.ptr 0 0 0),(7,.gH 1),(10,.gf 2 0 1 0 l.l),(52,gP l),(53,.i l.l),(54,.i y)]) (λy=>[.row 43 0 g.cells,.map .str (vp l l.l),.row 37 0 (cl fN ((gE g l).take y.n++aE (l.l-y.n) []))]) (λy=>0<=y/\y<=l.l) (λy=>(l.l-y).n) ?_ ?_
  .simp
  rintro i ⟨i0,O⟩
  by_cases hi:i<l.l
  .have u:=hl _ (gF i0 hi);obtain⟨n1,n2⟩:=pZ B i0 hi;have Z:∀q∈iY g (gt l i),q∈l:=λq z=>B.cl _ (gF i0 hi) q (Ck.1 z);have Yb:=yN hg u;simp[hi];refine gh ?_;refine Yc (f26 g hg (gt l i) u) ?_;simp
   have ig:cl fN ((gE g l).take i.n++aE (l.l-i.n) [])=cl fN ((gE g l).take i.n) ++ .gi::cl fN (aE (l.l-(i+1).n) []):=by
    have Q:aE (l.l-i.n) ([]:List Int) = []::aE (l.l-(i+1).n) []:=by rw[<-br];congr 1;omega
    rw[Q,Vc]
   have N:(gE g l).take (i+1).n=(gE g l).take i.n ++ [gt (gE g l) i]:=jt i0 U
   have I:gt (gE g l) i = []->cl fN ((gE g l).take i.n) ++ .gi::cl fN (aE (l.l-(i+1).n) [])=cl fN ((gE g l).take (i+1).n++aE (l.l-(i+1).n) []):=λe=>by rw[Vc,N,e];simp
   have Y:gt (gE g l) i≠[]->cl fN ((gE g l).take i.n)++dI (gt (gE g l) i)::cl fN (aE (l.l-(i+1).n) [])=cl fN ((gE g l).take (i+1).n++aE (l.l-(i+1).n) []):=λe=>by rw[acy _ _ _ e,N];simp
   have s:(cl fN ((gE g l).take i.n)).l=i.n:=by rw[sZ,aJ];omega
   have o:∀(ρ:Nat->Option Nat) (H:gd) (k:Nat),(cl fN ((gE g l).take i.n)).map (gw ρ H k)=cl fN ((gE g l).take i.n):=λρ H k=>Ci (sw _);have b:∀(ρ:Nat->Option Nat) (H:gd) (k:Nat),(cl fN (aE (l.l-(i+1).n) [])).map (gw ρ H k)=cl fN (aE (l.l-(i+1).n) []):=λρ H k=>Ci (sw _)
   have f:∀(q:Nat->Bool) (n:Nat),(List.map ((bb q) ∘ jB n) (cl fN ((gE g l).take i.n))).flatten = []:=λq n=>flatten_nil λa G=>by show bb q (jB n a) = [];rw[Pt n (lP (sw _) a G)];rfl
   have c:∀(q:Nat->Bool) (n:Nat),(List.map ((bb q) ∘ jB n) (cl fN (aE (l.l-(i+1).n) []))).flatten = []:=λq n=>flatten_nil λa G=>by show bb q (jB n a) = [];rw[Pt n (lP (sw _) a G)];rfl
   have m:(gt (gE g l) i).l=(iY g (gt l i)).l:=by rw[n1,bs]
   have M:∀j:Int,0<=j->j<(iY g (gt l i)).l->gt (gt (gE g l) i) j=pO l (gt (iY g (gt l i)) j):=λj j0 j1=>by rw[n1,iX j0 (by rw[bs];exact j1),iX j0 j1,List.getElem_map]
   generalize cl fN ((gE g l).take i.n)=A at *;generalize P:cl fN (aE (l.l-(i+1).n) [])=R at *;have w:∀(d:D) (r:List D),(A++d::r)[i.n]? = some d:=λd r=>by rw[ak U,s];simp
   have v:∀(d:D) (r:List D),(A++d::r).take i.n=A:=λd r=>by rw[aW U,af U]
   have x:∀(d:D) (r:List D),(A++d::r).drop (i.n+1)=r:=λd r=>by rw[fm,bA U,s];simp
   have S:∀(d:D),i.n<(A++d::R).l:=λd=>gL;refine gx.e (0:Int) (λy=>[(2,.ptr 0 0 0),(7,.gH 1),(10,.gf 2 0 1 0 l.l),(11,.i i),(52,gP l),(53,.i l.l),(54,.i i),(61,dN 5 Pos.cells (iY g (gt l i))),(62,.i (iY g (gt l i)).l),(63,.i y)]) (λy=>[.row 43 0 g.cells,.map .str (vp l l.l),.row 37 0 (A++(if y=0 then .gi else .gf 4 (y.n-1) 1 0 y.n)::R),.row 46 0 (gt l i).cells]++(if y=0 then []else [.row 3 (y.n-1) (cl f1 ((gt (gE g l) i).take y.n))])) (λy=>0<=y/\y<=(iY g (gt l i)).l) (λy=>((iY g (gt l i)).l-y).n) ?_ ?_
   .simp
   rintro k ⟨k0,k1⟩
   by_cases C:k<(iY g (gt l i)).l
   .have z:=Z _ (gF k0 C);have K:=hl _ z;have NS:=K.size
    by_cases t:k=0
    .subst t;rw[if_pos rfl,if_pos rfl];simp[C];(with_reducible repeat' first|refine Xk ?_<;>try simp|refine Xs ?_ ?_<;>intro h<;>(try intro E)<;>(try simp[h])<;>try omega|refine Xg ?_|omega);refine Yc (f101 (gt (iY g (gt l i)) 0) U (EL hg K)) ?_;simp;simp[ZD hg hl hs z];refine gh ?_;simp[w,v,x,s,o,b,f,c,m];(with_reducible repeat' first|refine Xk ?_<;>try simp[w,v,x,s,o,b,f,c,m]|refine Xs ?_ ?_<;>intro h<;>(try intro E)<;>(try simp[h,w,v,x,s,o,b,f,c,m])<;>try omega|refine Xg ?_|omega)
     have t1:(gt (gE g l) i).take 1 = [pO l (gt (iY g (gt l i)) 0)]:=by have:=jt (l:=gt (gE g l) i) (n:=0) U U;rw[M 0 U U]at this;exact this
     refine LJ.i (1:Int) (by first|rfl|simp[t1,je]) (by first|rfl|simp[t1,je]) rfl rfl ?_;exact mF
    .rw[if_neg t,if_neg t];simp[C];refine gh ?_;refine Yc (f101 (gt (iY g (gt l i)) k) U (EL hg K)) ?_;simp;simp[ZD hg hl hs z];refine gh ?_;simp[w,v,x,s,o,b,f,c,m];(with_reducible repeat' first|refine Xk ?_<;>try simp[w,v,x,s,o,b,f,c,m]|refine Xs ?_ ?_<;>intro h<;>(try intro E)<;>(try simp[h,w,v,x,s,o,b,f,c,m])<;>try omega|refine Xg ?_|omega)
     have t2:(gt (gE g l) i).take (k.n+1)=(gt (gE g l) i).take k.n ++ [pO l (gt (iY g (gt l i)) k)]:=by have:=jt (l:=gt (gE g l) i) (n:=k) U U;rw[M k U U,(U:(k+1).n=k.n+1)]at this;exact this
     refine LJ.i (k+1) (by first|rfl|simp[(U:¬(k+1=0)),(U:(k+1).n=k.n+1),(U:k.n-1+1=k.n),t2,dX]) (by first|rfl|simp[(U:¬(k+1=0)),(U:(k+1).n=k.n+1),(U:k.n-1+1=k.n),t2,dX]) rfl rfl ?_;exact mF
   .by_cases t:k=0
    .have J:gt (gE g l) i = []:=aA.1 U;have W:=I J;subst t;rw[if_pos rfl,if_pos rfl];simp[(U:¬ 0<(iY g (gt l i)).l),o,b,f,c];refine xQ o b f c ?_;exact LJ.i (i+1) rfl (by rw[<-W]) rfl rfl mF
    .have J:gt (gE g l) i≠[]:=λe=>by rw[e]at m;simp at m;omega
     have V:=Y J;have F:(gt (gE g l) i).take k.n=gt (gE g l) i:=af U;rw[if_neg t,if_neg t];have L:k.n=(iY g (gt l i)).l:=U;simp[C,o,b,f,c,m,F,L];(with_reducible repeat' first|refine Xk ?_<;>try simp[o,b,f,c,m,F,L]|refine Xs ?_ ?_<;>intro h<;>(try intro E)<;>(try simp[h,o,b,f,c,m,F,L])<;>try omega|refine Xg ?_|omega);exact LJ.i (i+1) rfl (by rw[<-V]) rfl rfl mF
  .have e:i=l.l:=by omega
   subst e;simp;rw[af U,vx X.symm]
