/- Part 24 of DisputeMatchesReference. -/
import Derived.Test.YtmehofoficaelaaGreatDoorM22
import Derived.Test.YtmehofoficaelaaGreatDoorM23
set_option linter.all false
open List renaming replicate→aE,filter→bb,length_map→bs,map_cons→b4,length→List.l
open Int renaming toNat→Int.n
namespace Go.Proofs.YtmehofoficaelaaGreatDoor
open Go Go.AL Classical
set_option maxRecDepth 10000
set_option maxHeartbeats 8000000
@[irreducible] def fN(x:List Int):List D:=[dN 1 f1 x]
theorem rO(x:List Int):fN x = [dN 1 f1 x]:=by unfold fN;rfl
instance:Fl fN 1:=⟨λx=>by rw[rO];rfl,λx=>by simp[rO,gN]⟩
def ad8(a b:List (List Int))(x:List Int)(h:x≠[]):cl fN a++dI x::cl fN b=cl fN (a++x::b):=by
 rw[<-Cf,nS,rO]
 cases x with
 | nil=>exact absurd rfl h
 | cons y r=>rfl
def WJ(a b:List (List Int)):cl fN a++D.gp::cl fN b=cl fN (a ++ []::b):=by rw[<-Cf,nS,rO];rfl
def aoM(n:Nat):aE n D.gp=cl fN (aE n []):=by rw[<-JK,rO];simp[dN]
def w8(l:List Pos)(n:Nat):List (Value×D):=(upto n).map λj=>(.string (pG (gt l j)),.i j)
@[simp] theorem aBi(q:Nat->Bool)(n m:Nat)(l:List Pos):(List.map ((bb q) ∘ λx:Value×D=>jP n x.2) (w8 l m)).flatten = []:=
 flatten_nil λa b=>by obtain⟨j,_,rfl⟩:=au.1 b;rfl
@[simp] theorem az3(ρ:Nat->Option Nat)(H:gg)(m:Nat)(l:List Pos):(w8 l m).map (λx=>(x.1,gA ρ H 40 x.2))=w8 l m:=by rw[w8,b6];exact aw λj _=>gf
theorem abd{α:Type}{f:α->ByteArray}{v:α->D}{k:ByteArray}{d:D}:∀ {l:List α},(∀x∈l,k≠f x)->np (l.map λx=>((.string (f x):Value),v x)) (.string k) d=(l.map λx=>((.string (f x):Value),v x)) ++ [(.string k,d)]
 | [],_=>by simp[np]
 | a::l,h=>by rw[b4,np,Pv,abd λx b=>h x (by simp[b])];simp[h a gf]
theorem aa8{α:Type}{f:α->ByteArray}{v:α->D}{x:α}:∀ {l:List α},x∈l->(∀y∈l,f x=f y->y=x)->sP (l.map λx=>((.string (f x):Value),v x)) (.string (f x))=some (v x)
 | a::l,hx,h=>by
  rw[b4,sP,Pv]
  by_cases e:f x=f a
  .have:=h a gf e;subst this;simp
  .have b:x∈l:=(ay.1 hx).resolve_left λd=>e (by rw[d]);rw[aa8 b λy c=>h y (by simp[c])];simp[e]
section
variable{g:gv}(hg:gZ g){l:List Pos}(hl:∀p∈l,iI g p)(hs:lP l)
include hg hl hs
theorem aaz{i j:Int}(i0:0<=i)(a:i<l.l)(j0:0<=j)(j1:j<l.l)(h:pG (gt l i)=pG (gt l j)):i=j:=
 hs.inj i0 a j0 j1 (aaA hg (hl _ (gF i0 a)) (hl _ (gF j0 j1)) h)
theorem ai1{i:Int}(i0:0<=i)(b:i<l.l):np (w8 l i.n) (.string (pG (gt l i))) (.i i)=w8 l (i+1).n:=by
 unfold w8;rw[abd (f:=λj=>pG (gt l j)) (λj a e=>?_),yK i0,List.map_append]
 .rfl
 .rw[jF]at a;have:=aaz hg hl hs i0 b a.1 U e;omega
theorem aa7{q:Pos}(b:q∈l):sP (w8 l l.l) (.string (pG q))=some (.i (rj l q)):=by
 obtain⟨h0,h1,c⟩:=H7 b
 have:=aa8 (f:=λj=>pG (gt l j)) (v:=λj=>D.i j) (x:=rj l q) (l:=upto l.l) (jF.2 ⟨h0,h1⟩) (λy a e=>by
  rw[jF]at a
  exact(aaz hg hl hs h0 h1 a.1 a.2 e).symm)
 rw[c]at this;exact this
end
attribute [local simp] aoM
def f52(g:gv)(hg:gZ g)(l:List Pos)(B:mY g l)(h0:0<l.l):Wf T 56 [dG g,gT l] [] (Is (.tup [.sl 1 ((gy g l).map fN),.i 0])):=by
 have hl:=B.ok;have hs:=B.BR;have h9:=B.len;have hb:=hg.ki.size;refine Yz GX (jm 87 [3] GX.body) ?_;simp[GX,jm,kS,nR,nU,oo,mm];refine Yc (f98 g hg) ?_;simp;(with_reducible repeat' first|refine Xk ?_<;>try simp|refine Xs ?_ ?_<;>intro h<;>(try intro E)<;>(try simp[h])<;>try omega|refine Xg ?_|omega);refine Yr (f99 g hg l hl U) ?_;simp;refine gi ?_;refine Yc (f100 l U (λp u=>(hl p u).small hg) hs) ?_;simp;refine gi ?_;refine gx.e (0:Int) (λy=>[(1,gT l),(2,.ptr 0 0 0),(7,.gM 1),(37,gT l),(38,.i l.l),(39,.i y)]) (λy=>[.row 43 0 g.cells,.map .str (w8 l y.n)]) (λy=>0<=y/\y<=l.l) (λy=>(l.l-y).n) ?_ ?_
 .simp
 rintro i ⟨i0,O⟩
 by_cases hi:i<l.l
 .have u:=hl _ (gF i0 hi);have O':=u.size;simp[hi];refine gi ?_;refine Yc (f101 (gt l i) U (FQ hg u)) ?_;simp;simp[ai1 hg hl hs i0 hi];refine gi ?_;refine LJ.e (i+1) ?_;exact mw
 .have e:i=l.l:=by omega
  subst e;have X:(gy g l).l=l.l:=by simp[gy]
  simp;refine gi ?_;refine gx.e (0:Int) (λy=>[(2,.ptr 0 0 0),(7,.gM 1),(10,.gh 2 0 1 0 l.l),(52,gT l),(53,.i l.l),(54,.i y)]) (λy=>[.row 43 0 g.cells,.map .str (w8 l l.l),.row 37 0 (cl fN ((gy g l).take y.n++aE (l.l-y.n) []))]) (λy=>0<=y/\y<=l.l) (λy=>(l.l-y).n) ?_ ?_
  .simp
  rintro i ⟨i0,O⟩
  by_cases hi:i<l.l
  .have u:=hl _ (gF i0 hi);obtain⟨n1,n2⟩:=oN B i0 hi;have Z:∀q∈jb g (gt l i),q∈l:=λq z=>B.cl _ (gF i0 hi) q (Dv.1 z);have ZQ:=wG hg u;simp[hi];refine gi ?_;refine Yc (f26 g hg (gt l i) u) ?_;simp
   have iw:cl fN ((gy g l).take i.n++aE (l.l-i.n) [])=cl fN ((gy g l).take i.n) ++ .gp::cl fN (aE (l.l-(i+1).n) []):=by
    have Q:aE (l.l-i.n) ([]:List Int) = []::aE (l.l-(i+1).n) []:=by rw[<-bw];congr 1;omega
    rw[Q,WJ]
   have N:(gy g l).take (i+1).n=(gy g l).take i.n ++ [gt (gy g l) i]:=jI i0 U
   have I:gt (gy g l) i = []->cl fN ((gy g l).take i.n) ++ .gp::cl fN (aE (l.l-(i+1).n) [])=cl fN ((gy g l).take (i+1).n++aE (l.l-(i+1).n) []):=λe=>by rw[WJ,N,e];simp
   have Y:gt (gy g l) i≠[]->cl fN ((gy g l).take i.n)++dI (gt (gy g l) i)::cl fN (aE (l.l-(i+1).n) [])=cl fN ((gy g l).take (i+1).n++aE (l.l-(i+1).n) []):=λe=>by rw[ad8 _ _ _ e,N];simp
   have s:(cl fN ((gy g l).take i.n)).l=i.n:=by rw[rJ,aG];omega
   have o:∀(ρ:Nat->Option Nat) (H:gg) (k:Nat),(cl fN ((gy g l).take i.n)).map (gA ρ H k)=cl fN ((gy g l).take i.n):=λρ H k=>Dt (vW _);have b:∀(ρ:Nat->Option Nat) (H:gg) (k:Nat),(cl fN (aE (l.l-(i+1).n) [])).map (gA ρ H k)=cl fN (aE (l.l-(i+1).n) []):=λρ H k=>Dt (vW _)
   have f:∀(q:Nat->Bool) (n:Nat),(List.map ((bb q) ∘ jP n) (cl fN ((gy g l).take i.n))).flatten = []:=λq n=>flatten_nil λa G=>by show bb q (jP n a) = [];rw[QI n (mL (vW _) a G)];rfl
   have c:∀(q:Nat->Bool) (n:Nat),(List.map ((bb q) ∘ jP n) (cl fN (aE (l.l-(i+1).n) []))).flatten = []:=λq n=>flatten_nil λa G=>by show bb q (jP n a) = [];rw[QI n (mL (vW _) a G)];rfl
   have m:(gt (gy g l) i).l=(jb g (gt l i)).l:=by rw[n1,bs]
   have M:∀j:Int,0<=j->j<(jb g (gt l i)).l->gt (gt (gy g l) i) j=rj l (gt (jb g (gt l i)) j):=λj j0 j1=>by rw[n1,iV j0 (by rw[bs];exact j1),iV j0 j1,List.getElem_map]
   generalize cl fN ((gy g l).take i.n)=A at *;generalize P:cl fN (aE (l.l-(i+1).n) [])=R at *;have w:∀(d:D) (r:List D),(A++d::r)[i.n]? = some d:=λd r=>by rw[ak U,s];simp
   have v:∀(d:D) (r:List D),(A++d::r).take i.n=A:=λd r=>by rw[aZ U,af U]
   have x:∀(d:D) (r:List D),(A++d::r).drop (i.n+1)=r:=λd r=>by rw[fr,bF U,s];simp
   have S:∀(d:D),i.n<(A++d::R).l:=λd=>gO;refine gx.e (0:Int) (λy=>[(2,.ptr 0 0 0),(7,.gM 1),(10,.gh 2 0 1 0 l.l),(11,.i i),(52,gT l),(53,.i l.l),(54,.i i),(61,dN 5 Pos.cells (jb g (gt l i))),(62,.i (jb g (gt l i)).l),(63,.i y)]) (λy=>[.row 43 0 g.cells,.map .str (w8 l l.l),.row 37 0 (A++(if y=0 then .gp else .gh 4 (y.n-1) 1 0 y.n)::R),.row 46 0 (gt l i).cells]++(if y=0 then []else [.row 3 (y.n-1) (cl f1 ((gt (gy g l) i).take y.n))])) (λy=>0<=y/\y<=(jb g (gt l i)).l) (λy=>((jb g (gt l i)).l-y).n) ?_ ?_
   .simp
   rintro k ⟨k0,k1⟩
   by_cases C:k<(jb g (gt l i)).l
   .have z:=Z _ (gF k0 C);have K:=hl _ z;have Pc:=K.size
    by_cases t:k=0
    .subst t;rw[if_pos rfl,if_pos rfl];simp[C];(with_reducible repeat' first|refine Xk ?_<;>try simp|refine Xs ?_ ?_<;>intro h<;>(try intro E)<;>(try simp[h])<;>try omega|refine Xg ?_|omega);refine Yc (f101 (gt (jb g (gt l i)) 0) U (FQ hg K)) ?_;simp;simp[aa7 hg hl hs z];refine gi ?_;simp[w,v,x,s,o,b,f,c,m];(with_reducible repeat' first|refine Xk ?_<;>try simp[w,v,x,s,o,b,f,c,m]|refine Xs ?_ ?_<;>intro h<;>(try intro E)<;>(try simp[h,w,v,x,s,o,b,f,c,m])<;>try omega|refine Xg ?_|omega)
     have t1:(gt (gy g l) i).take 1 = [rj l (gt (jb g (gt l i)) 0)]:=by have:=jI (l:=gt (gy g l) i) (n:=0) U U;rw[M 0 U U]at this;exact this
     refine LJ.i (1:Int) (by first|rfl|simp[t1,iY]) (by first|rfl|simp[t1,iY]) rfl rfl ?_;exact mw
    .rw[if_neg t,if_neg t];simp[C];refine gi ?_;refine Yc (f101 (gt (jb g (gt l i)) k) U (FQ hg K)) ?_;simp;simp[aa7 hg hl hs z];refine gi ?_;simp[w,v,x,s,o,b,f,c,m];(with_reducible repeat' first|refine Xk ?_<;>try simp[w,v,x,s,o,b,f,c,m]|refine Xs ?_ ?_<;>intro h<;>(try intro E)<;>(try simp[h,w,v,x,s,o,b,f,c,m])<;>try omega|refine Xg ?_|omega)
     have t2:(gt (gy g l) i).take (k.n+1)=(gt (gy g l) i).take k.n ++ [rj l (gt (jb g (gt l i)) k)]:=by have:=jI (l:=gt (gy g l) i) (n:=k) U U;rw[M k U U,(U:(k+1).n=k.n+1)]at this;exact this
     refine LJ.i (k+1) (by first|rfl|simp[(U:¬(k+1=0)),(U:(k+1).n=k.n+1),(U:k.n-1+1=k.n),t2,ej]) (by first|rfl|simp[(U:¬(k+1=0)),(U:(k+1).n=k.n+1),(U:k.n-1+1=k.n),t2,ej]) rfl rfl ?_;exact mw
   .by_cases t:k=0
    .have J:gt (gy g l) i = []:=aC.1 U;have W:=I J;subst t;rw[if_pos rfl,if_pos rfl];simp[(U:¬ 0<(jb g (gt l i)).l),o,b,f,c];refine o5 o b f c ?_;exact LJ.i (i+1) rfl (by rw[<-W]) rfl rfl mw
    .have J:gt (gy g l) i≠[]:=λe=>by rw[e]at m;simp at m;omega
     have V:=Y J;have F:(gt (gy g l) i).take k.n=gt (gy g l) i:=af U;rw[if_neg t,if_neg t];have L:k.n=(jb g (gt l i)).l:=U;simp[C,o,b,f,c,m,F,L];(with_reducible repeat' first|refine Xk ?_<;>try simp[o,b,f,c,m,F,L]|refine Xs ?_ ?_<;>intro h<;>(try intro E)<;>(try simp[h,o,b,f,c,m,F,L])<;>try omega|refine Xg ?_|omega);exact LJ.i (i+1) rfl (by rw[<-V]) rfl rfl mw
  .have e:i=l.l:=by omega
   subst e;simp;rw[af U,xd X.symm]
