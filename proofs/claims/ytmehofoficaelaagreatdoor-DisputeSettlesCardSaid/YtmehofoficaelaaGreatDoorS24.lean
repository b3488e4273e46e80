/- Part 24 of DisputeSettles. -/
import Derived.Test.YtmehofoficaelaaGreatDoorS22
import Derived.Test.YtmehofoficaelaaGreatDoorS23
set_option linter.all false
namespace Go.Proofs.YtmehofoficaelaaGreatDoor
open Go Go.AL Classical
set_option maxRecDepth 10000
set_option maxHeartbeats 8000000
@[irreducible] def fN(x:List Int):List D:=[dN 1 f1 x]
theorem s6(x:List Int):fN x = [dN 1 f1 x]:=by unfold fN;rfl
instance:Fl fN 1:=⟨λx=>by rw[s6];rfl,λx=>by simp[s6,gG]⟩
def adu(a b:List (List Int))(x:List Int)(h:x≠[]):cl fN a++dI x::cl fN b=cl fN (a++x::b):=by
 rw[<-zH,mD,s6]
 cases x with
 | nil=>exact absurd rfl h
 | cons y r=>rfl
def V7(a b:List (List Int)):cl fN a++D.gg::cl fN b=cl fN (a ++ []::b):=by rw[<-zH,mD,s6];rfl
def an5(n:Nat):List.replicate n D.gg=cl fN (List.replicate n []):=by rw[<-Ja,s6];simp[dN]
def vK(l:List Pos)(n:Nat):List (Value×D):=(upto n).map λj=>(.string (oG (gt l j)),.i j)
@[simp] theorem aAy(q:Nat->Bool)(n m:Nat)(l:List Pos):(List.map ((List.filter q) ∘ λx:Value×D=>jk n x.2) (vK l m)).flatten = []:=
 flatten_nil λa b=>by obtain⟨j,_,rfl⟩:=List.mem_map.1 b;rfl
@[simp] theorem azo(ρ:Nat->Option Nat)(H:U)(m:Nat)(l:List Pos):(vK l m).map (λx=>(x.1,gq ρ H 40 x.2))=vK l m:=by rw[vK,cd];exact aq λj _=>by simp
theorem aap{α:Type}{f:α->ByteArray}{v:α->D}{k:ByteArray}{d:D}:∀ {l:List α},(∀x∈l,k≠f x)->mz (l.map λx=>((.string (f x):Value),v x)) (.string k) d=(l.map λx=>((.string (f x):Value),v x)) ++ [(.string k,d)]
 | [],_=>by simp[mz]
 | a::l,h=>by rw[List.map_cons,mz,OR,aap λx b=>h x (by simp[b])];simp[h a (by simp)]
theorem aam{α:Type}{f:α->ByteArray}{v:α->D}{x:α}:∀ {l:List α},x∈l->(∀y∈l,f x=f y->y=x)->rr (l.map λx=>((.string (f x):Value),v x)) (.string (f x))=some (v x)
 | a::l,hx,h=>by
  rw[List.map_cons,rr,OR]
  by_cases e:f x=f a
  .have:=h a (by simp) e;subst this;simp
  .have b:x∈l:=(ao.1 hx).resolve_left λd=>e (by rw[d]);rw[aam b λy c=>h y (by simp[c])];simp[e]
section
variable{g:gj}(hg:gU g){l:List Pos}(hl:∀p∈l,iz g p)(hs:kX l)
include hg hl hs
theorem ZP{i j:Int}(i0:0<=i)(a:i<l.length)(j0:0<=j)(j1:j<l.length)(h:oG (gt l i)=oG (gt l j)):i=j:=
 hs.inj i0 a j0 j1 (ZQ hg (hl _ (gA i0 a)) (hl _ (gA j0 j1)) h)
theorem ait{i:Int}(i0:0<=i)(b:i<l.length):mz (vK l i.toNat) (.string (oG (gt l i))) (.i i)=vK l (i+1).toNat:=by
 unfold vK;rw[aap (f:=λj=>oG (gt l j)) (λj a e=>?_),xM i0,List.map_append]
 .rfl
 .rw[jd]at a;have:=ZP hg hl hs i0 b a.1 (by omega) e;omega
theorem aal{q:Pos}(b:q∈l):rr (vK l l.length) (.string (oG q))=some (.i (pN l q)):=by
 obtain⟨h0,h1,c⟩:=G2 b
 have:=aam (f:=λj=>oG (gt l j)) (v:=λj=>D.i j) (x:=pN l q) (l:=upto l.length) (jd.2 ⟨h0,h1⟩) (λy a e=>by
  rw[jd]at a
  exact(ZP hg hl hs h0 h1 a.1 a.2 e).symm)
 rw[c]at this;exact this
end
attribute [local simp] an5
def f52(g:gj)(hg:gU g)(l:List Pos)(B:ox g l)(h0:0<l.length):Wf T 56 [dG g,gZ l] [] (Is (.tup [.sl 1 ((gw g l).map fN),.i 0])):=by
 have hl:=B.ok;have hs:=B.A1;have h9:=B.len;have Z:=hg.jJ.size;refine Yz FX (iV 87 [3] FX.body) ?_;simp[FX,iV,kq,nb,ng,nD,lV];refine Yc (f98 g hg) ?_;simp;(with_reducible repeat' first|refine Xk ?_<;>try simp|refine Xs ?_ ?_<;>intro h<;>(try intro E)<;>(try simp[h])<;>try omega|refine Xg ?_|omega);refine Yr (f99 g hg l hl (by omega)) ?_;simp;refine gf ?_;refine Yc (f100 l (by omega) (λp u=>(hl p u).small hg) hs) ?_;simp;refine gf ?_;refine gp.e (0:Int) (λy=>[(1,gZ l),(2,.ptr 0 0 0),(7,.gH 1),(37,gZ l),(38,.i l.length),(39,.i y)]) (λy=>[.row 43 0 g.cells,.map .str (vK l y.toNat)]) (λy=>0<=y/\y<=l.length) (λy=>(l.length-y).toNat) ?_ ?_
 .simp
 rintro i ⟨i0,O⟩
 by_cases hi:i<l.length
 .have u:=hl _ (gA i0 hi);have Ov:=u.size;simp[hi];refine gf ?_;refine Yc (f101 (gt l i) (by omega) (ER hg u)) ?_;simp;simp[ait hg hl hs i0 hi];refine gf ?_;refine LJ.e (i+1) ?_;exact mj
 .have e:i=l.length:=by omega
  subst e;have X:(gw g l).length=l.length:=by simp[gw]
  simp;refine gf ?_;refine gp.e (0:Int) (λy=>[(2,.ptr 0 0 0),(7,.gH 1),(10,.fZ 2 0 1 0 l.length),(52,gZ l),(53,.i l.length),(54,.i y)]) (λy=>[.row 43 0 g.cells,.map .str (vK l l.length),.row 37 0 (cl fN ((gw g l).take y.toNat++List.replicate (l.length-y.toNat) []))]) (λy=>0<=y/\y<=l.length) (λy=>(l.length-y).toNat) ?_ ?_
  .simp
  rintro i ⟨i0,O⟩
  by_cases hi:i<l.length
  .have u:=hl _ (gA i0 hi);obtain⟨n1,n2⟩:=pC B i0 hi;have N:∀q∈iW g (gt l i),q∈l:=λq z=>B.cl _ (gA i0 hi) q (CD.1 z);have Y5:=yT hg u;simp[hi];refine gf ?_;refine Yc (f26 g hg (gt l i) u) ?_;simp
   have gY:cl fN ((gw g l).take i.toNat++List.replicate (l.length-i.toNat) [])=cl fN ((gw g l).take i.toNat) ++ .gg::cl fN (List.replicate (l.length-(i+1).toNat) []):=by
    have Q:List.replicate (l.length-i.toNat) ([]:List Int) = []::List.replicate (l.length-(i+1).toNat) []:=by rw[<-bz];congr 1;omega
    rw[Q,V7]
   have M:(gw g l).take (i+1).toNat=(gw g l).take i.toNat ++ [gt (gw g l) i]:=jn i0 (by omega)
   have I:gt (gw g l) i = []->cl fN ((gw g l).take i.toNat) ++ .gg::cl fN (List.replicate (l.length-(i+1).toNat) [])=cl fN ((gw g l).take (i+1).toNat++List.replicate (l.length-(i+1).toNat) []):=λe=>by rw[V7,M,e];simp
   have Y:gt (gw g l) i≠[]->cl fN ((gw g l).take i.toNat)++dI (gt (gw g l) i)::cl fN (List.replicate (l.length-(i+1).toNat) [])=cl fN ((gw g l).take (i+1).toNat++List.replicate (l.length-(i+1).toNat) []):=λe=>by rw[adu _ _ _ e,M];simp
   have s:(cl fN ((gw g l).take i.toNat)).length=i.toNat:=by rw[rN,aJ];omega
   have o:∀(ρ:Nat->Option Nat) (H:U) (k:Nat),(cl fN ((gw g l).take i.toNat)).map (gq ρ H k)=cl fN ((gw g l).take i.toNat):=λρ H k=>Cx (tG _);have b:∀(ρ:Nat->Option Nat) (H:U) (k:Nat),(cl fN (List.replicate (l.length-(i+1).toNat) [])).map (gq ρ H k)=cl fN (List.replicate (l.length-(i+1).toNat) []):=λρ H k=>Cx (tG _)
   have f:∀(q:Nat->Bool) (n:Nat),(List.map ((List.filter q) ∘ jk n) (cl fN ((gw g l).take i.toNat))).flatten = []:=λq n=>flatten_nil λa G=>by show List.filter q (jk n a) = [];rw[Jv n (lT (tG _) a G)];rfl
   have c:∀(q:Nat->Bool) (n:Nat),(List.map ((List.filter q) ∘ jk n) (cl fN (List.replicate (l.length-(i+1).toNat) []))).flatten = []:=λq n=>flatten_nil λa G=>by show List.filter q (jk n a) = [];rw[Jv n (lT (tG _) a G)];rfl
   have m:(gt (gw g l) i).length=(iW g (gt l i)).length:=by rw[n1,List.length_map]
   have L:∀j:Int,0<=j->j<(iW g (gt l i)).length->gt (gt (gw g l) i) j=pN l (gt (iW g (gt l i)) j):=λj j0 j1=>by rw[n1,iZ j0 (by rw[List.length_map];exact j1),iZ j0 j1,List.getElem_map]
   generalize cl fN ((gw g l).take i.toNat)=A at *;generalize P:cl fN (List.replicate (l.length-(i+1).toNat) [])=R at *;have w:∀(d:D) (r:List D),(A++d::r)[i.toNat]? = some d:=λd r=>by rw[ai (by omega),s];simp
   have v:∀(d:D) (r:List D),(A++d::r).take i.toNat=A:=λd r=>by rw[aW (by omega),af (by omega)]
   have x:∀(d:D) (r:List D),(A++d::r).drop (i.toNat+1)=r:=λd r=>by rw[fq,bF (by omega),s];simp
   have S:∀(d:D),i.toNat<(A++d::R).length:=λd=>by simp;omega
   refine gp.e (0:Int) (λy=>[(2,.ptr 0 0 0),(7,.gH 1),(10,.fZ 2 0 1 0 l.length),(11,.i i),(52,gZ l),(53,.i l.length),(54,.i i),(61,dN 5 Pos.cells (iW g (gt l i))),(62,.i (iW g (gt l i)).length),(63,.i y)]) (λy=>[.row 43 0 g.cells,.map .str (vK l l.length),.row 37 0 (A++(if y=0 then .gg else .fZ 4 (y.toNat-1) 1 0 y.toNat)::R),.row 46 0 (gt l i).cells]++(if y=0 then []else [.row 3 (y.toNat-1) (cl f1 ((gt (gw g l) i).take y.toNat))])) (λy=>0<=y/\y<=(iW g (gt l i)).length) (λy=>((iW g (gt l i)).length-y).toNat) ?_ ?_
   .simp
   rintro k ⟨k0,k1⟩
   by_cases C:k<(iW g (gt l i)).length
   .have z:=N _ (gA k0 C);have SG:=hl _ z;have Ox:=SG.size
    by_cases t:k=0
    .subst t;rw[if_pos rfl,if_pos rfl];simp[C];(with_reducible repeat' first|refine Xk ?_<;>try simp|refine Xs ?_ ?_<;>intro h<;>(try intro E)<;>(try simp[h])<;>try omega|refine Xg ?_|omega);refine Yc (f101 (gt (iW g (gt l i)) 0) (by omega) (ER hg SG)) ?_;simp;simp[aal hg hl hs z];refine gf ?_;simp[w,v,x,s,o,b,f,c,m];(with_reducible repeat' first|refine Xk ?_<;>try simp[w,v,x,s,o,b,f,c,m]|refine Xs ?_ ?_<;>intro h<;>(try intro E)<;>(try simp[h,w,v,x,s,o,b,f,c,m])<;>try omega|refine Xg ?_|omega)
     have t1:(gt (gw g l) i).take 1 = [pN l (gt (iW g (gt l i)) 0)]:=by have:=jn (l:=gt (gw g l) i) (n:=0) (by omega) (by omega);rw[L 0 (by omega) (by omega)]at this;exact this
     refine LJ.i (1:Int) (by first|rfl|simp[t1,iM]) (by first|rfl|simp[t1,iM]) rfl rfl ?_;exact mj
    .rw[if_neg t,if_neg t];simp[C];refine gf ?_;refine Yc (f101 (gt (iW g (gt l i)) k) (by omega) (ER hg SG)) ?_;simp;simp[aal hg hl hs z];refine gf ?_;simp[w,v,x,s,o,b,f,c,m];(with_reducible repeat' first|refine Xk ?_<;>try simp[w,v,x,s,o,b,f,c,m]|refine Xs ?_ ?_<;>intro h<;>(try intro E)<;>(try simp[h,w,v,x,s,o,b,f,c,m])<;>try omega|refine Xg ?_|omega)
     have t2:(gt (gw g l) i).take (k.toNat+1)=(gt (gw g l) i).take k.toNat ++ [pN l (gt (iW g (gt l i)) k)]:=by have:=jn (l:=gt (gw g l) i) (n:=k) (by omega) (by omega);rw[L k (by omega) (by omega),show(k+1).toNat=k.toNat+1 by omega]at this;exact this
     refine LJ.i (k+1) (by first|rfl|simp[show¬(k+1=0)by omega,show(k+1).toNat=k.toNat+1 by omega,show k.toNat-1+1=k.toNat by omega,t2,ef]) (by first|rfl|simp[show¬(k+1=0)by omega,show(k+1).toNat=k.toNat+1 by omega,show k.toNat-1+1=k.toNat by omega,t2,ef]) rfl rfl ?_;exact mj
   .by_cases t:k=0
    .have J:gt (gw g l) i = []:=ax.1 (by omega);have W:=I J;subst t;rw[if_pos rfl,if_pos rfl];simp[show¬ 0<(iW g (gt l i)).length by omega,o,b,f,c];refine Dz o b f c ?_;exact LJ.i (i+1) rfl (by rw[<-W]) rfl rfl mj
    .have J:gt (gw g l) i≠[]:=λe=>by rw[e]at m;simp at m;omega
     have V:=Y J;have F:(gt (gw g l) i).take k.toNat=gt (gw g l) i:=af (by omega);rw[if_neg t,if_neg t];have K:k.toNat=(iW g (gt l i)).length:=by omega
     simp[C,o,b,f,c,m,F,K];(with_reducible repeat' first|refine Xk ?_<;>try simp[o,b,f,c,m,F,K]|refine Xs ?_ ?_<;>intro h<;>(try intro E)<;>(try simp[h,o,b,f,c,m,F,K])<;>try omega|refine Xg ?_|omega);exact LJ.i (i+1) rfl (by rw[<-V]) rfl rfl mj
  .have e:i=l.length:=by omega
   subst e;simp;rw[af (by omega),tM X.symm]
