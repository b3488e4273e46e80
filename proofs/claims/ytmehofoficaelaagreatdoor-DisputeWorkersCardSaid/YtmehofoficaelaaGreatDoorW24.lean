/- Part 24 of DisputeWorkers. -/
import Derived.Test.YtmehofoficaelaaGreatDoorW22
import Derived.Test.YtmehofoficaelaaGreatDoorW23
set_option linter.all false
namespace Go.Proofs.YtmehofoficaelaaGreatDoor
open Go Go.AL Classical
set_option maxRecDepth 10000
set_option maxHeartbeats 8000000
@[irreducible] def fN(x:List Int):List D:=[dN 1 f1 x]
theorem x6(x:List Int):fN x = [dN 1 f1 x]:=by unfold fN;rfl
instance:Fl fN 1:=⟨λx=>by rw[x6];rfl,λx=>by simp[x6,gF]⟩
theorem acs(a b:List (List Int))(x:List Int)(h:x≠[]):cl fN a++dI x::cl fN b=cl fN (a++x::b):=by
 rw[<-A3,nM,x6]
 cases x with
 | nil=>exact absurd rfl h
 | cons y r=>rfl
theorem Ve(a b:List (List Int)):cl fN a++D.gg::cl fN b=cl fN (a ++ []::b):=by rw[<-A3,nM,x6];rfl
theorem anf(n:Nat):List.replicate n D.gg=cl fN (List.replicate n []):=by rw[<-II,x6];simp[dN]
def vp(l:List Pos)(n:Nat):List (Value×D):=(upto n).map λj=>(.string (oJ (gt l j)),.i j)
@[simp] theorem azQ(q:Nat->Bool)(n m:Nat)(l:List Pos):(List.map ((List.filter q) ∘ λx:Value×D=>jv n x.2) (vp l m)).flatten = []:=
 flatten_nil λa b=>by obtain⟨j,_,rfl⟩:=ar.1 b;rfl
@[simp] theorem ayA(ρ:Nat->Option Nat)(H:U)(m:Nat)(l:List Pos):(vp l m).map (λx=>(x.1,gq ρ H 40 x.2))=vp l m:=by rw[vp,cz];exact aw λj _=>by simp
theorem Zv{α:Type}{f:α->ByteArray}{v:α->D}{k:ByteArray}{d:D}:∀ {l:List α},(∀x∈l,k≠f x)->mu (l.map λx=>((.string (f x):Value),v x)) (.string k) d=(l.map λx=>((.string (f x):Value),v x)) ++ [(.string k,d)]
 | [],_=>by simp[mu]
 | a::l,h=>by rw[List.map_cons,mu,Oc,Zv λx b=>h x (by simp[b])];simp[h a (by simp)]
theorem Zs{α:Type}{f:α->ByteArray}{v:α->D}{x:α}:∀ {l:List α},x∈l->(∀y∈l,f x=f y->y=x)->rr (l.map λx=>((.string (f x):Value),v x)) (.string (f x))=some (v x)
 | a::l,hx,h=>by
  rw[List.map_cons,rr,Oc]
  by_cases e:f x=f a
  .have:=h a (by simp) e;subst this;simp
  .have b:x∈l:=(av.1 hx).resolve_left λd=>e (by rw[d]);rw[Zs b λy c=>h y (by simp[c])];simp[e]
section
variable{g:gi}(hg:gV g){l:List Pos}(hl:∀p∈l,iw g p)(hs:kU l)
include hg hl hs
theorem YS{i j:Int}(i0:0<=i)(a:i<l.length)(j0:0<=j)(j1:j<l.length)(h:oJ (gt l i)=oJ (gt l j)):i=j:=
 hs.inj i0 a j0 j1 (YT hg (hl _ (gy i0 a)) (hl _ (gy j0 j1)) h)
theorem ahz{i:Int}(i0:0<=i)(b:i<l.length):mu (vp l i.toNat) (.string (oJ (gt l i))) (.i i)=vp l (i+1).toNat:=by
 unfold vp;rw[Zv (f:=λj=>oJ (gt l j)) (λj a e=>?_),xA i0,List.map_append]
 .rfl
 .rw[jc]at a;have:=YS hg hl hs i0 b a.1 (by omega) e;omega
theorem Zr{q:Pos}(b:q∈l):rr (vp l l.length) (.string (oJ q))=some (.i (pO l q)):=by
 obtain⟨h0,h1,c⟩:=Gx b
 have:=Zs (f:=λj=>oJ (gt l j)) (v:=λj=>D.i j) (x:=pO l q) (l:=upto l.length) (jc.2 ⟨h0,h1⟩) (λy a e=>by
  rw[jc]at a
  exact(YS hg hl hs h0 h1 a.1 a.2 e).symm)
 rw[c]at this;exact this
end
attribute [local simp] anf
theorem f52(g:gi)(hg:gV g)(l:List Pos)(B:pa g l)(h0:0<l.length):Wf T 56 [dG g,gZ l] [] (Is (.tup [.sl 1 ((gC g l).map fN),.i 0])):=by
 have hl:=B.ok;have hs:=B.AN;have h9:=B.len;have hb:=hg.jJ.size;refine Yz Fz (iZ 87 [3] Fz.body) ?_;simp[Fz,iZ,kD,np,nz,nP,ma];refine Yc (f98 g hg) ?_;simp;(with_reducible repeat' first|refine Xk ?_<;>try simp|refine Xs ?_ ?_<;>intro h<;>(try intro E)<;>(try simp[h])<;>try omega|refine Xg ?_|omega);refine Yr (f99 g hg l hl (by omega)) ?_;simp;refine gd ?_;refine Yc (f100 l (by omega) (λp u=>(hl p u).small hg) hs) ?_;simp;refine gd ?_;refine gj.e (0:Int) (λy=>[(1,gZ l),(2,.ptr 0 0 0),(7,.gD 1),(37,gZ l),(38,.i l.length),(39,.i y)]) (λy=>[.row 43 0 g.cells,.map .str (vp l y.toNat)]) (λy=>0<=y/\y<=l.length) (λy=>(l.length-y).toNat) ?_ ?_
 .simp
 rintro i ⟨i0,P⟩
 by_cases hi:i<l.length
 .have u:=hl _ (gy i0 hi);have Ec:=u.size;simp[hi];refine gd ?_;refine Yc (f101 (gt l i) (by omega) (EA hg u)) ?_;simp;simp[ahz hg hl hs i0 hi];refine gd ?_;refine LJ.e (i+1) ?_;exact mI
 .have e:i=l.length:=by omega
  subst e;have Y:(gC g l).length=l.length:=by simp[gC]
  simp;refine gd ?_;refine gj.e (0:Int) (λy=>[(2,.ptr 0 0 0),(7,.gD 1),(10,.fY 2 0 1 0 l.length),(52,gZ l),(53,.i l.length),(54,.i y)]) (λy=>[.row 43 0 g.cells,.map .str (vp l l.length),.row 37 0 (cl fN ((gC g l).take y.toNat++List.replicate (l.length-y.toNat) []))]) (λy=>0<=y/\y<=l.length) (λy=>(l.length-y).toNat) ?_ ?_
  .simp
  rintro i ⟨i0,P⟩
  by_cases hi:i<l.length
  .have u:=hl _ (gy i0 hi);obtain⟨n1,n2⟩:=ru B i0 hi;have O:∀q∈iS g (gt l i),q∈l:=λq z=>B.cl _ (gy i0 hi) q (Ch.1 z);have XY:=Au hg u;simp[hi];refine gd ?_;refine Yc (f26 g hg (gt l i) u) ?_;simp
   have gX:cl fN ((gC g l).take i.toNat++List.replicate (l.length-i.toNat) [])=cl fN ((gC g l).take i.toNat) ++ .gg::cl fN (List.replicate (l.length-(i+1).toNat) []):=by
    have S:List.replicate (l.length-i.toNat) ([]:List Int) = []::List.replicate (l.length-(i+1).toNat) []:=by rw[<-bp];congr 1;omega
    rw[S,Ve]
   have N:(gC g l).take (i+1).toNat=(gC g l).take i.toNat ++ [gt (gC g l) i]:=jq i0 (by omega)
   have I:gt (gC g l) i = []->cl fN ((gC g l).take i.toNat) ++ .gg::cl fN (List.replicate (l.length-(i+1).toNat) [])=cl fN ((gC g l).take (i+1).toNat++List.replicate (l.length-(i+1).toNat) []):=λe=>by rw[Ve,N,e];simp
   have Z:gt (gC g l) i≠[]->cl fN ((gC g l).take i.toNat)++dI (gt (gC g l) i)::cl fN (List.replicate (l.length-(i+1).toNat) [])=cl fN ((gC g l).take (i+1).toNat++List.replicate (l.length-(i+1).toNat) []):=λe=>by rw[acs _ _ _ e,N];simp
   have s:(cl fN ((gC g l).take i.toNat)).length=i.toNat:=by rw[qJ,aK];omega
   have o:∀(ρ:Nat->Option Nat) (H:U) (k:Nat),(cl fN ((gC g l).take i.toNat)).map (gq ρ H k)=cl fN ((gC g l).take i.toNat):=λρ H k=>Cd (uJ _);have c:∀(ρ:Nat->Option Nat) (H:U) (k:Nat),(cl fN (List.replicate (l.length-(i+1).toNat) [])).map (gq ρ H k)=cl fN (List.replicate (l.length-(i+1).toNat) []):=λρ H k=>Cd (uJ _)
   have m:∀(q:Nat->Bool) (n:Nat),(List.map ((List.filter q) ∘ jv n) (cl fN ((gC g l).take i.toNat))).flatten = []:=λq n=>flatten_nil λa G=>by show List.filter q (jv n a) = [];rw[Pn n (mo (uJ _) a G)];rfl
   have f:∀(q:Nat->Bool) (n:Nat),(List.map ((List.filter q) ∘ jv n) (cl fN (List.replicate (l.length-(i+1).toNat) []))).flatten = []:=λq n=>flatten_nil λa G=>by show List.filter q (jv n a) = [];rw[Pn n (mo (uJ _) a G)];rfl
   have b:(gt (gC g l) i).length=(iS g (gt l i)).length:=by rw[n1,List.length_map]
   have M:∀j:Int,0<=j->j<(iS g (gt l i)).length->gt (gt (gC g l) i) j=pO l (gt (iS g (gt l i)) j):=λj j0 j1=>by rw[n1,jg j0 (by rw[List.length_map];exact j1),jg j0 j1,List.getElem_map]
   generalize cl fN ((gC g l).take i.toNat)=A at *;generalize Q:cl fN (List.replicate (l.length-(i+1).toNat) [])=R at *;have w:∀(d:D) (r:List D),(A++d::r)[i.toNat]? = some d:=λd r=>by rw[ai (by omega),s];simp
   have v:∀(d:D) (r:List D),(A++d::r).take i.toNat=A:=λd r=>by rw[aV (by omega),af (by omega)]
   have x:∀(d:D) (r:List D),(A++d::r).drop (i.toNat+1)=r:=λd r=>by rw[fm,bB (by omega),s];simp
   have V:∀(d:D),i.toNat<(A++d::R).length:=λd=>by simp;omega
   refine gj.e (0:Int) (λy=>[(2,.ptr 0 0 0),(7,.gD 1),(10,.fY 2 0 1 0 l.length),(11,.i i),(52,gZ l),(53,.i l.length),(54,.i i),(61,dN 5 Pos.cells (iS g (gt l i))),(62,.i (iS g (gt l i)).length),(63,.i y)]) (λy=>[.row 43 0 g.cells,.map .str (vp l l.length),.row 37 0 (A++(if y=0 then .gg else .fY 4 (y.toNat-1) 1 0 y.toNat)::R),.row 46 0 (gt l i).cells]++(if y=0 then []else [.row 3 (y.toNat-1) (cl f1 ((gt (gC g l) i).take y.toNat))])) (λy=>0<=y/\y<=(iS g (gt l i)).length) (λy=>((iS g (gt l i)).length-y).toNat) ?_ ?_
   .simp
   rintro k ⟨k0,k1⟩
   by_cases C:k<(iS g (gt l i)).length
   .have z:=O _ (gy k0 C);have K:=hl _ z;have NV:=K.size
    by_cases t:k=0
    .subst t;rw[if_pos rfl,if_pos rfl];simp[C];(with_reducible repeat' first|refine Xk ?_<;>try simp|refine Xs ?_ ?_<;>intro h<;>(try intro E)<;>(try simp[h])<;>try omega|refine Xg ?_|omega);refine Yc (f101 (gt (iS g (gt l i)) 0) (by omega) (EA hg K)) ?_;simp;simp[Zr hg hl hs z];refine gd ?_;simp[w,v,x,s,o,c,m,f,b];(with_reducible repeat' first|refine Xk ?_<;>try simp[w,v,x,s,o,c,m,f,b]|refine Xs ?_ ?_<;>intro h<;>(try intro E)<;>(try simp[h,w,v,x,s,o,c,m,f,b])<;>try omega|refine Xg ?_|omega)
     have t1:(gt (gC g l) i).take 1 = [pO l (gt (iS g (gt l i)) 0)]:=by have:=jq (l:=gt (gC g l) i) (n:=0) (by omega) (by omega);rw[M 0 (by omega) (by omega)]at this;exact this
     refine LJ.i (1:Int) (by first|rfl|simp[t1,iQ]) (by first|rfl|simp[t1,iQ]) rfl rfl ?_;exact mI
    .rw[if_neg t,if_neg t];simp[C];refine gd ?_;refine Yc (f101 (gt (iS g (gt l i)) k) (by omega) (EA hg K)) ?_;simp;simp[Zr hg hl hs z];refine gd ?_;simp[w,v,x,s,o,c,m,f,b];(with_reducible repeat' first|refine Xk ?_<;>try simp[w,v,x,s,o,c,m,f,b]|refine Xs ?_ ?_<;>intro h<;>(try intro E)<;>(try simp[h,w,v,x,s,o,c,m,f,b])<;>try omega|refine Xg ?_|omega)
     have t2:(gt (gC g l) i).take (k.toNat+1)=(gt (gC g l) i).take k.toNat ++ [pO l (gt (iS g (gt l i)) k)]:=by have:=jq (l:=gt (gC g l) i) (n:=k) (by omega) (by omega);rw[M k (by omega) (by omega),show(k+1).toNat=k.toNat+1 by omega]at this;exact this
     refine LJ.i (k+1) (by first|rfl|simp[show¬(k+1=0)by omega,show(k+1).toNat=k.toNat+1 by omega,show k.toNat-1+1=k.toNat by omega,t2,dW]) (by first|rfl|simp[show¬(k+1=0)by omega,show(k+1).toNat=k.toNat+1 by omega,show k.toNat-1+1=k.toNat by omega,t2,dW]) rfl rfl ?_;exact mI
   .by_cases t:k=0
    .have J:gt (gC g l) i = []:=ay.1 (by omega);have X:=I J;subst t;rw[if_pos rfl,if_pos rfl];simp[show¬ 0<(iS g (gt l i)).length by omega,o,c,m,f];refine FK o c m f ?_;exact LJ.i (i+1) rfl (by rw[<-X]) rfl rfl mI
    .have J:gt (gC g l) i≠[]:=λe=>by rw[e]at b;simp at b;omega
     have W:=Z J;have F:(gt (gC g l) i).take k.toNat=gt (gC g l) i:=af (by omega);rw[if_neg t,if_neg t];have L:k.toNat=(iS g (gt l i)).length:=by omega
     simp[C,o,c,m,f,b,F,L];(with_reducible repeat' first|refine Xk ?_<;>try simp[o,c,m,f,b,F,L]|refine Xs ?_ ?_<;>intro h<;>(try intro E)<;>(try simp[h,o,c,m,f,b,F,L])<;>try omega|refine Xg ?_|omega);exact LJ.i (i+1) rfl (by rw[<-W]) rfl rfl mI
  .have e:i=l.length:=by omega
   subst e;simp;rw[af (by omega),vu Y.symm]
