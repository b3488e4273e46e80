/- Part 24 of DisputeHonest. -/
import Derived.Test.YtmehofoficaelaaGreatDoorH22
import Derived.Test.YtmehofoficaelaaGreatDoorH23
set_option linter.all false
namespace Go.Proofs.YtmehofoficaelaaGreatDoor
open Go Go.AL Classical
set_option maxRecDepth 10000
set_option maxHeartbeats 8000000
@[irreducible] def fN(x:List Int):List D:=[dN 1 f1 x]
theorem xS(x:List Int):fN x = [dN 1 f1 x]:=by unfold fN;rfl
instance:Fl fN 1:=⟨λx=>by rw[xS];rfl,λx=>by simp[xS,fR]⟩
theorem Zx(a b:List (List Int))(x:List Int)(h:x≠[]):cl fN a++dI x::cl fN b=cl fN (a++x::b):=by
 rw[<-Bw,mm,xS]
 cases x with
 | nil=>exact absurd rfl h
 | cons y r=>rfl
theorem SC(a b:List (List Int)):cl fN a++D.fw::cl fN b=cl fN (a ++ []::b):=by rw[<-Bw,mm,xS];rfl
theorem ajD(n:Nat):List.replicate n D.fw=cl fN (List.replicate n []):=by rw[<-F4,xS];simp[dN]
def tQ(l:List Pos)(n:Nat):List (Value×D):=(upto n).map λj=>(.string (np (gt l j)),.i j)
@[simp] theorem avY(q:Nat->Bool)(n m:Nat)(l:List Pos):(List.map ((List.filter q) ∘ λx:Value×D=>iH n x.2) (tQ l m)).flatten = []:=
 flatten_nil λa b=>by obtain⟨j,_,rfl⟩:=au.1 b;rfl
@[simp] theorem auL(ρ:Nat->Option Nat)(H:U)(m:Nat)(l:List Pos):(tQ l m).map (λx=>(x.1,fy ρ H 40 x.2))=tQ l m:=by rw[tQ,cD];exact ao λj _=>by simp
theorem Wj{α:Type}{f:α->ByteArray}{v:α->D}{k:ByteArray}{d:D}:∀ {l:List α},(∀x∈l,k≠f x)->lI (l.map λx=>((.string (f x):Value),v x)) (.string k) d=(l.map λx=>((.string (f x):Value),v x)) ++ [(.string k,d)]
 | [],_=>by simp[lI]
 | a::l,h=>by rw[List.map_cons,lI,Lx,Wj λx b=>h x (by simp[b])];simp[h a (by simp)]
theorem Wg{α:Type}{f:α->ByteArray}{v:α->D}{x:α}:∀ {l:List α},x∈l->(∀y∈l,f x=f y->y=x)->pG (l.map λx=>((.string (f x):Value),v x)) (.string (f x))=some (v x)
 | a::l,hx,h=>by
  rw[List.map_cons,pG,Lx]
  by_cases e:f x=f a
  .have:=h a (by simp) e;subst this;simp
  .have b:x∈l:=(aw.1 hx).resolve_left λd=>e (by rw[d]);rw[Wg b λy c=>h y (by simp[c])];simp[e]
section
variable{g:fu}(hg:gu g){l:List Pos}(hl:∀p∈l,gJ g p)(hs:kd l)
include hg hl hs
theorem VM{i j:Int}(i0:0<=i)(a:i<l.length)(j0:0<=j)(j1:j<l.length)(h:np (gt l i)=np (gt l j)):i=j:=
 hs.inj i0 a j0 j1 (VN hg (hl _ (fM i0 a)) (hl _ (fM j0 j1)) h)
theorem aeh{i:Int}(i0:0<=i)(b:i<l.length):lI (tQ l i.toNat) (.string (np (gt l i))) (.i i)=tQ l (i+1).toNat:=by
 unfold tQ;rw[Wj (f:=λj=>np (gt l j)) (λj a e=>?_),vH i0,List.map_append]
 .rfl
 .rw[js]at a;have:=VM hg hl hs i0 b a.1 (by omega) e;omega
theorem We{q:Pos}(b:q∈l):pG (tQ l l.length) (.string (np q))=some (.i (oH l q)):=by
 obtain⟨h0,h1,c⟩:=Eb b
 have:=Wg (f:=λj=>np (gt l j)) (v:=λj=>D.i j) (x:=oH l q) (l:=upto l.length) (js.2 ⟨h0,h1⟩) (λy a e=>by
  rw[js]at a
  exact(VM hg hl hs h0 h1 a.1 a.2 e).symm)
 rw[c]at this;exact this
end
attribute [local simp] ajD
theorem f52(g:fu)(hg:gu g)(l:List Pos)(B:oC g l)(h0:0<l.length):Wf T 56 [dG g,gC l] [] (Is (.tup [.sl 1 ((fQ g l).map fN),.i 0])):=by
 have hl:=B.ok;have hs:=B.yS;have h9:=B.len;have hb:=hg.jb.size;refine Yz Dk (ik 87 [3] Dk.body) ?_;simp[Dk,ik,jG,me,mg,mq,kQ];refine Yc (f98 g hg) ?_;simp;(with_reducible repeat' first|refine Xk ?_<;>try simp|refine Xs ?_ ?_<;>intro h<;>(try intro E)<;>(try simp[h])<;>try omega|refine Xg ?_|omega);refine Yr (f99 g hg l hl (by omega)) ?_;simp;refine fo ?_;refine Yc (f100 l (by omega) (λp u=>(hl p u).small hg) hs) ?_;simp;refine fo ?_;refine fE.e (0:Int) (λy=>[(1,gC l),(2,.ptr 0 0 0),(7,.fV 1),(37,gC l),(38,.i l.length),(39,.i y)]) (λy=>[.row 43 0 g.cells,.map .str (tQ l y.toNat)]) (λy=>0<=y/\y<=l.length) (λy=>(l.length-y).toNat) ?_ ?_
 .simp
 rintro i ⟨i0,P⟩
 by_cases hi:i<l.length
 .have u:=hl _ (fM i0 hi);have Lf:=u.size;simp[hi];refine fo ?_;refine Yc (f101 (gt l i) (by omega) (Cr hg u)) ?_;simp;simp[aeh hg hl hs i0 hi];refine fo ?_;refine LJ.e (i+1) ?_;exact mb
 .have e:i=l.length:=by omega
  subst e;have Y:(fQ g l).length=l.length:=by simp[fQ]
  simp;refine fo ?_;refine fE.e (0:Int) (λy=>[(2,.ptr 0 0 0),(7,.fV 1),(10,.fm 2 0 1 0 l.length),(52,gC l),(53,.i l.length),(54,.i y)]) (λy=>[.row 43 0 g.cells,.map .str (tQ l l.length),.row 37 0 (cl fN ((fQ g l).take y.toNat++List.replicate (l.length-y.toNat) []))]) (λy=>0<=y/\y<=l.length) (λy=>(l.length-y).toNat) ?_ ?_
  .simp
  rintro i ⟨i0,P⟩
  by_cases hi:i<l.length
  .have u:=hl _ (fM i0 hi);obtain⟨n1,n2⟩:=qy B i0 hi;have O:∀q∈ic g (gt l i),q∈l:=λq z=>B.cl _ (fM i0 hi) q (Ax.1 z);have U4:=Aw hg u;simp[hi];refine fo ?_;refine Yc (f26 g hg (gt l i) u) ?_;simp
   have gv:cl fN ((fQ g l).take i.toNat++List.replicate (l.length-i.toNat) [])=cl fN ((fQ g l).take i.toNat) ++ .fw::cl fN (List.replicate (l.length-(i+1).toNat) []):=by
    have S:List.replicate (l.length-i.toNat) ([]:List Int) = []::List.replicate (l.length-(i+1).toNat) []:=by rw[<-bt];congr 1;omega
    rw[S,SC]
   have N:(fQ g l).take (i+1).toNat=(fQ g l).take i.toNat ++ [gt (fQ g l) i]:=iD i0 (by omega)
   have I:gt (fQ g l) i = []->cl fN ((fQ g l).take i.toNat) ++ .fw::cl fN (List.replicate (l.length-(i+1).toNat) [])=cl fN ((fQ g l).take (i+1).toNat++List.replicate (l.length-(i+1).toNat) []):=λe=>by rw[SC,N,e];simp
   have Z:gt (fQ g l) i≠[]->cl fN ((fQ g l).take i.toNat)++dI (gt (fQ g l) i)::cl fN (List.replicate (l.length-(i+1).toNat) [])=cl fN ((fQ g l).take (i+1).toNat++List.replicate (l.length-(i+1).toNat) []):=λe=>by rw[Zx _ _ _ e,N];simp
   have s:(cl fN ((fQ g l).take i.toNat)).length=i.toNat:=by rw[s5,aK];omega
   have o:∀(ρ:Nat->Option Nat) (H:U) (k:Nat),(cl fN ((fQ g l).take i.toNat)).map (fy ρ H k)=cl fN ((fQ g l).take i.toNat):=λρ H k=>Au (tL _);have b:∀(ρ:Nat->Option Nat) (H:U) (k:Nat),(cl fN (List.replicate (l.length-(i+1).toNat) [])).map (fy ρ H k)=cl fN (List.replicate (l.length-(i+1).toNat) []):=λρ H k=>Au (tL _)
   have f:∀(q:Nat->Bool) (n:Nat),(List.map ((List.filter q) ∘ iH n) (cl fN ((fQ g l).take i.toNat))).flatten = []:=λq n=>flatten_nil λa G=>by show List.filter q (iH n a) = [];rw[MF n (lD (tL _) a G)];rfl
   have c:∀(q:Nat->Bool) (n:Nat),(List.map ((List.filter q) ∘ iH n) (cl fN (List.replicate (l.length-(i+1).toNat) []))).flatten = []:=λq n=>flatten_nil λa G=>by show List.filter q (iH n a) = [];rw[MF n (lD (tL _) a G)];rfl
   have m:(gt (fQ g l) i).length=(ic g (gt l i)).length:=by rw[n1,List.length_map]
   have M:∀j:Int,0<=j->j<(ic g (gt l i)).length->gt (gt (fQ g l) i) j=oH l (gt (ic g (gt l i)) j):=λj j0 j1=>by rw[n1,jh j0 (by rw[List.length_map];exact j1),jh j0 j1,List.getElem_map]
   generalize cl fN ((fQ g l).take i.toNat)=A at *;generalize Q:cl fN (List.replicate (l.length-(i+1).toNat) [])=R at *;have w:∀(d:D) (r:List D),(A++d::r)[i.toNat]? = some d:=λd r=>by rw[ai (by omega),s];simp
   have v:∀(d:D) (r:List D),(A++d::r).take i.toNat=A:=λd r=>by rw[aT (by omega),af (by omega)]
   have x:∀(d:D) (r:List D),(A++d::r).drop (i.toNat+1)=r:=λd r=>by rw[List.drop_append,bn (by omega),s];simp
   have V:∀(d:D),i.toNat<(A++d::R).length:=λd=>by simp;omega
   refine fE.e (0:Int) (λy=>[(2,.ptr 0 0 0),(7,.fV 1),(10,.fm 2 0 1 0 l.length),(11,.i i),(52,gC l),(53,.i l.length),(54,.i i),(61,dN 5 Pos.cells (ic g (gt l i))),(62,.i (ic g (gt l i)).length),(63,.i y)]) (λy=>[.row 43 0 g.cells,.map .str (tQ l l.length),.row 37 0 (A++(if y=0 then .fw else .fm 4 (y.toNat-1) 1 0 y.toNat)::R),.row 46 0 (gt l i).cells]++(if y=0 then []else [.row 3 (y.toNat-1) (cl f1 ((gt (fQ g l) i).take y.toNat))])) (λy=>0<=y/\y<=(ic g (gt l i)).length) (λy=>((ic g (gt l i)).length-y).toNat) ?_ ?_
   .simp
   rintro k ⟨k0,k1⟩
   by_cases C:k<(ic g (gt l i)).length
   .have z:=O _ (fM k0 C);have K:=hl _ z;have Lh:=K.size
    by_cases t:k=0
    .subst t;rw[if_pos rfl,if_pos rfl];simp[C];(with_reducible repeat' first|refine Xk ?_<;>try simp|refine Xs ?_ ?_<;>intro h<;>(try intro E)<;>(try simp[h])<;>try omega|refine Xg ?_|omega);refine Yc (f101 (gt (ic g (gt l i)) 0) (by omega) (Cr hg K)) ?_;simp;simp[We hg hl hs z];refine fo ?_;simp[w,v,x,s,o,b,f,c,m];(with_reducible repeat' first|refine Xk ?_<;>try simp[w,v,x,s,o,b,f,c,m]|refine Xs ?_ ?_<;>intro h<;>(try intro E)<;>(try simp[h,w,v,x,s,o,b,f,c,m])<;>try omega|refine Xg ?_|omega)
     have t1:(gt (fQ g l) i).take 1 = [oH l (gt (ic g (gt l i)) 0)]:=by have:=iD (l:=gt (fQ g l) i) (n:=0) (by omega) (by omega);rw[M 0 (by omega) (by omega)]at this;exact this
     refine LJ.i (1:Int) (by first|rfl|simp[t1,iF]) (by first|rfl|simp[t1,iF]) rfl rfl ?_;exact mb
    .rw[if_neg t,if_neg t];simp[C];refine fo ?_;refine Yc (f101 (gt (ic g (gt l i)) k) (by omega) (Cr hg K)) ?_;simp;simp[We hg hl hs z];refine fo ?_;simp[w,v,x,s,o,b,f,c,m];(with_reducible repeat' first|refine Xk ?_<;>try simp[w,v,x,s,o,b,f,c,m]|refine Xs ?_ ?_<;>intro h<;>(try intro E)<;>(try simp[h,w,v,x,s,o,b,f,c,m])<;>try omega|refine Xg ?_|omega)
     have t2:(gt (fQ g l) i).take (k.toNat+1)=(gt (fQ g l) i).take k.toNat ++ [oH l (gt (ic g (gt l i)) k)]:=by have:=iD (l:=gt (fQ g l) i) (n:=k) (by omega) (by omega);rw[M k (by omega) (by omega),show(k+1).toNat=k.toNat+1 by omega]at this;exact this
     refine LJ.i (k+1) (by first|rfl|simp[show¬(k+1=0)by omega,show(k+1).toNat=k.toNat+1 by omega,show k.toNat-1+1=k.toNat by omega,t2,dz]) (by first|rfl|simp[show¬(k+1=0)by omega,show(k+1).toNat=k.toNat+1 by omega,show k.toNat-1+1=k.toNat by omega,t2,dz]) rfl rfl ?_;exact mb
   .by_cases t:k=0
    .have J:gt (fQ g l) i = []:=az.1 (by omega);have X:=I J;subst t;rw[if_pos rfl,if_pos rfl];simp[show¬ 0<(ic g (gt l i)).length by omega,o,b,f,c];refine Bl o b f c ?_;exact LJ.i (i+1) rfl (by rw[<-X]) rfl rfl mb
    .have J:gt (fQ g l) i≠[]:=λe=>by rw[e]at m;simp at m;omega
     have W:=Z J;have F:(gt (fQ g l) i).take k.toNat=gt (fQ g l) i:=af (by omega);rw[if_neg t,if_neg t];have L:k.toNat=(ic g (gt l i)).length:=by omega
     simp[C,o,b,f,c,m,F,L];(with_reducible repeat' first|refine Xk ?_<;>try simp[o,b,f,c,m,F,L]|refine Xs ?_ ?_<;>intro h<;>(try intro E)<;>(try simp[h,o,b,f,c,m,F,L])<;>try omega|refine Xg ?_|omega);exact LJ.i (i+1) rfl (by rw[<-W]) rfl rfl mb
  .have e:i=l.length:=by omega
   subst e;simp;rw[af (by omega),tS Y.symm]
