/- 24 -/
import Derived.Test.YtmehofoficaelaaGreatDoorP22
import Derived.Test.YtmehofoficaelaaGreatDoorP23
set_option linter.all false
open List renaming replicate→aE,filter→cc,length_map→cp,map_cons→di,length→List.l
open And renaming intro→bf
open Int renaming toNat→Int.n
namespace Go.Proofs.YtmehofoficaelaaGreatDoor
open Go Go.AL Classical
set_option maxRecDepth 10000
set_option maxHeartbeats 8000000
@[irreducible] def fN(x:List Int):List D:=[dN 1 f1 x]
theorem sC(x:List Int):fN x = [dN 1 f1 x]:=by unfold fN;rfl
instance:Fl fN 1:=⟨λx=>by rw[sC];rfl,λx=>by simp[sC,iB]⟩
def agB(a b:List (List Int))(x:List Int)(h:x≠[]):cl fN a++dI x::cl fN b=cl fN (a++x::b):=by
 rw[<-Da,oG,sC]
 cases x with
 | nil=>exact absurd rfl h
 | cons y r=>rfl
def ZG(a b:List (List Int)):cl fN a++D.gV::cl fN b=cl fN (a ++ []::b):=by rw[<-Da,oG,sC];rfl
def asp(n:Nat):aE n D.gV=cl fN (aE n []):=by rw[<-LL,sC];simp[dN]
def xJ(l:List Pos)(n:Nat):List (Value×D):=(upto n).map λj=>(.string (qk (gt l j)),.i j)
@[simp] theorem aE3(q:Nat->Bool)(n m:Nat)(l:List Pos):(List.map ((cc q) ∘ λx:Value×D=>jQ n x.2) (xJ l m)).flatten = []:=
 flatten_nil λa b=>by obtain⟨j,_,rfl⟩:=aj.1 b;rfl
@[simp] theorem aDR(ρ:Nat->Option Nat)(H:gQ)(m:Nat)(l:List Pos):(xJ l m).map (λx=>(x.1,ib ρ H 40 x.2))=xJ l m:=by rw[xJ,bC];exact au λj _=>gP
theorem adf{α:Type}{f:α->ByteArray}{v:α->D}{k:ByteArray}{d:D}:∀ {l:List α},(∀x∈l,k≠f x)->lF (l.map λx=>((.string (f x):Value),v x)) (.string k) d=(l.map λx=>((.string (f x):Value),v x)) ++ [(.string k,d)]
 | [],_=>by simp[lF]
 | a::l,h=>by rw[di,lF,RA,adf λx b=>h x (by simp[b])];simp[h a gP]
theorem ac9{α:Type}{f:α->ByteArray}{v:α->D}{x:α}:∀ {l:List α},x∈l->(∀y∈l,f x=f y->y=x)->oN (l.map λx=>((.string (f x):Value),v x)) (.string (f x))=some (v x)
 | a::l,hx,h=>by
  rw[di,oN,RA]
  by_cases e:f x=f a
  .have:=h a gP e;subst this;simp
  .have b:x∈l:=(ak.1 hx).resolve_left λe2=>e (by rw[e2]);rw[ac9 b λy c=>h y (by simp[c])];simp[e]
section
variable{g:gY}(hg:iE g){l:List Pos}(hl:∀p∈l,ja g p)(hs:mr l)
include hg hl hs
theorem acv{i j:Int}(i0:0<=i)(a:i<l.l)(j0:0<=j)(j1:j<l.l)(h:qk (gt l i)=qk (gt l j)):i=j:=
 hs.inj i0 a j0 j1 (acw hg (hl _ (ij i0 a)) (hl _ (ij j0 j1)) h)
theorem al9{i:Int}(i0:0<=i)(b:i<l.l):lF (xJ l i.n) (.string (qk (gt l i))) (.i i)=xJ l (i+1).n:=by
 unfold xJ;rw[adf (f:=λj=>qk (gt l j)) (λj a e=>?_),yz i0,List.map_append]
 .rfl
 .rw[l8]at a;have:=acv hg hl hs i0 b a.1 U e;omega
theorem ac8{q:Pos}(b:q∈l):oN (xJ l l.l) (.string (qk q))=some (.i (tH l q)):=by
 obtain⟨h0,h1,c⟩:=JE b
 have:=ac9 (f:=λj=>qk (gt l j)) (v:=λj=>D.i j) (x:=tH l q) (l:=upto l.l) (l8.2 ⟨h0,h1⟩) (λy a e=>by
  rw[l8]at a
  exact(acv hg hl hs h0 h1 a.1 a.2 e).symm)
 rw[c]at this;exact this
end
attribute [local simp] asp
def f52(g:gY)(hg:iE g)(l:List Pos)(v:qq g l)(h0:0<l.l):Wf T 56 [dG g,iZ l] [] (Is (.tup [.sl 1 ((iq g l).map fN),.i 0])):=by
 have hl:=v.ok;have hs:=v.AY;have h9:=v.len;have hb:=hg.kC.size;refine Yz IF (jY 87 [3] IF.body) ?_;simp[IF,jY,lV,po,py,pY,nQ];refine Yc (f98 g hg) ?_;simp;refine gU ?_;refine Yr (f99 g hg l hl U) ?_;simp;refine gU ?_;refine Yc (f100 l U (λp s=>(hl p s).small hg) hs) ?_;simp;refine gU ?_;refine gZ.e (0:Int) (λy=>[(1,iZ l),(2,.ptr 0 0 0),(7,.im 1),(37,iZ l),(38,.i l.l),(39,.i y)]) (λy=>[.row 43 0 g.cells,.map .str (xJ l y.n)]) (λy=>0<=y/\y<=l.l) (λy=>(l.l-y).n) ?_ ?_
 .simp
 rintro i ⟨i0,O⟩
 by_cases hi:i<l.l
 .have s:=hl _ (ij i0 hi);have GN:=s.size;simp[hi];refine gU ?_;refine Yc (f101 (gt l i) U (G9 hg s)) ?_;simp;simp[al9 hg hl hs i0 hi];refine gU ?_;refine LJ.e (i+1) ?_;exact nE
 .have e:i=l.l:=by omega
  subst e;have F:(iq g l).l=l.l:=by simp[iq]
  simp;refine gU ?_;refine gZ.e (0:Int) (λy=>[(2,.ptr 0 0 0),(7,.im 1),(10,.gR 2 0 1 0 l.l),(52,iZ l),(53,.i l.l),(54,.i y)]) (λy=>[.row 43 0 g.cells,.map .str (xJ l l.l),.row 37 0 (cl fN ((iq g l).take y.n++aE (l.l-y.n) []))]) (λy=>0<=y/\y<=l.l) (λy=>(l.l-y).n) ?_ ?_
  .simp
  rintro i ⟨i0,O⟩
  by_cases hi:i<l.l
  .have s:=hl _ (ij i0 hi);obtain⟨n1,n2⟩:=wI v i0 hi;have N:∀q∈kd g (gt l i),q∈l:=λq u=>v.cl _ (ij i0 hi) q (ED.1 u);have P:=Hm hg s;simp[hi];refine gU ?_;refine Yc (f26 g hg (gt l i) s) ?_;simp
   have Z:cl fN ((iq g l).take i.n++aE (l.l-i.n) [])=cl fN ((iq g l).take i.n) ++ .gV::cl fN (aE (l.l-(i+1).n) []):=by
    have S:aE (l.l-i.n) ([]:List Int) = []::aE (l.l-(i+1).n) []:=by rw[<-bL];congr 1;omega
    rw[S,ZG]
   have w:(iq g l).take (i+1).n=(iq g l).take i.n ++ [gt (iq g l) i]:=jP i0 U
   have G:gt (iq g l) i = []->cl fN ((iq g l).take i.n) ++ .gV::cl fN (aE (l.l-(i+1).n) [])=cl fN ((iq g l).take (i+1).n++aE (l.l-(i+1).n) []):=λe=>by rw[ZG,w,e];simp
   have Y:gt (iq g l) i≠[]->cl fN ((iq g l).take i.n)++dI (gt (iq g l) i)::cl fN (aE (l.l-(i+1).n) [])=cl fN ((iq g l).take (i+1).n++aE (l.l-(i+1).n) []):=λe=>by rw[agB _ _ _ e,w];simp
   have t:(cl fN ((iq g l).take i.n)).l=i.n:=by rw[ue,aM];omega
   have b:∀(ρ:Nat->Option Nat) (H:gQ) (k:Nat),(cl fN ((iq g l).take i.n)).map (ib ρ H k)=cl fN ((iq g l).take i.n):=λρ H k=>Ew (uR _);have c:∀(ρ:Nat->Option Nat) (H:gQ) (k:Nat),(cl fN (aE (l.l-(i+1).n) [])).map (ib ρ H k)=cl fN (aE (l.l-(i+1).n) []):=λρ H k=>Ew (uR _)
   have h:∀(q:Nat->Bool) (n:Nat),(List.map ((cc q) ∘ jQ n) (cl fN ((iq g l).take i.n))).flatten = []:=λq n=>flatten_nil λa E=>by show cc q (jQ n a) = [];rw[SP n (nP (uR _) a E)];rfl
   have f:∀(q:Nat->Bool) (n:Nat),(List.map ((cc q) ∘ jQ n) (cl fN (aE (l.l-(i+1).n) []))).flatten = []:=λq n=>flatten_nil λa E=>by show cc q (jQ n a) = [];rw[SP n (nP (uR _) a E)];rfl
   have m:(gt (iq g l) i).l=(kd g (gt l i)).l:=by rw[n1,cp]
   have L:∀j:Int,0<=j->j<(kd g (gt l i)).l->gt (gt (iq g l) i) j=tH l (gt (kd g (gt l i)) j):=λj j0 j1=>by rw[n1,jU j0 (by rw[cp];exact j1),jU j0 j1,br]
   generalize cl fN ((iq g l).take i.n)=A at *;generalize Q:cl fN (aE (l.l-(i+1).n) [])=R at *;have B:∀(d:D) (r:List D),(A++d::r)[i.n]? = some d:=λd r=>by rw[ao U,t];simp
   have z:∀(d:D) (r:List D),(A++d::r).take i.n=A:=λd r=>by rw[aV U,af U]
   have C:∀(d:D) (r:List D),(A++d::r).drop (i.n+1)=r:=λd r=>by rw[gg,bE U,t];simp
   have V:∀(d:D),i.n<(A++d::R).l:=λd=>iz;refine gZ.e (0:Int) (λy=>[(2,.ptr 0 0 0),(7,.im 1),(10,.gR 2 0 1 0 l.l),(11,.i i),(52,iZ l),(53,.i l.l),(54,.i i),(61,dN 5 Pos.cells (kd g (gt l i))),(62,.i (kd g (gt l i)).l),(63,.i y)]) (λy=>[.row 43 0 g.cells,.map .str (xJ l l.l),.row 37 0 (A++(if y=0 then .gV else .gR 4 (y.n-1) 1 0 y.n)::R),.row 46 0 (gt l i).cells]++(if y=0 then []else [.row 3 (y.n-1) (cl f1 ((gt (iq g l) i).take y.n))])) (λy=>0<=y/\y<=(kd g (gt l i)).l) (λy=>((kd g (gt l i)).l-y).n) ?_ ?_
   .simp
   rintro k ⟨k0,k1⟩
   by_cases x:k<(kd g (gt l i)).l
   .have u:=N _ (ij k0 x);have J:=hl _ u;have Ri:=J.size
    by_cases o:k=0
    .subst o;rw[if_pos rfl,if_pos rfl];simp[x];refine gU ?_;refine Yc (f101 (gt (kd g (gt l i)) 0) U (G9 hg J)) ?_;simp;simp[ac8 hg hl hs u];refine gU ?_;simp[B,z,C,t,b,c,h,f,m];refine kf (bf B (bf z C)) (bf t (bf b c)) (bf h (bf f m)) ?_
     have t1:(gt (iq g l) i).take 1 = [tH l (gt (kd g (gt l i)) 0)]:=by have:=jP (l:=gt (iq g l) i) (n:=0) U U;rw[L 0 U U]at this;exact this
     refine LJ.i (1:Int) (by first|rfl|simp[t1,jw]) (by first|rfl|simp[t1,jw]) rfl rfl ?_;exact nE
    .rw[if_neg o,if_neg o];simp[x];refine gU ?_;refine Yc (f101 (gt (kd g (gt l i)) k) U (G9 hg J)) ?_;simp;simp[ac8 hg hl hs u];refine gU ?_;simp[B,z,C,t,b,c,h,f,m];refine kf (bf B (bf z C)) (bf t (bf b c)) (bf h (bf f m)) ?_
     have t2:(gt (iq g l) i).take (k.n+1)=(gt (iq g l) i).take k.n ++ [tH l (gt (kd g (gt l i)) k)]:=by have:=jP (l:=gt (iq g l) i) (n:=k) U U;rw[L k U U,(U:(k+1).n=k.n+1)]at this;exact this
     refine LJ.i (k+1) (by first|rfl|simp[(U:¬(k+1=0)),(U:(k+1).n=k.n+1),(U:k.n-1+1=k.n),t2,dH]) (by first|rfl|simp[(U:¬(k+1=0)),(U:(k+1).n=k.n+1),(U:k.n-1+1=k.n),t2,dH]) rfl rfl ?_;exact nE
   .by_cases o:k=0
    .have I:gt (iq g l) i = []:=aA.1 U;have X:=G I;subst o;rw[if_pos rfl,if_pos rfl];simp[(U:¬ 0<(kd g (gt l i)).l),b,c,h,f];refine pM b c h f ?_;exact LJ.i (i+1) rfl (by rw[<-X]) rfl rfl nE
    .have I:gt (iq g l) i≠[]:=λe=>by rw[e]at m;simp at m;omega
     have W:=Y I;have K:(gt (iq g l) i).take k.n=gt (iq g l) i:=af U;rw[if_neg o,if_neg o];have M:k.n=(kd g (gt l i)).l:=U;simp[x,b,c,h,f,m,K,M];refine pM (bf b c) (bf h f) (bf m K) M ?_;exact LJ.i (i+1) rfl (by rw[<-W]) rfl rfl nE
  .have e:i=l.l:=by omega
   subst e;simp;rw[af U,uX F.symm]
