/- Part 18 of DisputeHonest. -/
import Derived.Test.YtmehofoficaelaaGreatDoorH17
set_option linter.all false
namespace Go.AL
open Go
theorem Wf.sort{T:gO}{f g:FuncId}{fn:iE}{sz v gen t:Nat}{H:U}{K:D->U->Prop}{α:Type}{fc:α->List D}[F:Fl fc sz](l:List α)(b:α->α->Int)(hs:T.sort f=some sz)(hg:T.fn g=some fn)(h0:0<l.length)(hl:l.length<2 ^ 40)
  (q:∀x,b x x=0) (tr:∀x y z,b x y<0->b y z<0->b x z<0) (h:∀x y z,¬b x y<0->¬b y z<0->¬b x z<0) (p:∀x∈l,∀y∈l,Wf T g [.agg (fc x),.agg (fc y)] [] (Is (.i (b x y)))) (n:H[v]? = some (.row t gen (cl fc l)))
  (k:∀c:List α,c.Perm l->c.Pairwise (λx y=>¬b y x<0)->K (.tup []) (H.set v (.row t gen (cl fc c)))):Wf T f [.fm v gen sz 0 l.length,.fn (.func g) [] []] H K:=
 Ev.sort fc l b hs hg (λa _=>F.len a) (λa _=>F.cl a) h0 (by omega) (λx _=>by rw[q];decide) (λx _ y _ z _=>tr x y z) (λx _ y _ z _=>h x y z)
  (λx j y i=>Ev.mono (p x j y i) λr ⟨d,H',e,h1,_⟩=>⟨H',by rw[e,h1]⟩) (by rw[n,na]) λc o m=>⟨_,_,rfl,by rw[<-na];exact k c o m⟩
theorem Wf.CU{T:gO}{f:FuncId}{sz:Nat}{x:D}{H:U}{K:D->U->Prop}(hs:T.sort f=some sz)(k:K (.tup []) H):Wf T f [.fw,x] H K:=Ev.CU hs ⟨_,_,rfl,k⟩
section
variable{α:Type}[DecidableEq α]
def lg:List α->List α
 | []=>[]
 | [a]=>[a]
 | a::b::t=>if b=a then lg (b::t)else a::lg (b::t)
theorem J3:∀(t:List α) (a:α),lg (a::t)=a::(lg (a::t)).tail
 | [],a=>rfl
 | b::t,a=>by
  unfold lg;split
  .rename_i h;subst h;exact J3 t b
  .rfl
theorem DU{x:α}:∀ {l:List α},x∈lg l↔x∈l
 | []=>dS
 | [a]=>dS
 | a::b::t=>by
  unfold lg;split
  .rename_i h;subst h;rw[DU (l:=b::t)];simp
  .rw[aw,DU (l:=b::t),aw (a:=x) (b:=a)]
theorem SQ:∀l:List α,(lg l).length<=l.length
 | []=>Nat.le_refl _
 | [a]=>Nat.le_refl _
 | a::b::t=>by
  have:=SQ (b::t);unfold lg;split
  .exact Nat.le_succ_of_le this
  .simp only[aG]at *;omega
theorem ZU{l:List α}(h:0<l.length):0<(lg l).length:=by
 cases l with
 | nil=>simp at h
 | cons a t=>rw[J3];simp
theorem ZT{l:List α}:lg l = []↔l = []:=by
 constructor
 .intro h;rcases eu l.length with a|a
  .exact az.1 a
  .have:=ZU a;rw[h]at this;simp at this
 .rintro rfl;rfl
theorem SR{l:List α}(h:l.length<2):lg l=l:=by
 match l,h with
 | [],_=>rfl
 | [a],_=>rfl
 | a::b::t,h=>simp at h;omega
def pL(l:List α)(m:Int):List α:=(lg (l.drop (m-1).toNat)).tail
variable [Inhabited α]{l:List α}{m:Int}
theorem X4(h:0<l.length):lg l=l.take 1++pL l 1:=by
 cases l with
 | nil=>simp at h
 | cons a t=>exact J3 t a
theorem My(h:m=l.length)(h0:1<=m):pL l m = []:=by unfold pL;rw[mP (by omega) (by omega),bJ (by omega)];rfl
theorem Mz(h0:1<=m)(h:m<l.length)(e:gt l m=gt l (m-1)):pL l m=pL l (m+1):=by unfold pL;rw[mP (n:=m-1) (by omega) (by omega),show(m-1).toNat+1=m.toNat by omega,mP (n:=m) (by omega) h,lg,if_pos e,dw,mP (n:=m) (by omega) h]
theorem MA(h0:1<=m)(h:m<l.length)(e:gt l m≠gt l (m-1)):pL l m=gt l m::pL l (m+1):=by unfold pL;rw[mP (n:=m-1) (by omega) (by omega),show(m-1).toNat+1=m.toNat by omega,mP (n:=m) (by omega) h,lg,if_neg e,dw,mP (n:=m) (by omega) h];exact J3 _ _
end
theorem Nh:∀ {l:List Pos},l.Pairwise (λx y=>gP x y<=0)->(lg l).Pairwise λx y=>gP x y<0
 | [],_=>.nil
 | [a],_=>by simp[lg]
 | a::b::t,h=>by
  have h1:=a8.1 h;have g:=a8.1 h1.2;unfold lg;split
  .exact Nh h1.2
  .rename_i d;refine a8.2 ⟨λx c=>?_,Nh h1.2⟩;rw[DU]at c;have m:=h1.1 x c
   by_cases f:gP a x=0
   .have e:=pU.1 f;subst e;rcases aw.1 c with e|c
    .exact absurd e.symm d
    .have k:=g.1 _ c;have j:=h1.1 b (by simp);have i:=tO a b;exact absurd (pU.1 (show gP a b=0 by omega)).symm d
   .omega
theorem ZV{l a:List Pos}(c:a.Perm l)(b:a.Pairwise λx y=>¬gP y x<0):lg a=jR l:=
 XW (kd.of (Nh (b.imp λ{x y} h=>by have:=tO x y;omega))) λq=>by rw[DU,c.mem_iff]
theorem ZN(x y z:Pos)(h1:¬gP x y<0)(d:¬gP y z<0):¬gP x z<0:=by have a:=tO x y;have b:=tO y z;have c:=tO x z;have:=SM (p:=z) (q:=y) (r:=x) (by omega) (by omega);omega
def b2(b:Bool):Int:=if b then 1 else 0
def pT(a b:gh):Int:=mo [gP a.p b.p,ka (b2 a.je) (b2 b.je)]
theorem YX{a b:Bool}(h:b2 a=b2 b):a=b:=by revert h;cases a<;>cases b<;>simp[b2]
theorem J2{a b:gh}:pT a b=0↔a=b:=by
 unfold pT;rw[NO];simp only[aw,dM,or_false,forall_eq_or_imp,forall_eq,pU,w7];constructor
 .rintro⟨h1,c⟩;have:=YX c;cases a;cases b;simp_all
 .rintro rfl;exact⟨rfl,rfl⟩
theorem Nf(a b:gh):pT b a = - pT a b:=by unfold pT mo;rw[tO a.p b.p,LQ (b2 a.je)];simp only[mo];(repeat' split)<;>omega
theorem SL(x y z:gh):pT x y<0->pT y z<0->pT x z<0:=by unfold pT;refine zw (λh=>by rw[pU.1 h]) (λh=>by rw[pU.1 h]) xM (zw (λh=>by rw[w7.1 h]) (λh=>by rw[w7.1 h]) (by simp only[CA];omega) λh=>?_);simp[mo]at h
theorem ZM(x y z:gh)(h1:¬pT x y<0)(d:¬pT y z<0):¬pT x z<0:=by
 have a:=Nf x y;have b:=Nf y z;have c:=Nf x z
 by_cases f:pT x y=0
 .rw[J2.1 f];exact d
 .by_cases e:pT y z=0
  .rw[<-J2.1 e];exact h1
  .have:=SL z y x (by omega) (by omega);omega
theorem Sv{sz:Nat}:∀(n:Nat) (a b:List D),a.length=n*sz->chunks sz n (a++b)=chunks sz n a
 | 0,_,_,_=>rfl
 | n+1,a,b,h=>by rw[bZ]at h;simp only[chunks];rw[aT (by omega),dY (by omega),Sv n (a.drop sz) b (by simp;omega)]
@[simp] theorem aqc{α:Type}{f:α->List D}{sz:Nat}[F:Fl f sz]{ρ:Nat->Option Nat}{H:U}{k n:Nat}{t:TypeId}{l:List α}{b:List D}(h:n=l.length):l6 ρ H (k+1) sz 0 n (some (t,cl f l++b)) = .sl sz (l.map f):=by subst h;unfold l6;dsimp only;rw[ar,s5,aL,if_pos (by omega),cI,e7,List.map_append,QN (tL l),Sv _ _ _ (by simp),na,Nc F.len]
@[irreducible] def KM{α:Type}[Inhabited α](l:List α)(n:Nat):α:=gt l (n:Int)
theorem BL{α:Type}[Inhabited α]{l:List α}{n:Nat}{m:Int}(h:(n:Int)=m):KM l n=gt l m:=by unfold KM;rw[h]
@[simp] theorem arA{α:Type}[Inhabited α]{f:α->List D}{sz:Nat}[F:Fl f sz]{l:List α}{t:TypeId}{n:Nat}(a:0<sz):tm sz (n*sz) (some (t,cl f l))=if n<l.length then some (.agg (f (KM l n)))else none:=by have:=adN (f:=f) (l:=l) (t:=t) (n:=(n:Int)) a;rw[b9]at this;rw[this];unfold KM;rfl
@[simp] theorem apw(sz v g off len:Nat)(z:List D)(H:U):DR sz z (.fm v g sz off len) H=(rowAt H v g).bind λp=>if (off+len)*sz<=p.2.length then some (.any,.obj v (.row p.1 g (p.2.take (off*sz)++(List.replicate len z).flatten++p.2.drop ((off+len)*sz))))else none:=by simp only[DR];cases rowAt H v g<;>simp
theorem X5{α:Type}{l:List α}{n:Int}{v:α}(h0:0<=n)(h:n<l.length):(pt l n v).take (n+1).toNat=l.take n.toNat ++ [v]:=by
 have e:(l.take n.toNat).length=n.toNat:=by rw[aK];omega
 rw[pt,List.take_append,e,show(n+1).toNat-n.toNat=1 by omega,af (by omega)];rfl
end Go.AL
namespace Go.Proofs.YtmehofoficaelaaGreatDoor
open Go Go.AL Classical
set_option maxRecDepth 10000
set_option maxHeartbeats 4000000
theorem f124(a b:gh)(d:Small a.p)(c:Small b.p):Wf T 262 [.agg a.cells,.agg b.cells] [] (Is (.i (pT a b))):=by
 obtain⟨p,u⟩:=a;obtain⟨q,v⟩:=b;cases u<;>cases v
 .refine Yg uP ?_;simp[uP,gh.cells];refine iy.c rfl rfl (f88 p q d c) (by simp) (by simp) ?_;simp;refine iy.c rfl rfl (f131 _ _) (by simp) (by simp) ?_;simp;refine iy.r rfl rfl (f129 [gP p q,ka 0 0] (by simp)) (by simp) (by simp[flat]) (by simp) ?_;simp;rfl
 .refine Yg uP ?_;simp[uP,gh.cells];refine iy.c rfl rfl (f88 p q d c) (by simp) (by simp) ?_;simp;refine iy.c rfl rfl (f131 _ _) (by simp) (by simp) ?_;simp;refine iy.r rfl rfl (f129 [gP p q,ka 0 1] (by simp)) (by simp) (by simp[flat]) (by simp) ?_;simp;rfl
 .refine Yg uP ?_;simp[uP,gh.cells];refine iy.c rfl rfl (f88 p q d c) (by simp) (by simp) ?_;simp;refine iy.c rfl rfl (f131 _ _) (by simp) (by simp) ?_;simp;refine iy.r rfl rfl (f129 [gP p q,ka 1 0] (by simp)) (by simp) (by simp[flat]) (by simp) ?_;simp;rfl
 .refine Yg uP ?_;simp[uP,gh.cells];refine iy.c rfl rfl (f88 p q d c) (by simp) (by simp) ?_;simp;refine iy.c rfl rfl (f131 _ _) (by simp) (by simp) ?_;simp;refine iy.r rfl rfl (f129 [gP p q,ka 1 1] (by simp)) (by simp) (by simp[flat]) (by simp) ?_;simp;rfl
theorem f126(a b:gh)(d:Small a.p)(c:Small b.p):Wf T 264 [.agg a.cells,.agg b.cells] [] (Is (.b (decide (a=b)))):=by refine Yg HB ?_;simp[HB,gh.cells];refine fL.c rfl rfl (f124 a b d c) (by simp) (by simp) ?_;simp[J2]
theorem f90(a b:Pos)(d:Small a)(c:Small b):Wf T 154 [.agg a.cells,.agg b.cells] [] (Is (.b (decide (a=b)))):=by refine Yg Jp ?_;simp[Jp];refine fL.c rfl rfl (f88 a b d c) (by simp) (by simp) ?_;simp[pU]
theorem f89(gen:Nat)(l:List Pos)(hs:∀p∈l,Small p)(h0:0<l.length)(hl:l.length<2 ^ 40)(n:Nat)(z:l.length=n):Wf T 153 [.fm 0 gen 5 0 n,.fn (.func 154) [] []] [.row 46 gen (cl Pos.cells l)]
  (λd H'=>∃g,d = .fm 0 gen 5 0 (lg l).length/\H' = [.row 46 gen (cl Pos.cells (lg l)++g)]):=by
 subst z;refine Yg Bi ?_;simp[Bi]
 by_cases h1:(l.length:Int)<2
 .have e:=SR (l:=l) (by omega);simp[h1,e]
 .simp[h1];refine fE.e (1:Int) (λy=>[(0,.fm 0 gen 5 0 l.length),(1,.fn (.func 154) [] []),(5,.i y)]) (λy=>[.row 46 gen (cl Pos.cells l)]) (λy=>1<=y/\y<=l.length/\lg l=l.take y.toNat++pL l y) (λy=>(l.length-y).toNat) ?_ ?_
  .simp;exact⟨by omega,by rw[X4 h0]⟩
  rintro y ⟨o,D,c⟩
  by_cases b:y<l.length
  .simp[b,BL (l:=l) (n:=y.toNat-1) (m:=y-1) (by omega)];refine fo ?_;refine iy.c rfl rfl (f90 (gt l y) (gt l (y-1)) (hs _ (fM (by omega) b)) (hs _ (fM (by omega) (by omega)))) (by simp) (by simp) ?_;simp
   by_cases r:gt l y=gt l (y-1)
   .simp[r];refine fo ?_;refine fE.e ((1,y,l):Int×Int×List Pos) (λx=>[(0,.fm 0 gen 5 0 l.length),(1,.fn (.func 154) [] []),(5,.i x.2.1),(6,.fm 0 gen 5 y.toNat (l.length-y.toNat)),(7,.i x.1)]) (λx=>[.row 46 gen (cl Pos.cells x.2.2)]) (λx=>1<=x.1/\y+x.1<=l.length/\1<=x.2.1/\x.2.1<y+x.1/\x.2.2.length=l.length/\(∀j:Int,y+x.1-1<=j->gt x.2.2 j=gt l j)/\lg l=x.2.2.take x.2.1.toNat++pL l (y+x.1)) (λx=>(l.length-(y+x.1)).toNat) ?_ ?_
    .simp;exact⟨by omega,o,by omega,by rw[c,Mz o b r]⟩
    rintro⟨k,i,cur⟩ ⟨k0,k1,i0,w,a,h,c2⟩;dsimp only at k0 k1 i0 w a h c2 ⊢
    by_cases s:y+k<l.length
    .have v:gt cur (y+k)=gt l (y+k):=h _ (by omega);have C:gt cur (y+k-1)=gt l (y+k-1):=h _ (by omega);have u:=BL (l:=cur) (n:=y.toNat+k.toNat) (m:=y+k) (by omega);have B:=BL (l:=cur) (n:=y.toNat+(k.toNat-1)) (m:=y+k-1) (by omega);simp[show k<((l.length-y.toNat:Nat):Int)by omega,u,B,v,C,a];refine fo ?_;refine iy.c rfl rfl (f90 (gt l (y+k)) (gt l (y+k-1)) (hs _ (fM (by omega) s)) (hs _ (fM (by omega) (by omega)))) (by simp) (by simp) ?_;simp
     by_cases q:gt l (y+k)=gt l (y+k-1)
     .simp[q];refine fo ?_;refine LJ.e (k+1,i,cur) ?_;refine⟨by dsimp only;omega,by dsimp only;omega,by dsimp only;omega,i0,by dsimp only;omega,a,λj t=>h j (by dsimp only at t;omega),?_⟩;dsimp only;rw[c2,Mz (by omega) s q,eC]
     .simp[q,u,v,a];refine pR u v a ?_;have A:=J0 (f:=Pos.cells) cur i (by omega) (gt l (y+k));refine LJ.i (k+1,i+1,pt cur i (gt l (y+k))) (by first|rfl|simp) (by dsimp only;rw[<-A];rfl) rfl rfl ?_;refine⟨by dsimp only;omega,by dsimp only;omega,by dsimp only;omega,by dsimp only;omega,by dsimp only;omega,by dsimp only;rw[ig (by omega) (by omega)];exact a,λj t=>?_,?_⟩
      .dsimp only at t ⊢;rw[Uf (by omega) (by omega) (by omega) (by omega)];exact h j (by omega)
      .dsimp only;rw[X5 (by omega) (by omega),c2,MA (by omega) s q,eC];simp
    .have e:pL l (y+k) = []:=My (by omega) (by omega);rw[e,ay]at c2;simp[show¬k<((l.length-y.toNat:Nat):Int)by omega,a];refine fo ?_;exact⟨by rw[c2];simp;omega,_,by rw[vZ,c2]⟩
   .simp[r];refine fo ?_;refine LJ.e (y+1) ?_;refine gg ?_;rw[c,MA o b r,iD (by omega) b];simp
  .have e:pL l y = []:=My (by omega) o;rw[e,ay,kq (by omega)]at c;simp[b];exact⟨by rw[c],[],by rw[c];simp⟩
theorem f125(g:fu)(s:Pos)(gen:Nat)(l:List gh)(hs:∀p∈l,Small p.p)(h0:0<l.length)(hl:l.length<2 ^ 40)(n:Nat)(B:l.length=n):Wf T 263 [.fm 3 gen 6 0 n,.fn (.func 264) [] []] [.row 43 0 g.cells,.row 46 0 s.cells,.row 256 0 [.fm 3 gen 6 0 n],.row 259 gen (cl gh.cells l)]
  (λd H'=>∃h,d = .fm 3 gen 6 0 (lg l).length/\H' = [.row 43 0 g.cells,.row 46 0 s.cells,.row 256 0 [.fm 3 gen 6 0 n],.row 259 gen (cl gh.cells (lg l)++h)]):=by
 subst B;refine Yg Ba ?_;simp[Ba]
 by_cases h1:(l.length:Int)<2
 .have e:=SR (l:=l) (by omega);simp[h1,e]
 .simp[h1];refine fE.e (1:Int) (λy=>[(0,.fm 3 gen 6 0 l.length),(1,.fn (.func 264) [] []),(5,.i y)]) (λy=>[.row 43 0 g.cells,.row 46 0 s.cells,.row 256 0 [.fm 3 gen 6 0 l.length],.row 259 gen (cl gh.cells l)]) (λy=>1<=y/\y<=l.length/\lg l=l.take y.toNat++pL l y) (λy=>(l.length-y).toNat) ?_ ?_
  .simp;exact⟨by omega,by rw[X4 h0]⟩
  rintro y ⟨q,F,c⟩
  by_cases b:y<l.length
  .simp[b,BL (l:=l) (n:=y.toNat-1) (m:=y-1) (by omega)];refine fo ?_;refine iy.c rfl rfl (f126 (gt l y) (gt l (y-1)) (hs _ (fM (by omega) b)) (hs _ (fM (by omega) (by omega)))) (by simp) (by simp) ?_;simp
   by_cases t:gt l y=gt l (y-1)
   .simp[t];refine fo ?_;refine fE.e ((1,y,l):Int×Int×List gh) (λx=>[(0,.fm 3 gen 6 0 l.length),(1,.fn (.func 264) [] []),(5,.i x.2.1),(6,.fm 3 gen 6 y.toNat (l.length-y.toNat)),(7,.i x.1)]) (λx=>[.row 43 0 g.cells,.row 46 0 s.cells,.row 256 0 [.fm 3 gen 6 0 l.length],.row 259 gen (cl gh.cells x.2.2)]) (λx=>1<=x.1/\y+x.1<=l.length/\1<=x.2.1/\x.2.1<y+x.1/\x.2.2.length=l.length/\(∀j:Int,y+x.1-1<=j->gt x.2.2 j=gt l j)/\lg l=x.2.2.take x.2.1.toNat++pL l (y+x.1)) (λx=>(l.length-(y+x.1)).toNat) ?_ ?_
    .simp;exact⟨by omega,q,by omega,by rw[c,Mz q b t]⟩
    rintro⟨k,i,cur⟩ ⟨k0,k1,i0,A,a,o,c2⟩;dsimp only at k0 k1 i0 A a o c2 ⊢
    by_cases u:y+k<l.length
    .have z:gt cur (y+k)=gt l (y+k):=o _ (by omega);have E:gt cur (y+k-1)=gt l (y+k-1):=o _ (by omega);have w:=BL (l:=cur) (n:=y.toNat+k.toNat) (m:=y+k) (by omega);have D:=BL (l:=cur) (n:=y.toNat+(k.toNat-1)) (m:=y+k-1) (by omega);simp[show k<((l.length-y.toNat:Nat):Int)by omega,w,D,z,E,a];refine fo ?_;refine iy.c rfl rfl (f126 (gt l (y+k)) (gt l (y+k-1)) (hs _ (fM (by omega) u)) (hs _ (fM (by omega) (by omega)))) (by simp) (by simp) ?_;simp
     by_cases r:gt l (y+k)=gt l (y+k-1)
     .simp[r];refine fo ?_;refine LJ.e (k+1,i,cur) ?_;refine⟨by dsimp only;omega,by dsimp only;omega,by dsimp only;omega,i0,by dsimp only;omega,a,λj v=>o j (by dsimp only at v;omega),?_⟩;dsimp only;rw[c2,Mz (by omega) u r,eC]
     .simp[r,w,z,a];refine pR w z a ?_;have C:=J0 (f:=gh.cells) cur i (by omega) (gt l (y+k));refine LJ.i (k+1,i+1,pt cur i (gt l (y+k))) (by first|rfl|simp) (by dsimp only;rw[<-C];rfl) rfl rfl ?_;refine⟨by dsimp only;omega,by dsimp only;omega,by dsimp only;omega,by dsimp only;omega,by dsimp only;omega,by dsimp only;rw[ig (by omega) (by omega)];exact a,λj v=>?_,?_⟩
      .dsimp only at v ⊢;rw[Uf (by omega) (by omega) (by omega) (by omega)];exact o j (by omega)
      .dsimp only;rw[X5 (by omega) (by omega),c2,MA (by omega) u r,eC];simp
    .have e:pL l (y+k) = []:=My (by omega) (by omega);rw[e,ay]at c2;simp[show¬k<((l.length-y.toNat:Nat):Int)by omega,a];refine fo ?_;exact⟨by rw[c2];simp;omega,_,by rw[vZ,c2]⟩
   .simp[t];refine fo ?_;refine LJ.e (y+1) ?_;refine gg ?_;rw[c,MA q b t,iD (by omega) b];simp
  .have e:pL l y = []:=My (by omega) q;rw[e,ay,kq (by omega)]at c;simp[b];exact⟨by rw[c],[],by rw[c];simp⟩
theorem abq(x:D)(H:U):Wf T 263 [.fw,x] H (λd H'=>d = .fw/\H'=H):=by refine Yg Ba ?_;simp[Ba]
theorem abL(x:D)(H:U):Wf T 153 [.fw,x] H (λd H'=>d = .fw/\H'=H):=by refine Yg Bi ?_;simp[Bi]
theorem R5{g:fu}:∀ {l:List fq} {now:List fF},(rm g l now).length<=10 ^ l.length*now.length
 | [],now=>by simp[rm]
 | x::r,now=>by rw[rm];refine Nat.le_trans R5 ?_;rw[aG,dW,fg];exact ea _ FE
theorem MX{g:fu}:∀ {l:List fq} {a b:List fF},(∀t,t∈a↔t∈b)->∀t,t∈rm g l a↔t∈rQ g l b
 | [],a,b,h,t=>h t
 | x::r,a,b,h,t=>by rw[rm,rQ];refine MX (λt=>?_) t;rw[LN,bB,bB];exact⟨λ⟨s,h1,c⟩=>⟨s,(h s).1 h1,c⟩,λ⟨s,h1,c⟩=>⟨s,(h s).2 h1,c⟩⟩
theorem WX{g:fu}{p:Pos}{c n:Int}{o:gh}:o∈sN g p c n↔o∈tq g p c (gt (gt g.kinds (fX (gt p.cs c))).iG n):=by unfold sN tq;rw[cK,cK];exact⟨λ⟨s,h1,a⟩=>⟨s,(MX (λ_=>dS) s).1 h1,a⟩,λ⟨s,h1,a⟩=>⟨s,(MX (λ_=>dS) s).2 h1,a⟩⟩
theorem f85(g:fu)(hg:gu g)(p:Pos)(i:gJ g p)(c n:Int)(w:0<=c/\c<p.cs.length)(hs:jr (gt p.cs c)=p.side)(k:0<=n/\n<(gt g.kinds (fX (gt p.cs c))).iG.length) :
  Wf T 214 [dG g,dP p,.i c,.i n] [] (Ey (λr:List gh=>.tup [dN 6 gh.cells r,.i 0]) λr=>(∀o,o∈r↔o∈tq g p c (gt (gt g.kinds (fX (gt p.cs c))).iG n))/\r.length<=100000000):=by
 have F:=i.size;have l:=Gm hg i w.1 (by omega) hs;have m:vQ g (gt (gt g.kinds (fX (gt p.cs c))).iG n):=(hg.iG _ (fM l.kind.1 l.kind.2)).2 _ (fM k.1 k.2)
 have v:(sN g p c n).length<=100000000:=by unfold sN;refine Nat.le_trans (eS ..) (Nat.le_trans R5 ?_);have:=m.len;have:10 ^ (gt (gt g.kinds (fX (gt p.cs c))).iG n).length<=10 ^ 8:=cE (by decide) (by omega);simpa using this
 have j:∀o,o∈sN g p c n->Small o.p:=λo b=>by rw[WX]at b;unfold tq at b;rw[cK]at b;obtain⟨s,h1,C⟩:=b;exact(Kt (Me hg m.steps (λt B=>by rw[List.mem_singleton.1 B];exact l) s h1) i.side.1 i.side.2 C).small hg
 refine Yg Jn ?_;simp[Jn];refine fL.lG rfl rfl (f121 g hg p i c n w hs k) ?_;rintro d H' ⟨rfl,rfl⟩;have u:=λo=>WX (g:=g) (p:=p) (c:=c) (n:=n) (o:=o);generalize sN g p c n=outs at *
 by_cases b:outs = []
 .subst b;simp;refine fL.lG rfl rfl (Wf.CU (K:=λd H'=>d = .tup []/\H'=_) (sz:=6) rfl ⟨rfl,rfl⟩) ?_;rintro d H' ⟨rfl,rfl⟩;simp;refine fL.lG rfl rfl (abq _ _) ?_;rintro d H' ⟨rfl,rfl⟩;simp;exact Ey.i [] rfl rfl ⟨u,by simp⟩
 .have h0:0<outs.length:=av.2 b;rw[if_neg b];simp;refine fL.lG rfl rfl (Wf.sort (K:=λd H'=>∃e,e.Perm outs/\d = .tup []/\H' = [.row 43 0 g.cells,.row 46 0 p.cells,.row 256 0 [.fm 3 (outs.length-1) 6 0 outs.length],.row 259 (outs.length-1) (cl gh.cells e)]) (fc:=gh.cells) outs pT rfl rfl h0 (by omega) (λx=>J2.2 rfl) SL ZM (λx A y z=>f124 x y (j x A) (j y z)) (gen:=outs.length-1) (t:=259) (by simp) (λe i E=>⟨e,i,rfl,by simp⟩)) ?_;rintro d H' ⟨e,f,rfl,rfl⟩;simp;refine fL.lG rfl rfl (f125 g p (outs.length-1) e (λo b=>j o ((f.mem_iff).1 b)) (by rw[f.length_eq];exact h0) (by rw[f.length_eq];omega) outs.length f.length_eq) ?_;rintro d H' ⟨q,rfl,rfl⟩;simp;have D:lg e≠[]:=λh=>b (by rw[ZT]at h;rw[h]at f;exact f.symm.eq_nil);refine Ey.i (lg e) (by revert D;cases lg e with|nil=>intro h;exact absurd rfl h|cons a r=>intro _;rfl) rfl ⟨λo=>by rw[DU,f.mem_iff,u],?_⟩;have:=SQ e;have:=f.length_eq;omega
theorem f86(l:List Pos)(h:0<l.length)(b:l.length<2 ^ 40):Wf T 150 [gC l] [] (λd H=>d = .fm 0 1 5 0 l.length/\H = [.row 46 1 (cl Pos.cells l)]):=by refine Yg Bh ?_;simp[Bh];refine oA.i (a:=.b false) (by cases l with|nil=>exact absurd h (by simp)|cons a r=>rfl) ?_;simp;exact lZ
theorem abK:Wf T 150 [.fw] [] (Is .fw):=by refine Yg Bh ?_;simp[Bh]
theorem u0{l:List Pos}(h:l≠[]):gC l=dN 5 Pos.cells l:=by
 cases l with
 | nil=>exact absurd rfl h
 | cons a r=>rfl
@[simp] theorem ape(l:List Pos):closed (dN 5 Pos.cells l)=true:=zd (λa=>by simp) l
theorem akA:jR [] = []:=az.1 (Nat.le_zero.1 (Mt []))
theorem akz{l:List Pos}(h:l≠[]):jR l≠[]:=λe=>by obtain⟨a,r,rfl⟩:=eD h;have:a∈jR (a::r):=uI.2 (by simp);rw[e]at this;cases this
theorem f48(l:List Pos)(hs:∀p∈l,Small p)(hl:l.length<2 ^ 40):Wf T 95 [dN 5 Pos.cells l] [] (Is (dN 5 Pos.cells (jR l))):=by
 by_cases h:l = []
 .subst h;rw[akA];show Wf T 95 [.fw] [] (Is .fw);refine Yg Bg ?_;simp[Bg];refine Yc (abK) ?_;simp;refine fL.lG rfl rfl (Wf.CU (K:=λd H'=>d = .tup []/\H'=_) (sz:=5) rfl ⟨rfl,rfl⟩) ?_;rintro d H' ⟨rfl,rfl⟩;simp;refine fL.lG rfl rfl (abL _ _) ?_;rintro d H' ⟨rfl,rfl⟩;simp
 .have h0:0<l.length:=av.2 h;rw[<-u0 h,<-u0 (akz h)];refine Yg Bg ?_;simp[Bg];refine Yn (f86 l h0 hl) ?_;simp;refine fL.lG rfl rfl (Wf.sort (K:=λd H'=>∃a,a.Perm l/\a.Pairwise (λx y=>¬gP y x<0)/\d = .tup []/\H' = [.row 46 1 (cl Pos.cells a)]) (fc:=Pos.cells) l gP rfl rfl h0 hl tN (λx y z=>xM) ZN (λx g y f=>f88 x y (hs x g) (hs y f)) (gen:=1) (t:=46) (by simp) (λa i c=>⟨a,i,c,rfl,by simp⟩)) ?_;rintro d H' ⟨a,b,c,rfl,rfl⟩;simp;refine fL.lG rfl rfl (f89 1 a (λo j=>hs o ((b.mem_iff).1 j)) (by rw[b.length_eq];exact h0) (by rw[b.length_eq];omega) l.length b.length_eq) ?_;rintro d H' ⟨e,rfl,rfl⟩;simp[ZV b c]
