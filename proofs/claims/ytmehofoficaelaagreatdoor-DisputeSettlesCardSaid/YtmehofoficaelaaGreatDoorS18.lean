/- Part 18 of DisputeSettles. -/
import Derived.Test.YtmehofoficaelaaGreatDoorS17
set_option linter.all false
namespace Go.AL
open Go
theorem Wf.sort{T:iD}{f g:FuncId}{fn:jo}{sz v gen t:Nat}{H:U}{K:D->U->Prop}{α:Type}{fc:α->List D}[F:Fl fc sz](l:List α)(b:α->α->Int)(hs:T.sort f=some sz)(hg:T.fn g=some fn)(h0:0<l.length)(hl:l.length<2 ^ 40)
  (q:∀x,b x x=0) (tr:∀x y z,b x y<0->b y z<0->b x z<0) (h:∀x y z,¬b x y<0->¬b y z<0->¬b x z<0) (p:∀x∈l,∀y∈l,Wf T g [.agg (fc x),.agg (fc y)] [] (Is (.i (b x y)))) (n:H[v]? = some (.row t gen (cl fc l)))
  (k:∀c:List α,c.Perm l->c.Pairwise (λx y=>¬b y x<0)->K (.tup []) (H.set v (.row t gen (cl fc c)))):Wf T f [.fZ v gen sz 0 l.length,.fn (.func g) [] []] H K:=
 Ev.sort fc l b hs hg (λa _=>F.len a) (λa _=>F.cl a) h0 (by omega) (λx _=>by rw[q];decide) (λx _ y _ z _=>tr x y z) (λx _ y _ z _=>h x y z)
  (λx j y i=>Ev.mono (p x j y i) λr ⟨d,H',e,h1,_⟩=>⟨H',by rw[e,h1]⟩) (by rw[n,nO]) λc o m=>⟨_,_,rfl,by rw[<-nO];exact k c o m⟩
theorem Wf.Fq{T:iD}{f:FuncId}{sz:Nat}{x:D}{H:U}{K:D->U->Prop}(hs:T.sort f=some sz)(k:K (.tup []) H):Wf T f [.gg,x] H K:=Ev.Fq hs ⟨_,_,rfl,k⟩
section
variable{α:Type}[DecidableEq α]
def ma:List α->List α
 | []=>[]
 | [a]=>[a]
 | a::b::t=>if b=a then ma (b::t)else a::ma (b::t)
theorem Nd:∀(t:List α) (a:α),ma (a::t)=a::(ma (a::t)).tail
 | [],a=>rfl
 | b::t,a=>by
  unfold ma;split
  .rename_i h;subst h;exact Nd t b
  .rfl
theorem GD{x:α}:∀ {l:List α},x∈ma l↔x∈l
 | []=>eo
 | [a]=>eo
 | a::b::t=>by
  unfold ma;split
  .rename_i h;subst h;rw[GD (l:=b::t)];simp
  .rw[ao,GD (l:=b::t),ao (a:=x) (b:=a)]
theorem Wn:∀l:List α,(ma l).length<=l.length
 | []=>Nat.le_refl _
 | [a]=>Nat.le_refl _
 | a::b::t=>by
  have:=Wn (b::t);unfold ma;split
  .exact Nat.le_succ_of_le this
  .simp only[aC]at *;omega
theorem adU{l:List α}(h:0<l.length):0<(ma l).length:=by
 cases l with
 | nil=>simp at h
 | cons a t=>rw[Nd];simp
theorem adT{l:List α}:ma l = []↔l = []:=by
 constructor
 .intro h;rcases eY l.length with a|a
  .exact ax.1 a
  .have:=adU a;rw[h]at this;simp at this
 .rintro rfl;rfl
theorem Wp{l:List α}(h:l.length<2):ma l=l:=by
 match l,h with
 | [],_=>rfl
 | [a],_=>rfl
 | a::b::t,h=>simp at h;omega
def rC(l:List α)(m:Int):List α:=(ma (l.drop (m-1).toNat)).tail
variable [Inhabited α]{l:List α}{m:Int}
theorem abX(h:0<l.length):ma l=l.take 1++rC l 1:=by
 cases l with
 | nil=>simp at h
 | cons a t=>exact Nd t a
theorem PU(h:m=l.length)(h0:1<=m):rC l m = []:=by unfold rC;rw[n5 (by omega) (by omega),br (by omega)];rfl
theorem PW(h0:1<=m)(h:m<l.length)(e:gt l m=gt l (m-1)):rC l m=rC l (m+1):=by unfold rC;rw[n5 (n:=m-1) (by omega) (by omega),show(m-1).toNat+1=m.toNat by omega,n5 (n:=m) (by omega) h,ma,if_pos e,dW,n5 (n:=m) (by omega) h]
theorem PX(h0:1<=m)(h:m<l.length)(e:gt l m≠gt l (m-1)):rC l m=gt l m::rC l (m+1):=by unfold rC;rw[n5 (n:=m-1) (by omega) (by omega),show(m-1).toNat+1=m.toNat by omega,n5 (n:=m) (by omega) h,ma,if_neg e,dW,n5 (n:=m) (by omega) h];exact Nd _ _
end
theorem QD:∀ {l:List Pos},l.Pairwise (λx y=>iH x y<=0)->(ma l).Pairwise λx y=>iH x y<0
 | [],_=>.nil
 | [a],_=>by simp[ma]
 | a::b::t,h=>by
  have h1:=aX.1 h;have g:=aX.1 h1.2;unfold ma;split
  .exact QD h1.2
  .rename_i d;refine aX.2 ⟨λx c=>?_,QD h1.2⟩;rw[GD]at c;have m:=h1.1 x c
   by_cases f:iH a x=0
   .have e:=rP.1 f;subst e;rcases ao.1 c with e|c
    .exact absurd e.symm d
    .have k:=g.1 _ c;have j:=h1.1 b (by simp);have i:=vH a b;exact absurd (rP.1 (show iH a b=0 by omega)).symm d
   .omega
def adV{l a:List Pos}(c:a.Perm l)(b:a.Pairwise λx y=>¬iH y x<0):ma a=kI l:=
 abN (kX.of (QD (b.imp λ{x y} h=>by have:=vH x y;omega))) λq=>by rw[GD,c.mem_iff]
def adN(x y z:Pos)(h1:¬iH x y<0)(d:¬iH y z<0):¬iH x z<0:=by have a:=vH x y;have b:=vH y z;have c:=vH x z;have:=Wi (p:=z) (q:=y) (r:=x) (by omega) (by omega);omega
def b2(b:Bool):Int:=if b then 1 else 0
def rO(a b:gQ):Int:=nA [iH a.p b.p,kU (b2 a.jM) (b2 b.jM)]
def acY{a b:Bool}(h:b2 a=b2 b):a=b:=by revert h;cases a<;>cases b<;>simp[b2]
def Nc{a b:gQ}:rO a b=0↔a=b:=by
 unfold rO;rw[Re];simp only[ao,eE,or_false,forall_eq_or_imp,forall_eq,rP,yU];constructor
 .rintro⟨h1,c⟩;have:=acY c;cases a;cases b;simp_all
 .rintro rfl;exact⟨rfl,rfl⟩
def QB(a b:gQ):rO b a = - rO a b:=by unfold rO nA;rw[vH a.p b.p,O' (b2 a.jM)];simp only[nA];(repeat' split)<;>omega
def Wh(x y z:gQ):rO x y<0->rO y z<0->rO x z<0:=by unfold rO;refine By (λh=>by rw[rP.1 h]) (λh=>by rw[rP.1 h]) zI (By (λh=>by rw[yU.1 h]) (λh=>by rw[yU.1 h]) (by simp only[EY];omega) λh=>?_);simp[nA]at h
def adM(x y z:gQ)(h1:¬rO x y<0)(d:¬rO y z<0):¬rO x z<0:=by
 have a:=QB x y;have b:=QB y z;have c:=QB x z
 by_cases f:rO x y=0
 .rw[Nc.1 f];exact d
 .by_cases e:rO y z=0
  .rw[<-Nc.1 e];exact h1
  .have:=Wh z y x (by omega) (by omega);omega
theorem VZ{sz:Nat}:∀(n:Nat) (a b:List D),a.length=n*sz->chunks sz n (a++b)=chunks sz n a
 | 0,_,_,_=>rfl
 | n+1,a,b,h=>by rw[cE]at h;simp only[chunks];rw[aW (by omega),eO (by omega),VZ n (a.drop sz) b (by simp;omega)]
@[simp] theorem au0{α:Type}{f:α->List D}{sz:Nat}[F:Fl f sz]{ρ:Nat->Option Nat}{H:U}{k n:Nat}{t:TypeId}{l:List α}{b:List D}(h:n=l.length):mK ρ H (k+1) sz 0 n (some (t,cl f l++b)) = .sl sz (l.map f):=by subst h;unfold mK;dsimp only;rw[aj,rN,aR,if_pos (by omega),cO,ei,List.map_append,PJ (tG l),VZ _ _ _ (by simp),nO,M5 F.len]
@[irreducible] def NV{α:Type}[Inhabited α](l:List α)(n:Nat):α:=gt l (n:Int)
theorem DV{α:Type}[Inhabited α]{l:List α}{n:Nat}{m:Int}(h:(n:Int)=m):NV l n=gt l m:=by unfold NV;rw[h]
@[simp] theorem awl{α:Type}[Inhabited α]{f:α->List D}{sz:Nat}[F:Fl f sz]{l:List α}{t:TypeId}{n:Nat}(a:0<sz):vf sz (n*sz) (some (t,cl f l))=if n<l.length then some (.agg (f (NV l n)))else none:=by have:=ahU (f:=f) (l:=l) (t:=t) (n:=(n:Int)) a;rw[bB]at this;rw[this];unfold NV;rfl
@[simp] theorem aui(sz v g off len:Nat)(z:List D)(H:U):Gy sz z (.fZ v g sz off len) H=(rowAt H v g).bind λp=>if (off+len)*sz<=p.2.length then some (.any,.obj v (.row p.1 g (p.2.take (off*sz)++(List.replicate len z).flatten++p.2.drop ((off+len)*sz))))else none:=by simp only[Gy];cases rowAt H v g<;>simp
def abY{α:Type}{l:List α}{n:Int}{v:α}(h0:0<=n)(h:n<l.length):(pt l n v).take (n+1).toNat=l.take n.toNat ++ [v]:=by
 have e:(l.take n.toNat).length=n.toNat:=by rw[aJ];omega
 rw[pt,List.take_append,e,show(n+1).toNat-n.toNat=1 by omega,af (by omega)];rfl
end Go.AL
namespace Go.Proofs.YtmehofoficaelaaGreatDoor
open Go Go.AL Classical
set_option maxRecDepth 10000
set_option maxHeartbeats 4000000
def f124(a b:gQ)(d:Small a.p)(c:Small b.p):Wf T 262 [.agg a.cells,.agg b.cells] [] (Is (.i (rO a b))):=by
 obtain⟨p,u⟩:=a;obtain⟨q,v⟩:=b;cases u<;>cases v
 .refine Yg wS ?_;simp[wS,gQ.cells];refine jh.c rfl rfl (f88 p q d c) (by simp) (by simp) ?_;simp;refine jh.c rfl rfl (f131 _ _) (by simp) (by simp) ?_;simp;refine jh.r rfl rfl (f129 [iH p q,kU 0 0] (by simp)) (by simp) (by simp[flat]) (by simp) ?_;simp;rfl
 .refine Yg wS ?_;simp[wS,gQ.cells];refine jh.c rfl rfl (f88 p q d c) (by simp) (by simp) ?_;simp;refine jh.c rfl rfl (f131 _ _) (by simp) (by simp) ?_;simp;refine jh.r rfl rfl (f129 [iH p q,kU 0 1] (by simp)) (by simp) (by simp[flat]) (by simp) ?_;simp;rfl
 .refine Yg wS ?_;simp[wS,gQ.cells];refine jh.c rfl rfl (f88 p q d c) (by simp) (by simp) ?_;simp;refine jh.c rfl rfl (f131 _ _) (by simp) (by simp) ?_;simp;refine jh.r rfl rfl (f129 [iH p q,kU 1 0] (by simp)) (by simp) (by simp[flat]) (by simp) ?_;simp;rfl
 .refine Yg wS ?_;simp[wS,gQ.cells];refine jh.c rfl rfl (f88 p q d c) (by simp) (by simp) ?_;simp;refine jh.c rfl rfl (f131 _ _) (by simp) (by simp) ?_;simp;refine jh.r rfl rfl (f129 [iH p q,kU 1 1] (by simp)) (by simp) (by simp[flat]) (by simp) ?_;simp;rfl
def f126(a b:gQ)(d:Small a.p)(c:Small b.p):Wf T 264 [.agg a.cells,.agg b.cells] [] (Is (.b (decide (a=b)))):=by refine Yg KA ?_;simp[KA,gQ.cells];refine gx.c rfl rfl (f124 a b d c) (by simp) (by simp) ?_;simp[Nc]
def f90(a b:Pos)(d:Small a)(c:Small b):Wf T 154 [.agg a.cells,.agg b.cells] [] (Is (.b (decide (a=b)))):=by refine Yg My ?_;simp[My];refine gx.c rfl rfl (f88 a b d c) (by simp) (by simp) ?_;simp[rP]
def f89(gen:Nat)(l:List Pos)(hs:∀p∈l,Small p)(h0:0<l.length)(hl:l.length<2 ^ 40)(n:Nat)(z:l.length=n):Wf T 153 [.fZ 0 gen 5 0 n,.fn (.func 154) [] []] [.row 46 gen (cl Pos.cells l)]
  (λd H'=>∃g,d = .fZ 0 gen 5 0 (ma l).length/\H' = [.row 46 gen (cl Pos.cells (ma l)++g)]):=by
 subst z;refine Yg Du ?_;simp[Du]
 by_cases h1:(l.length:Int)<2
 .have e:=Wp (l:=l) (by omega);simp[h1,e]
 .simp[h1];refine gp.e (1:Int) (λy=>[(0,.fZ 0 gen 5 0 l.length),(1,.fn (.func 154) [] []),(5,.i y)]) (λy=>[.row 46 gen (cl Pos.cells l)]) (λy=>1<=y/\y<=l.length/\ma l=l.take y.toNat++rC l y) (λy=>(l.length-y).toNat) ?_ ?_
  .simp;exact⟨by omega,by rw[abX h0]⟩
  rintro y ⟨o,D,c⟩
  by_cases b:y<l.length
  .simp[b,DV (l:=l) (n:=y.toNat-1) (m:=y-1) (by omega)];refine gf ?_;refine jh.c rfl rfl (f90 (gt l y) (gt l (y-1)) (hs _ (gA (by omega) b)) (hs _ (gA (by omega) (by omega)))) (by simp) (by simp) ?_;simp
   by_cases r:gt l y=gt l (y-1)
   .simp[r];refine gf ?_;refine gp.e ((1,y,l):Int×Int×List Pos) (λx=>[(0,.fZ 0 gen 5 0 l.length),(1,.fn (.func 154) [] []),(5,.i x.2.1),(6,.fZ 0 gen 5 y.toNat (l.length-y.toNat)),(7,.i x.1)]) (λx=>[.row 46 gen (cl Pos.cells x.2.2)]) (λx=>1<=x.1/\y+x.1<=l.length/\1<=x.2.1/\x.2.1<y+x.1/\x.2.2.length=l.length/\(∀j:Int,y+x.1-1<=j->gt x.2.2 j=gt l j)/\ma l=x.2.2.take x.2.1.toNat++rC l (y+x.1)) (λx=>(l.length-(y+x.1)).toNat) ?_ ?_
    .simp;exact⟨by omega,o,by omega,by rw[c,PW o b r]⟩
    rintro⟨k,i,cur⟩ ⟨k0,k1,i0,w,a,h,c2⟩;dsimp only at k0 k1 i0 w a h c2 ⊢
    by_cases s:y+k<l.length
    .have v:gt cur (y+k)=gt l (y+k):=h _ (by omega);have C:gt cur (y+k-1)=gt l (y+k-1):=h _ (by omega);have u:=DV (l:=cur) (n:=y.toNat+k.toNat) (m:=y+k) (by omega);have B:=DV (l:=cur) (n:=y.toNat+(k.toNat-1)) (m:=y+k-1) (by omega);simp[show k<((l.length-y.toNat:Nat):Int)by omega,u,B,v,C,a];refine gf ?_;refine jh.c rfl rfl (f90 (gt l (y+k)) (gt l (y+k-1)) (hs _ (gA (by omega) s)) (hs _ (gA (by omega) (by omega)))) (by simp) (by simp) ?_;simp
     by_cases q:gt l (y+k)=gt l (y+k-1)
     .simp[q];refine gf ?_;refine LJ.e (k+1,i,cur) ?_;refine⟨by dsimp only;omega,by dsimp only;omega,by dsimp only;omega,i0,by dsimp only;omega,a,λj t=>h j (by dsimp only at t;omega),?_⟩;dsimp only;rw[c2,PW (by omega) s q,eZ]
     .simp[q,u,v,a];refine qy u v a ?_;have A:=Na (f:=Pos.cells) cur i (by omega) (gt l (y+k));refine LJ.i (k+1,i+1,pt cur i (gt l (y+k))) (by first|rfl|simp) (by dsimp only;rw[<-A];rfl) rfl rfl ?_;refine⟨by dsimp only;omega,by dsimp only;omega,by dsimp only;omega,by dsimp only;omega,by dsimp only;omega,by dsimp only;rw[iC (by omega) (by omega)];exact a,λj t=>?_,?_⟩
      .dsimp only at t ⊢;rw[XZ (by omega) (by omega) (by omega) (by omega)];exact h j (by omega)
      .dsimp only;rw[abY (by omega) (by omega),c2,PX (by omega) s q,eZ];simp
    .have e:rC l (y+k) = []:=PU (by omega) (by omega);rw[e,az]at c2;simp[show¬k<((l.length-y.toNat:Nat):Int)by omega,a];refine gf ?_;exact⟨by rw[c2];simp;omega,_,by rw[w6,c2]⟩
   .simp[r];refine gf ?_;refine LJ.e (y+1) ?_;refine gJ ?_;rw[c,PX o b r,jn (by omega) b];simp
  .have e:rC l y = []:=PU (by omega) o;rw[e,az,lr (by omega)]at c;simp[b];exact⟨by rw[c],[],by rw[c];simp⟩
def f125(g:gj)(s:Pos)(gen:Nat)(l:List gQ)(hs:∀p∈l,Small p.p)(h0:0<l.length)(hl:l.length<2 ^ 40)(n:Nat)(B:l.length=n):Wf T 263 [.fZ 3 gen 6 0 n,.fn (.func 264) [] []] [.row 43 0 g.cells,.row 46 0 s.cells,.row 256 0 [.fZ 3 gen 6 0 n],.row 259 gen (cl gQ.cells l)]
  (λd H'=>∃h,d = .fZ 3 gen 6 0 (ma l).length/\H' = [.row 43 0 g.cells,.row 46 0 s.cells,.row 256 0 [.fZ 3 gen 6 0 n],.row 259 gen (cl gQ.cells (ma l)++h)]):=by
 subst B;refine Yg Dk ?_;simp[Dk]
 by_cases h1:(l.length:Int)<2
 .have e:=Wp (l:=l) (by omega);simp[h1,e]
 .simp[h1];refine gp.e (1:Int) (λy=>[(0,.fZ 3 gen 6 0 l.length),(1,.fn (.func 264) [] []),(5,.i y)]) (λy=>[.row 43 0 g.cells,.row 46 0 s.cells,.row 256 0 [.fZ 3 gen 6 0 l.length],.row 259 gen (cl gQ.cells l)]) (λy=>1<=y/\y<=l.length/\ma l=l.take y.toNat++rC l y) (λy=>(l.length-y).toNat) ?_ ?_
  .simp;exact⟨by omega,by rw[abX h0]⟩
  rintro y ⟨q,F,c⟩
  by_cases b:y<l.length
  .simp[b,DV (l:=l) (n:=y.toNat-1) (m:=y-1) (by omega)];refine gf ?_;refine jh.c rfl rfl (f126 (gt l y) (gt l (y-1)) (hs _ (gA (by omega) b)) (hs _ (gA (by omega) (by omega)))) (by simp) (by simp) ?_;simp
   by_cases t:gt l y=gt l (y-1)
   .simp[t];refine gf ?_;refine gp.e ((1,y,l):Int×Int×List gQ) (λx=>[(0,.fZ 3 gen 6 0 l.length),(1,.fn (.func 264) [] []),(5,.i x.2.1),(6,.fZ 3 gen 6 y.toNat (l.length-y.toNat)),(7,.i x.1)]) (λx=>[.row 43 0 g.cells,.row 46 0 s.cells,.row 256 0 [.fZ 3 gen 6 0 l.length],.row 259 gen (cl gQ.cells x.2.2)]) (λx=>1<=x.1/\y+x.1<=l.length/\1<=x.2.1/\x.2.1<y+x.1/\x.2.2.length=l.length/\(∀j:Int,y+x.1-1<=j->gt x.2.2 j=gt l j)/\ma l=x.2.2.take x.2.1.toNat++rC l (y+x.1)) (λx=>(l.length-(y+x.1)).toNat) ?_ ?_
    .simp;exact⟨by omega,q,by omega,by rw[c,PW q b t]⟩
    rintro⟨k,i,cur⟩ ⟨k0,k1,i0,A,a,o,c2⟩;dsimp only at k0 k1 i0 A a o c2 ⊢
    by_cases u:y+k<l.length
    .have z:gt cur (y+k)=gt l (y+k):=o _ (by omega);have E:gt cur (y+k-1)=gt l (y+k-1):=o _ (by omega);have w:=DV (l:=cur) (n:=y.toNat+k.toNat) (m:=y+k) (by omega);have D:=DV (l:=cur) (n:=y.toNat+(k.toNat-1)) (m:=y+k-1) (by omega);simp[show k<((l.length-y.toNat:Nat):Int)by omega,w,D,z,E,a];refine gf ?_;refine jh.c rfl rfl (f126 (gt l (y+k)) (gt l (y+k-1)) (hs _ (gA (by omega) u)) (hs _ (gA (by omega) (by omega)))) (by simp) (by simp) ?_;simp
     by_cases r:gt l (y+k)=gt l (y+k-1)
     .simp[r];refine gf ?_;refine LJ.e (k+1,i,cur) ?_;refine⟨by dsimp only;omega,by dsimp only;omega,by dsimp only;omega,i0,by dsimp only;omega,a,λj v=>o j (by dsimp only at v;omega),?_⟩;dsimp only;rw[c2,PW (by omega) u r,eZ]
     .simp[r,w,z,a];refine qy w z a ?_;have C:=Na (f:=gQ.cells) cur i (by omega) (gt l (y+k));refine LJ.i (k+1,i+1,pt cur i (gt l (y+k))) (by first|rfl|simp) (by dsimp only;rw[<-C];rfl) rfl rfl ?_;refine⟨by dsimp only;omega,by dsimp only;omega,by dsimp only;omega,by dsimp only;omega,by dsimp only;omega,by dsimp only;rw[iC (by omega) (by omega)];exact a,λj v=>?_,?_⟩
      .dsimp only at v ⊢;rw[XZ (by omega) (by omega) (by omega) (by omega)];exact o j (by omega)
      .dsimp only;rw[abY (by omega) (by omega),c2,PX (by omega) u r,eZ];simp
    .have e:rC l (y+k) = []:=PU (by omega) (by omega);rw[e,az]at c2;simp[show¬k<((l.length-y.toNat:Nat):Int)by omega,a];refine gf ?_;exact⟨by rw[c2];simp;omega,_,by rw[w6,c2]⟩
   .simp[t];refine gf ?_;refine LJ.e (y+1) ?_;refine gJ ?_;rw[c,PX q b t,jn (by omega) b];simp
  .have e:rC l y = []:=PU (by omega) q;rw[e,az,lr (by omega)]at c;simp[b];exact⟨by rw[c],[],by rw[c];simp⟩
def afw(x:D)(H:U):Wf T 263 [.gg,x] H (λd H'=>d = .gg/\H'=H):=by refine Yg Dk ?_;simp[Dk]
def afS(x:D)(H:U):Wf T 153 [.gg,x] H (λd H'=>d = .gg/\H'=H):=by refine Yg Du ?_;simp[Du]
theorem Vu{g:gj}:∀ {l:List gd} {now:List gy},(sT g l now).length<=10 ^ l.length*now.length
 | [],now=>by simp[sT]
 | x::r,now=>by rw[sT];refine Nat.le_trans Vu ?_;rw[aC,eM,fV];exact eR _ IS
theorem Qg{g:gj}:∀ {l:List gd} {a b:List gy},(∀t,t∈a↔t∈b)->∀t,t∈sT g l a↔t∈tw g l b
 | [],a,b,h,t=>h t
 | x::r,a,b,h,t=>by rw[sT,tw];refine Qg (λt=>?_) t;rw[O7,bN,bN];exact⟨λ⟨s,h1,c⟩=>⟨s,(h s).1 h1,c⟩,λ⟨s,h1,c⟩=>⟨s,(h s).2 h1,c⟩⟩
def aaX{g:gj}{p:Pos}{c n:Int}{o:gQ}:o∈uz g p c n↔o∈vh g p c (gt (gt g.kinds (gI (gt p.cs c))).jr n):=by unfold uz vh;rw[cY,cY];exact⟨λ⟨s,h1,a⟩=>⟨s,(Qg (λ_=>eo) s).1 h1,a⟩,λ⟨s,h1,a⟩=>⟨s,(Qg (λ_=>eo) s).2 h1,a⟩⟩
def f85(g:gj)(hg:gU g)(p:Pos)(i:iz g p)(c n:Int)(w:0<=c/\c<p.cs.length)(hs:jZ (gt p.cs c)=p.side)(k:0<=n/\n<(gt g.kinds (gI (gt p.cs c))).jr.length) :
  Wf T 214 [dG g,dP p,.i c,.i n] [] (Ey (λr:List gQ=>.tup [dN 6 gQ.cells r,.i 0]) λr=>(∀o,o∈r↔o∈vh g p c (gt (gt g.kinds (gI (gt p.cs c))).jr n))/\r.length<=100000000):=by
 have E:=i.size;have l:=Ju hg i w.1 (by omega) hs;have m:xW g (gt (gt g.kinds (gI (gt p.cs c))).jr n):=(hg.jr _ (gA l.kind.1 l.kind.2)).2 _ (gA k.1 k.2)
 have v:(uz g p c n).length<=100000000:=by unfold uz;refine Nat.le_trans (fw ..) (Nat.le_trans Vu ?_);have:=m.len;have:10 ^ (gt (gt g.kinds (gI (gt p.cs c))).jr n).length<=10 ^ 8:=cT (by decide) (by omega);simpa using this
 have j:∀o,o∈uz g p c n->Small o.p:=λo b=>by rw[aaX]at b;unfold vh at b;rw[cY]at b;obtain⟨s,h1,C⟩:=b;exact(NH (Px hg m.steps (λt B=>by rw[List.mem_singleton.1 B];exact l) s h1) i.side.1 i.side.2 C).small hg
 refine Yg Mw ?_;simp[Mw];refine gx.kG rfl rfl (f121 g hg p i c n w hs k) ?_;rintro d H' ⟨rfl,rfl⟩;have u:=λo=>aaX (g:=g) (p:=p) (c:=c) (n:=n) (o:=o);generalize uz g p c n=outs at *
 by_cases b:outs = []
 .subst b;simp;refine gx.kG rfl rfl (Wf.Fq (K:=λd H'=>d = .tup []/\H'=_) (sz:=6) rfl ⟨rfl,rfl⟩) ?_;rintro d H' ⟨rfl,rfl⟩;simp;refine gx.kG rfl rfl (afw _ _) ?_;rintro d H' ⟨rfl,rfl⟩;simp;exact Ey.i [] rfl rfl ⟨u,by simp⟩
 .have h0:0<outs.length:=aw.2 b;rw[if_neg b];simp;refine gx.kG rfl rfl (Wf.sort (K:=λd H'=>∃e,e.Perm outs/\d = .tup []/\H' = [.row 43 0 g.cells,.row 46 0 p.cells,.row 256 0 [.fZ 3 (outs.length-1) 6 0 outs.length],.row 259 (outs.length-1) (cl gQ.cells e)]) (fc:=gQ.cells) outs rO rfl rfl h0 (by omega) (λx=>Nc.2 rfl) Wh adM (λx A y z=>f124 x y (j x A) (j y z)) (gen:=outs.length-1) (t:=259) (by simp) (λe i F=>⟨e,i,rfl,by simp⟩)) ?_;rintro d H' ⟨e,f,rfl,rfl⟩;simp;refine gx.kG rfl rfl (f125 g p (outs.length-1) e (λo b=>j o ((f.mem_iff).1 b)) (by rw[f.length_eq];exact h0) (by rw[f.length_eq];omega) outs.length f.length_eq) ?_;rintro d H' ⟨q,rfl,rfl⟩;simp;have D:ma e≠[]:=λh=>b (by rw[adT]at h;rw[h]at f;exact f.symm.eq_nil);refine Ey.i (ma e) (by revert D;cases ma e with|nil=>intro h;exact absurd rfl h|cons a r=>intro _;rfl) rfl ⟨λo=>by rw[GD,f.mem_iff,u],?_⟩;have:=Wn e;have:=f.length_eq;omega
def f86(l:List Pos)(h:0<l.length)(b:l.length<2 ^ 40):Wf T 150 [gZ l] [] (λd H=>d = .fZ 0 1 5 0 l.length/\H = [.row 46 1 (cl Pos.cells l)]):=by refine Yg Dt ?_;simp[Dt];refine oA.i (a:=.b false) (by cases l with|nil=>exact absurd h (by simp)|cons a r=>rfl) ?_;simp;exact mQ
def afR:Wf T 150 [.gg] [] (Is .gg):=by refine Yg Dt ?_;simp[Dt]
def w8{l:List Pos}(h:l≠[]):gZ l=dN 5 Pos.cells l:=by
 cases l with
 | nil=>exact absurd rfl h
 | cons a r=>rfl
@[simp] theorem atZ(l:List Pos):closed (dN 5 Pos.cells l)=true:=Bg (λa=>by simp) l
theorem ao8:kI [] = []:=ax.1 (Nat.le_zero.1 (PM []))
def ao7{l:List Pos}(h:l≠[]):kI l≠[]:=λe=>by obtain⟨a,r,rfl⟩:=e7 h;have:a∈kI (a::r):=wK.2 (by simp);rw[e]at this;cases this
def f48(l:List Pos)(hs:∀p∈l,Small p)(hl:l.length<2 ^ 40):Wf T 95 [dN 5 Pos.cells l] [] (Is (dN 5 Pos.cells (kI l))):=by
 by_cases h:l = []
 .subst h;rw[ao8];show Wf T 95 [.gg] [] (Is .gg);refine Yg Ds ?_;simp[Ds];refine Yc (afR) ?_;simp;refine gx.kG rfl rfl (Wf.Fq (K:=λd H'=>d = .tup []/\H'=_) (sz:=5) rfl ⟨rfl,rfl⟩) ?_;rintro d H' ⟨rfl,rfl⟩;simp;refine gx.kG rfl rfl (afS _ _) ?_;rintro d H' ⟨rfl,rfl⟩;simp
 .have h0:0<l.length:=aw.2 h;rw[<-w8 h,<-w8 (ao7 h)];refine Yg Ds ?_;simp[Ds];refine Yn (f86 l h0 hl) ?_;simp;refine gx.kG rfl rfl (Wf.sort (K:=λd H'=>∃a,a.Perm l/\a.Pairwise (λx y=>¬iH y x<0)/\d = .tup []/\H' = [.row 46 1 (cl Pos.cells a)]) (fc:=Pos.cells) l iH rfl rfl h0 hl vG (λx y z=>zI) adN (λx g y f=>f88 x y (hs x g) (hs y f)) (gen:=1) (t:=46) (by simp) (λa i c=>⟨a,i,c,rfl,by simp⟩)) ?_;rintro d H' ⟨a,b,c,rfl,rfl⟩;simp;refine gx.kG rfl rfl (f89 1 a (λo j=>hs o ((b.mem_iff).1 j)) (by rw[b.length_eq];exact h0) (by rw[b.length_eq];omega) l.length b.length_eq) ?_;rintro d H' ⟨e,rfl,rfl⟩;simp[adV b c]
