/- Part 18 of DisputeMatchesReference. -/
import Derived.Test.YtmehofoficaelaaGreatDoorM17
set_option linter.all false
open List renaming length→List.l
open Int renaming toNat→Int.n
namespace Go.AL
open Go
theorem Wf.sort{T:iL}{f g:FuncId}{fn:jK}{sz v gen t:Nat}{H:gg}{K:D->gg->Prop}{α:Type}{fc:α->List D}[F:Fl fc sz](l:List α)(b:α->α->Int)(hs:T.sort f=some sz)(hg:T.fn g=some fn)(h0:0<l.l)(hl:l.l<2 ^ 40)
  (q:∀x,b x x=0) (tr:∀x y z,b x y<0->b y z<0->b x z<0) (h:∀x y z,¬b x y<0->¬b y z<0->¬b x z<0) (p:∀x∈l,∀y∈l,Wf T g [.agg (fc x),.agg (fc y)] [] (Is (.i (b x y)))) (n:H[v]? = some (.row t gen (cl fc l)))
  (k:∀c:List α,c.Perm l->c.Pairwise (λx y=>¬b y x<0)->K (.tup []) (H.set v (.row t gen (cl fc c)))):Wf T f [.gh v gen sz 0 l.l,.fn (.func g) [] []] H K:=
 Ev.sort fc l b hs hg (λa _=>F.len a) (λa _=>F.cl a) h0 U (λx _=>by rw[q];decide) (λx _ y _ z _=>tr x y z) (λx _ y _ z _=>h x y z)
  (λx j y i=>Ev.mono (p x j y i) λr ⟨d,H',e,h1,_⟩=>⟨H',by rw[e,h1]⟩) (by rw[n,pN]) λc o m=>⟨_,_,rfl,by rw[<-pN];exact k c o m⟩
theorem Wf.Gk{T:iL}{f:FuncId}{sz:Nat}{x:D}{H:gg}{K:D->gg->Prop}(hs:T.sort f=some sz)(k:K (.tup []) H):Wf T f [.gp,x] H K:=Ev.Gk hs ⟨_,_,rfl,k⟩
section
variable{α:Type}[DecidableEq α]
def mN:List α->List α
 | []=>[]
 | [a]=>[a]
 | a::b::t=>if b=a then mN (b::t)else a::mN (b::t)
theorem NU:∀(t:List α) (a:α),mN (a::t)=a::(mN (a::t)).tail
 | [],a=>rfl
 | b::t,a=>by
  unfold mN;split
  .rename_i h;subst h;exact NU t b
  .rfl
theorem HG{x:α}:∀ {l:List α},x∈mN l↔x∈l
 | []=>dQ
 | [a]=>dQ
 | a::b::t=>by
  unfold mN;split
  .rename_i h;subst h;rw[HG (l:=b::t)];simp
  .rw[ay,HG (l:=b::t),ay (a:=x) (b:=a)]
theorem WZ:∀l:List α,(mN l).l<=l.l
 | []=>Nat.le_refl _
 | [a]=>Nat.le_refl _
 | a::b::t=>by
  have:=WZ (b::t);unfold mN;split
  .exact Nat.le_succ_of_le this
  .simp only[aL]at *;omega
theorem aex{l:List α}(h:0<l.l):0<(mN l).l:=by
 cases l with
 | nil=>simp at h
 | cons a t=>rw[NU];simp
theorem aew{l:List α}:mN l = []↔l = []:=by
 constructor
 .intro h;rcases dY l.l with a|a
  .exact aC.1 a
  .have:=aex a;rw[h]at this;simp at this
 .rintro rfl;rfl
theorem W0{l:List α}(h:l.l<2):mN l=l:=by
 match l,h with
 | [],_=>rfl
 | [a],_=>rfl
 | a::b::t,h=>simp at h;omega
def sX(l:List α)(m:Int):List α:=(mN (l.drop (m-1).n)).tail
variable [Inhabited α]{l:List α}{m:Int}
theorem acO(h:0<l.l):mN l=l.take 1++sX l 1:=by
 cases l with
 | nil=>simp at h
 | cons a t=>exact NU t a
theorem QB(h:m=l.l)(h0:1<=m):sX l m = []:=by unfold sX;rw[o7 U U,bV U];rfl
theorem QC(h0:1<=m)(h:m<l.l)(e:gt l m=gt l (m-1)):sX l m=sX l (m+1):=by unfold sX;rw[o7 (n:=m-1) U U,(U:(m-1).n+1=m.n),o7 (n:=m) U h,mN,if_pos e,ec,o7 (n:=m) U h]
theorem QD(h0:1<=m)(h:m<l.l)(e:gt l m≠gt l (m-1)):sX l m=gt l m::sX l (m+1):=by unfold sX;rw[o7 (n:=m-1) U U,(U:(m-1).n+1=m.n),o7 (n:=m) U h,mN,if_neg e,ec,o7 (n:=m) U h];exact NU _ _
end
theorem Ri:∀ {l:List Pos},l.Pairwise (λx y=>iQ x y<=0)->(mN l).Pairwise λx y=>iQ x y<0
 | [],_=>.nil
 | [a],_=>by simp[mN]
 | a::b::t,h=>by
  have h1:=aW.1 h;have g:=aW.1 h1.2;unfold mN;split
  .exact Ri h1.2
  .rename_i d;refine aW.2 ⟨λx c=>?_,Ri h1.2⟩;rw[HG]at c;have m:=h1.1 x c
   by_cases f:iQ a x=0
   .have e:=s9.1 f;subst e;rcases ay.1 c with e|c
    .exact absurd e.symm d
    .have k:=g.1 _ c;have j:=h1.1 b gf;have i:=w6 a b;exact absurd (s9.1 (U:iQ a b=0)).symm d
   .omega
def aey{l a:List Pos}(c:a.Perm l)(b:a.Pairwise λx y=>¬iQ y x<0):mN a=lA l:=
 acG (lP.of (Ri (b.imp λ{x y} h=>by have:=w6 x y;omega))) λq=>by rw[HG,c.mem_iff]
def aeq(x y z:Pos)(h1:¬iQ x y<0)(d:¬iQ y z<0):¬iQ x z<0:=by have a:=w6 x y;have b:=w6 y z;have c:=w6 x z;have:=WV (p:=z) (q:=y) (r:=x) U U;omega
def b2(b:Bool):Int:=if b then 1 else 0
def s8(a b:ij):Int:=oH [iQ a.p b.p,lM (b2 a.kn) (b2 b.kn)]
def adG{a b:Bool}(h:b2 a=b2 b):a=b:=by revert h;cases a<;>cases b<;>simp[b2]
def NT{a b:ij}:s8 a b=0↔a=b:=by
 unfold s8;rw[RP];simp only[ay,eG,or_false,forall_eq_or_imp,forall_eq,s9,zR];constructor
 .rintro⟨h1,c⟩;have:=adG c;cases a;cases b;simp_all
 .rintro rfl;exact⟨rfl,rfl⟩
def Rg(a b:ij):s8 b a = - s8 a b:=by unfold s8 oH;rw[w6 a.p b.p,PT (b2 a.kn)];simp only[oH];(repeat' split)<;>omega
def WU(x y z:ij):s8 x y<0->s8 y z<0->s8 x z<0:=by unfold s8;refine Cz (λh=>by rw[s9.1 h]) (λh=>by rw[s9.1 h]) AF (Cz (λh=>by rw[zR.1 h]) (λh=>by rw[zR.1 h]) (by simp only[FZ];omega) λh=>?_);simp[oH]at h
def aep(x y z:ij)(h1:¬s8 x y<0)(d:¬s8 y z<0):¬s8 x z<0:=by
 have a:=Rg x y;have b:=Rg y z;have c:=Rg x z
 by_cases f:s8 x y=0
 .rw[NT.1 f];exact d
 .by_cases e:s8 y z=0
  .rw[<-NT.1 e];exact h1
  .have:=WU z y x U U;omega
theorem WB{sz:Nat}:∀(n:Nat) (a b:List D),a.l=n*sz->chunks sz n (a++b)=chunks sz n a
 | 0,_,_,_=>rfl
 | n+1,a,b,h=>by rw[cN]at h;simp only[chunks];rw[aZ U,eP U,WB n (a.drop sz) b gO]
@[simp] theorem avG{α:Type}{f:α->List D}{sz:Nat}[F:Fl f sz]{ρ:Nat->Option Nat}{H:gg}{k n:Nat}{t:TypeId}{l:List α}{b:List D}(h:n=l.l):oj ρ H (k+1) sz 0 n (some (t,cl f l++b)) = .sl sz (l.map f):=by subst h;unfold oj;dsimp only;rw[ar,rJ,aV,if_pos U,c9,eY,List.map_append,U1 (vW l),WB _ _ _ gf,pN,Rf F.len]
@[irreducible] def OD{α:Type}[Inhabited α](l:List α)(n:Nat):α:=gt l (n:Int)
theorem ET{α:Type}[Inhabited α]{l:List α}{n:Nat}{m:Int}(h:(n:Int)=m):OD l n=gt l m:=by unfold OD;rw[h]
@[simp] theorem awY{α:Type}[Inhabited α]{f:α->List D}{sz:Nat}[F:Fl f sz]{l:List α}{t:TypeId}{n:Nat}(a:0<sz):wD sz (n*sz) (some (t,cl f l))=if n<l.l then some (.agg (f (OD l n)))else none:=by have:=aix (f:=f) (l:=l) (t:=t) (n:=(n:Int)) a;rw[Int.toNat_natCast]at this;rw[this];unfold OD;rfl
@[simp] theorem auZ(sz v g off len:Nat)(z:List D)(H:gg):HC sz z (.gh v g sz off len) H=(rowAt H v g).bind λp=>if (off+len)*sz<=p.2.l then some (.any,.obj v (.row p.1 g (p.2.take (off*sz)++(List.replicate len z).flatten++p.2.drop ((off+len)*sz))))else none:=by simp only[HC];cases rowAt H v g<;>simp
def acP{α:Type}{l:List α}{n:Int}{v:α}(h0:0<=n)(h:n<l.l):(pt l n v).take (n+1).n=l.take n.n ++ [v]:=by
 have e:(l.take n.n).l=n.n:=by rw[aG];omega
 rw[pt,List.take_append,e,(U:(n+1).n-n.n=1),af U];rfl
end Go.AL
namespace Go.Proofs.YtmehofoficaelaaGreatDoor
open Go Go.AL Classical
set_option maxRecDepth 10000
set_option maxHeartbeats 4000000
def f124(a b:ij)(d:Small a.p)(c:Small b.p):Wf T 262 [.agg a.cells,.agg b.cells] [] (Is (.i (s8 a b))):=by
 obtain⟨p,u⟩:=a;obtain⟨q,v⟩:=b;cases u<;>cases v
 .refine Yg xW ?_;simp[xW,ij.cells];refine ji.c rfl rfl (f88 p q d c) gf gf ?_;simp;refine ji.c rfl rfl (f131 _ _) gf gf ?_;simp;refine ji.r rfl rfl (f129 [iQ p q,lM 0 0] gf) gf (by simp[flat]) gf ?_;simp;rfl
 .refine Yg xW ?_;simp[xW,ij.cells];refine ji.c rfl rfl (f88 p q d c) gf gf ?_;simp;refine ji.c rfl rfl (f131 _ _) gf gf ?_;simp;refine ji.r rfl rfl (f129 [iQ p q,lM 0 1] gf) gf (by simp[flat]) gf ?_;simp;rfl
 .refine Yg xW ?_;simp[xW,ij.cells];refine ji.c rfl rfl (f88 p q d c) gf gf ?_;simp;refine ji.c rfl rfl (f131 _ _) gf gf ?_;simp;refine ji.r rfl rfl (f129 [iQ p q,lM 1 0] gf) gf (by simp[flat]) gf ?_;simp;rfl
 .refine Yg xW ?_;simp[xW,ij.cells];refine ji.c rfl rfl (f88 p q d c) gf gf ?_;simp;refine ji.c rfl rfl (f131 _ _) gf gf ?_;simp;refine ji.r rfl rfl (f129 [iQ p q,lM 1 1] gf) gf (by simp[flat]) gf ?_;simp;rfl
def f126(a b:ij)(d:Small a.p)(c:Small b.p):Wf T 264 [.agg a.cells,.agg b.cells] [] (Is (.b (decide (a=b)))):=by refine Yg Lq ?_;simp[Lq,ij.cells];refine gE.c rfl rfl (f124 a b d c) gf gf ?_;simp[NT]
def f90(a b:Pos)(d:Small a)(c:Small b):Wf T 154 [.agg a.cells,.agg b.cells] [] (Is (.b (decide (a=b)))):=by refine Yg Ng ?_;simp[Ng];refine gE.c rfl rfl (f88 a b d c) gf gf ?_;simp[s9]
def f89(gen:Nat)(l:List Pos)(hs:∀p∈l,Small p)(h0:0<l.l)(hl:l.l<2 ^ 40)(n:Nat)(A:l.l=n):Wf T 153 [.gh 0 gen 5 0 n,.fn (.func 154) [] []] [.row 46 gen (cl Pos.cells l)]
  (λd H'=>∃g,d = .gh 0 gen 5 0 (mN l).l/\H' = [.row 46 gen (cl Pos.cells (mN l)++g)]):=by
 subst A;refine Yg En ?_;simp[En]
 by_cases h1:(l.l:Int)<2
 .have e:=W0 (l:=l) U;simp[h1,e]
 .simp[h1];refine gx.e (1:Int) (λy=>[(0,.gh 0 gen 5 0 l.l),(1,.fn (.func 154) [] []),(5,.i y)]) (λy=>[.row 46 gen (cl Pos.cells l)]) (λy=>1<=y/\y<=l.l/\mN l=l.take y.n++sX l y) (λy=>(l.l-y).n) ?_ ?_
  .simp;exact⟨U,by rw[acO h0]⟩
  rintro y ⟨o,D,c⟩
  by_cases b:y<l.l
  .simp[b,ET (l:=l) (n:=y.n-1) (m:=y-1) U];refine gi ?_;refine ji.c rfl rfl (f90 (gt l y) (gt l (y-1)) (hs _ (gF U b)) (hs _ (gF U U))) gf gf ?_;simp
   by_cases r:gt l y=gt l (y-1)
   .simp[r];refine gi ?_;refine gx.e ((1,y,l):Int×Int×List Pos) (λx=>[(0,.gh 0 gen 5 0 l.l),(1,.fn (.func 154) [] []),(5,.i x.2.1),(6,.gh 0 gen 5 y.n (l.l-y.n)),(7,.i x.1)]) (λx=>[.row 46 gen (cl Pos.cells x.2.2)]) (λx=>1<=x.1/\y+x.1<=l.l/\1<=x.2.1/\x.2.1<y+x.1/\x.2.2.l=l.l/\(∀j:Int,y+x.1-1<=j->gt x.2.2 j=gt l j)/\mN l=x.2.2.take x.2.1.n++sX l (y+x.1)) (λx=>(l.l-(y+x.1)).n) ?_ ?_
    .simp;exact⟨U,o,U,by rw[c,QC o b r]⟩
    rintro⟨k,i,cur⟩ ⟨k0,k1,i0,z,a,h,c2⟩;dsimp only at k0 k1 i0 z a h c2 ⊢
    by_cases s:y+k<l.l
    .have v:gt cur (y+k)=gt l (y+k):=h _ U;have C:gt cur (y+k-1)=gt l (y+k-1):=h _ U;have u:=ET (l:=cur) (n:=y.n+k.n) (m:=y+k) U;have B:=ET (l:=cur) (n:=y.n+(k.n-1)) (m:=y+k-1) U;simp[(U:k<((l.l-y.n:Nat):Int)),u,B,v,C,a];refine gi ?_;refine ji.c rfl rfl (f90 (gt l (y+k)) (gt l (y+k-1)) (hs _ (gF U s)) (hs _ (gF U U))) gf gf ?_;simp
     by_cases q:gt l (y+k)=gt l (y+k-1)
     .simp[q];refine gi ?_;refine LJ.e (k+1,i,cur) ?_;refine⟨gI,gI,gI,i0,gI,a,λj t=>h j (by dsimp only at t;omega),?_⟩;dsimp only;rw[c2,QC U s q,fe]
     .simp[q,u,v,a];refine kG u v a ?_;have w:=NR (f:=Pos.cells) cur i U (gt l (y+k));refine LJ.i (k+1,i+1,pt cur i (gt l (y+k))) sw (by dsimp only;rw[<-w];rfl) rfl rfl ?_;refine⟨gI,gI,gI,gI,gI,by dsimp only;rw[jg U U];exact a,λj t=>?_,?_⟩
      .dsimp only at t ⊢;rw[YQ U U U U];exact h j U
      .dsimp only;rw[acP U U,c2,QD U s q,fe];simp
    .have e:sX l (y+k) = []:=QB U U;rw[e,aD]at c2;simp[(U:¬k<((l.l-y.n:Nat):Int)),a];refine gi ?_;exact⟨by rw[c2];simp;omega,_,by rw[y9,c2]⟩
   .simp[r];refine gi ?_;refine LJ.e (y+1) ?_;refine ic ?_;rw[c,QD o b r,jI U b];simp
  .have e:sX l y = []:=QB U o;rw[e,aD,lW U]at c;simp[b];exact⟨by rw[c],[],by rw[c];simp⟩
def f125(g:gv)(s:Pos)(gen:Nat)(l:List ij)(hs:∀p∈l,Small p.p)(h0:0<l.l)(hl:l.l<2 ^ 40)(n:Nat)(C:l.l=n):Wf T 263 [.gh 3 gen 6 0 n,.fn (.func 264) [] []] [.row 43 0 g.cells,.row 46 0 s.cells,.row 256 0 [.gh 3 gen 6 0 n],.row 259 gen (cl ij.cells l)]
  (λd H'=>∃h,d = .gh 3 gen 6 0 (mN l).l/\H' = [.row 43 0 g.cells,.row 46 0 s.cells,.row 256 0 [.gh 3 gen 6 0 n],.row 259 gen (cl ij.cells (mN l)++h)]):=by
 subst C;refine Yg Ed ?_;simp[Ed]
 by_cases h1:(l.l:Int)<2
 .have e:=W0 (l:=l) U;simp[h1,e]
 .simp[h1];refine gx.e (1:Int) (λy=>[(0,.gh 3 gen 6 0 l.l),(1,.fn (.func 264) [] []),(5,.i y)]) (λy=>[.row 43 0 g.cells,.row 46 0 s.cells,.row 256 0 [.gh 3 gen 6 0 l.l],.row 259 gen (cl ij.cells l)]) (λy=>1<=y/\y<=l.l/\mN l=l.take y.n++sX l y) (λy=>(l.l-y).n) ?_ ?_
  .simp;exact⟨U,by rw[acO h0]⟩
  rintro y ⟨q,F,c⟩
  by_cases b:y<l.l
  .simp[b,ET (l:=l) (n:=y.n-1) (m:=y-1) U];refine gi ?_;refine ji.c rfl rfl (f126 (gt l y) (gt l (y-1)) (hs _ (gF U b)) (hs _ (gF U U))) gf gf ?_;simp
   by_cases t:gt l y=gt l (y-1)
   .simp[t];refine gi ?_;refine gx.e ((1,y,l):Int×Int×List ij) (λx=>[(0,.gh 3 gen 6 0 l.l),(1,.fn (.func 264) [] []),(5,.i x.2.1),(6,.gh 3 gen 6 y.n (l.l-y.n)),(7,.i x.1)]) (λx=>[.row 43 0 g.cells,.row 46 0 s.cells,.row 256 0 [.gh 3 gen 6 0 l.l],.row 259 gen (cl ij.cells x.2.2)]) (λx=>1<=x.1/\y+x.1<=l.l/\1<=x.2.1/\x.2.1<y+x.1/\x.2.2.l=l.l/\(∀j:Int,y+x.1-1<=j->gt x.2.2 j=gt l j)/\mN l=x.2.2.take x.2.1.n++sX l (y+x.1)) (λx=>(l.l-(y+x.1)).n) ?_ ?_
    .simp;exact⟨U,q,U,by rw[c,QC q b t]⟩
    rintro⟨k,i,cur⟩ ⟨k0,k1,i0,B,a,o,c2⟩;dsimp only at k0 k1 i0 B a o c2 ⊢
    by_cases u:y+k<l.l
    .have z:gt cur (y+k)=gt l (y+k):=o _ U;have E:gt cur (y+k-1)=gt l (y+k-1):=o _ U;have w:=ET (l:=cur) (n:=y.n+k.n) (m:=y+k) U;have D:=ET (l:=cur) (n:=y.n+(k.n-1)) (m:=y+k-1) U;simp[(U:k<((l.l-y.n:Nat):Int)),w,D,z,E,a];refine gi ?_;refine ji.c rfl rfl (f126 (gt l (y+k)) (gt l (y+k-1)) (hs _ (gF U u)) (hs _ (gF U U))) gf gf ?_;simp
     by_cases r:gt l (y+k)=gt l (y+k-1)
     .simp[r];refine gi ?_;refine LJ.e (k+1,i,cur) ?_;refine⟨gI,gI,gI,i0,gI,a,λj v=>o j (by dsimp only at v;omega),?_⟩;dsimp only;rw[c2,QC U u r,fe]
     .simp[r,w,z,a];refine kG w z a ?_;have A:=NR (f:=ij.cells) cur i U (gt l (y+k));refine LJ.i (k+1,i+1,pt cur i (gt l (y+k))) sw (by dsimp only;rw[<-A];rfl) rfl rfl ?_;refine⟨gI,gI,gI,gI,gI,by dsimp only;rw[jg U U];exact a,λj v=>?_,?_⟩
      .dsimp only at v ⊢;rw[YQ U U U U];exact o j U
      .dsimp only;rw[acP U U,c2,QD U u r,fe];simp
    .have e:sX l (y+k) = []:=QB U U;rw[e,aD]at c2;simp[(U:¬k<((l.l-y.n:Nat):Int)),a];refine gi ?_;exact⟨by rw[c2];simp;omega,_,by rw[y9,c2]⟩
   .simp[t];refine gi ?_;refine LJ.e (y+1) ?_;refine ic ?_;rw[c,QD q b t,jI U b];simp
  .have e:sX l y = []:=QB U q;rw[e,aD,lW U]at c;simp[b];exact⟨by rw[c],[],by rw[c];simp⟩
def agj(x:D)(H:gg):Wf T 263 [.gp,x] H (λd H'=>d = .gp/\H'=H):=by refine Yg Ed ?_;simp[Ed]
def agD(x:D)(H:gg):Wf T 153 [.gp,x] H (λd H'=>d = .gp/\H'=H):=by refine Yg En ?_;simp[En]
theorem V3{g:gv}:∀ {l:List gj} {now:List gG},(uh g l now).l<=10 ^ l.l*now.l
 | [],now=>by simp[uh]
 | x::r,now=>by rw[uh];refine Nat.le_trans V3 ?_;rw[aL,eN,fY];exact eT _ Jr
theorem QW{g:gv}:∀ {l:List gj} {a b:List gG},(∀t,t∈a↔t∈b)->∀t,t∈uh g l a↔t∈uL g l b
 | [],a,b,h,t=>h t
 | x::r,a,b,h,t=>by rw[uh,uL];refine QW (λt=>?_) t;rw[PQ,bN,bN];exact⟨λ⟨s,h1,c⟩=>⟨s,(h s).1 h1,c⟩,λ⟨s,h1,c⟩=>⟨s,(h s).2 h1,c⟩⟩
def abS{g:gv}{p:Pos}{c n:Int}{o:ij}:o∈vD g p c n↔o∈wH g p c (gt (gt g.kinds (gV (gt p.cs c))).jN n):=by unfold vD wH;rw[db,db];exact⟨λ⟨s,h1,a⟩=>⟨s,(QW (λ_=>dQ) s).1 h1,a⟩,λ⟨s,h1,a⟩=>⟨s,(QW (λ_=>dQ) s).2 h1,a⟩⟩
def f85(g:gv)(hg:gZ g)(p:Pos)(i:iI g p)(c n:Int)(w:0<=c/\c<p.cs.l)(hs:kE (gt p.cs c)=p.side)(k:0<=n/\n<(gt g.kinds (gV (gt p.cs c))).jN.l) :
  Wf T 214 [dG g,dP p,.i c,.i n] [] (Ey (λr:List ij=>.tup [dN 6 ij.cells r,.i 0]) λr=>(∀o,o∈r↔o∈wH g p c (gt (gt g.kinds (gV (gt p.cs c))).jN n))/\r.l<=100000000):=by
 have E:=i.size;have l:=J3 hg i w.1 U hs;have m:yT g (gt (gt g.kinds (gV (gt p.cs c))).jN n):=(hg.jN _ (gF l.kind.1 l.kind.2)).2 _ (gF k.1 k.2)
 have v:(vD g p c n).l<=100000000:=by unfold vD;refine Nat.le_trans (fy ..) (Nat.le_trans V3 ?_);have:=m.len;have:10 ^ (gt (gt g.kinds (gV (gt p.cs c))).jN n).l<=10 ^ 8:=cY jr U;simpa using this
 have j:∀o,o∈vD g p c n->Small o.p:=λo b=>by rw[abS]at b;unfold wH at b;rw[db]at b;obtain⟨s,h1,D⟩:=b;exact(Om (Qi hg m.steps (λt C=>by rw[List.mem_singleton.1 C];exact l) s h1) i.side.1 i.side.2 D).small hg
 refine Yg Nd ?_;simp[Nd];refine gE.lU rfl rfl (f121 g hg p i c n w hs k) ?_;rintro d H' ⟨rfl,rfl⟩;have u:=λo=>abS (g:=g) (p:=p) (c:=c) (n:=n) (o:=o);generalize vD g p c n=outs at *
 by_cases b:outs = []
 .subst b;simp;refine gE.lU rfl rfl (Wf.Gk (K:=λd H'=>d = .tup []/\H'=_) (sz:=6) rfl ⟨rfl,rfl⟩) ?_;rintro d H' ⟨rfl,rfl⟩;simp;refine gE.lU rfl rfl (agj _ _) ?_;rintro d H' ⟨rfl,rfl⟩;simp;exact Ey.i [] rfl rfl ⟨u,gf⟩
 .have h0:0<outs.l:=ao.2 b;rw[if_neg b];simp;refine gE.lU rfl rfl (Wf.sort (K:=λd H'=>∃e,e.Perm outs/\d = .tup []/\H' = [.row 43 0 g.cells,.row 46 0 p.cells,.row 256 0 [.gh 3 (outs.l-1) 6 0 outs.l],.row 259 (outs.l-1) (cl ij.cells e)]) (fc:=ij.cells) outs s8 rfl rfl h0 U (λx=>NT.2 rfl) WU aep (λx B y A=>f124 x y (j x B) (j y A)) (gen:=outs.l-1) (t:=259) gf (λe i F=>⟨e,i,rfl,gf⟩)) ?_;rintro d H' ⟨e,f,rfl,rfl⟩;simp;refine gE.lU rfl rfl (f125 g p (outs.l-1) e (λo b=>j o ((f.mem_iff).1 b)) (by rw[f.length_eq];exact h0) (by rw[f.length_eq];omega) outs.l f.length_eq) ?_;rintro d H' ⟨q,rfl,rfl⟩;simp;have z:mN e≠[]:=λh=>b (by rw[aew]at h;rw[h]at f;exact f.symm.eq_nil);refine Ey.i (mN e) (by revert z;cases mN e with|nil=>intro h;exact absurd rfl h|cons a r=>intro _;rfl) rfl ⟨λo=>by rw[HG,f.mem_iff,u],?_⟩;have:=WZ e;have:=f.length_eq;omega
def f86(l:List Pos)(h:0<l.l)(b:l.l<2 ^ 40):Wf T 150 [gT l] [] (λd H=>d = .gh 0 1 5 0 l.l/\H = [.row 46 1 (cl Pos.cells l)]):=by refine Yg Em ?_;simp[Em];refine oA.i (a:=.b false) (by cases l with|nil=>exact absurd h gf|cons a r=>rfl) ?_;simp;exact nb
def agC:Wf T 150 [.gp] [] (Is .gp):=by refine Yg Em ?_;simp[Em]
def ya{l:List Pos}(h:l≠[]):gT l=dN 5 Pos.cells l:=by
 cases l with
 | nil=>exact absurd rfl h
 | cons a r=>rfl
@[simp] theorem auI(l:List Pos):closed (dN 5 Pos.cells l)=true:=Cg (λa=>gf) l
theorem apS:lA [] = []:=aC.1 (Nat.le_zero.1 (Qu []))
def apR{l:List Pos}(h:l≠[]):lA l≠[]:=λe=>by obtain⟨a,r,rfl⟩:=ff h;have:a∈lA (a::r):=xQ.2 gf;rw[e]at this;cases this
def f48(l:List Pos)(hs:∀p∈l,Small p)(hl:l.l<2 ^ 40):Wf T 95 [dN 5 Pos.cells l] [] (Is (dN 5 Pos.cells (lA l))):=by
 by_cases h:l = []
 .subst h;rw[apS];show Wf T 95 [.gp] [] (Is .gp);refine Yg Ek ?_;simp[Ek];refine Yc (agC) ?_;simp;refine gE.lU rfl rfl (Wf.Gk (K:=λd H'=>d = .tup []/\H'=_) (sz:=5) rfl ⟨rfl,rfl⟩) ?_;rintro d H' ⟨rfl,rfl⟩;simp;refine gE.lU rfl rfl (agD _ _) ?_;rintro d H' ⟨rfl,rfl⟩;simp
 .have h0:0<l.l:=ao.2 h;rw[<-ya h,<-ya (apR h)];refine Yg Ek ?_;simp[Ek];refine Yn (f86 l h0 hl) ?_;simp;refine gE.lU rfl rfl (Wf.sort (K:=λd H'=>∃a,a.Perm l/\a.Pairwise (λx y=>¬iQ y x<0)/\d = .tup []/\H' = [.row 46 1 (cl Pos.cells a)]) (fc:=Pos.cells) l iQ rfl rfl h0 hl w5 (λx y z=>AF) aeq (λx g y f=>f88 x y (hs x g) (hs y f)) (gen:=1) (t:=46) gf (λa i c=>⟨a,i,c,rfl,gf⟩)) ?_;rintro d H' ⟨a,b,c,rfl,rfl⟩;simp;refine gE.lU rfl rfl (f89 1 a (λo j=>hs o ((b.mem_iff).1 j)) (by rw[b.length_eq];exact h0) (by rw[b.length_eq];omega) l.l b.length_eq) ?_;rintro d H' ⟨e,rfl,rfl⟩;simp[aey b c]
