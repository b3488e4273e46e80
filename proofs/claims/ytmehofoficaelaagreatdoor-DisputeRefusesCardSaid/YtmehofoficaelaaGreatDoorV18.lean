/- 18 -/
import Derived.Test.YtmehofoficaelaaGreatDoorV17
set_option linter.all false
open List renaming length→List.l
open Int renaming toNat→Int.n
namespace Go.AL
open Go
theorem Wf.sort{T:iF}{f g:FuncId}{fn:jq}{sz v gen t:Nat}{H:gd}{K:D->gd->Prop}{α:Type}{fc:α->List D}[F:Fl fc sz](l:List α)(b:α->α->Int)(hs:T.sort f=some sz)(hg:T.fn g=some fn)(h0:0<l.l)(hl:l.l<2 ^ 40)
  (q:∀x,b x x=0) (tr:∀x y z,b x y<0->b y z<0->b x z<0) (h:∀x y z,¬b x y<0->¬b y z<0->¬b x z<0) (p:∀x∈l,∀y∈l,Wf T g [.agg (fc x),.agg (fc y)] [] (Is (.i (b x y)))) (n:H[v]? = some (.row t gen (cl fc l)))
  (k:∀c:List α,c.Perm l->c.Pairwise (λx y=>¬b y x<0)->K (.tup []) (H.set v (.row t gen (cl fc c)))):Wf T f [.gf v gen sz 0 l.l,.fn (.func g) [] []] H K:=
 Ev.sort fc l b hs hg (λa _=>F.len a) (λa _=>F.cl a) h0 U (λx _=>by rw[q];decide) (λx _ y _ z _=>tr x y z) (λx _ y _ z _=>h x y z)
  (λx j y i=>Ev.mono (p x j y i) λr ⟨d,H',e,h1,_⟩=>⟨H',by rw[e,h1]⟩) (by rw[n,oV]) λc o m=>⟨_,_,rfl,by rw[<-oV];exact k c o m⟩
theorem Wf.Fe{T:iF}{f:FuncId}{sz:Nat}{x:D}{H:gd}{K:D->gd->Prop}(hs:T.sort f=some sz)(k:K (.tup []) H):Wf T f [.gi,x] H K:=Ev.Fe hs ⟨_,_,rfl,k⟩
section
variable{α:Type}[DecidableEq α]
def mf:List α->List α
 | []=>[]
 | [a]=>[a]
 | a::b::t=>if b=a then mf (b::t)else a::mf (b::t)
theorem MK:∀(t:List α) (a:α),mf (a::t)=a::(mf (a::t)).tail
 | [],a=>rfl
 | b::t,a=>by
  unfold mf;split
  .rename_i h;subst h;exact MK t b
  .rfl
theorem Gn{x:α}:∀ {l:List α},x∈mf l↔x∈l
 | []=>dH
 | [a]=>dH
 | a::b::t=>by
  unfold mf;split
  .rename_i h;subst h;rw[Gn (l:=b::t)];simp
  .rw[av,Gn (l:=b::t),av (a:=x) (b:=a)]
theorem Vs:∀l:List α,(mf l).l<=l.l
 | []=>Nat.le_refl _
 | [a]=>Nat.le_refl _
 | a::b::t=>by
  have:=Vs (b::t);unfold mf;split
  .exact Nat.le_succ_of_le this
  .simp only[aI]at *;omega
theorem acZ{l:List α}(h:0<l.l):0<(mf l).l:=by
 cases l with
 | nil=>simp at h
 | cons a t=>rw[MK];simp
theorem acY{l:List α}:mf l = []↔l = []:=by
 constructor
 .intro h;rcases dQ l.l with a|a
  .exact aA.1 a
  .have:=acZ a;rw[h]at this;simp at this
 .rintro rfl;rfl
theorem Vt{l:List α}(h:l.l<2):mf l=l:=by
 match l,h with
 | [],_=>rfl
 | [a],_=>rfl
 | a::b::t,h=>simp at h;omega
def rF(l:List α)(m:Int):List α:=(mf (l.drop (m-1).n)).tail
variable [Inhabited α]{l:List α}{m:Int}
theorem abf(h:0<l.l):mf l=l.take 1++rF l 1:=by
 cases l with
 | nil=>simp at h
 | cons a t=>exact MK t a
theorem Pm(h:m=l.l)(h0:1<=m):rF l m = []:=by unfold rF;rw[oe U U,bQ U];rfl
theorem Pn(h0:1<=m)(h:m<l.l)(e:gt l m=gt l (m-1)):rF l m=rF l (m+1):=by unfold rF;rw[oe (n:=m-1) U U,(U:(m-1).n+1=m.n),oe (n:=m) U h,mf,if_pos e,dq,oe (n:=m) U h]
theorem Po(h0:1<=m)(h:m<l.l)(e:gt l m≠gt l (m-1)):rF l m=gt l m::rF l (m+1):=by unfold rF;rw[oe (n:=m-1) U U,(U:(m-1).n+1=m.n),oe (n:=m) U h,mf,if_neg e,dq,oe (n:=m) U h];exact MK _ _
end
theorem P1:∀ {l:List Pos},l.Pairwise (λx y=>iH x y<=0)->(mf l).Pairwise λx y=>iH x y<0
 | [],_=>.nil
 | [a],_=>by simp[mf]
 | a::b::t,h=>by
  have h1:=aT.1 h;have g:=aT.1 h1.2;unfold mf;split
  .exact P1 h1.2
  .rename_i d;refine aT.2 ⟨λx c=>?_,P1 h1.2⟩;rw[Gn]at c;have m:=h1.1 x c
   by_cases f:iH a x=0
   .have e:=rO.1 f;subst e;rcases av.1 c with e|c
    .exact absurd e.symm d
    .have k:=g.1 _ c;have j:=h1.1 b fZ;have i:=vj a b;exact absurd (rO.1 (U:iH a b=0)).symm d
   .omega
def ac0{l a:List Pos}(c:a.Perm l)(b:a.Pairwise λx y=>¬iH y x<0):mf a=kN l:=
 aa5 (kT.of (P1 (b.imp λ{x y} h=>by have:=vj x y;omega))) λq=>by rw[Gn,c.mem_iff]
def acS(x y z:Pos)(h1:¬iH x y<0)(d:¬iH y z<0):¬iH x z<0:=by have a:=vj x y;have b:=vj y z;have c:=vj x z;have:=Vo (p:=z) (q:=y) (r:=x) U U;omega
def b2(b:Bool):Int:=if b then 1 else 0
def rN(a b:gY):Int:=nz [iH a.p b.p,lh (b2 a.jY) (b2 b.jY)]
def ab5{a b:Bool}(h:b2 a=b2 b):a=b:=by revert h;cases a<;>cases b<;>simp[b2]
def MJ{a b:gY}:rN a b=0↔a=b:=by
 unfold rN;rw[Qv];simp only[av,eu,or_false,forall_eq_or_imp,forall_eq,rO,yO];constructor
 .rintro⟨h1,c⟩;have:=ab5 c;cases a;cases b;simp_all
 .rintro rfl;exact⟨rfl,rfl⟩
def PZ(a b:gY):rN b a = - rN a b:=by unfold rN nz;rw[vj a.p b.p,OD (b2 a.jY)];simp only[nz];(repeat' split)<;>omega
def Vn(x y z:gY):rN x y<0->rN y z<0->rN x z<0:=by unfold rN;refine Br (λh=>by rw[rO.1 h]) (λh=>by rw[rO.1 h]) zz (Br (λh=>by rw[yO.1 h]) (λh=>by rw[yO.1 h]) (by simp only[ET];omega) λh=>?_);simp[nz]at h
def acR(x y z:gY)(h1:¬rN x y<0)(d:¬rN y z<0):¬rN x z<0:=by
 have a:=PZ x y;have b:=PZ y z;have c:=PZ x z
 by_cases f:rN x y=0
 .rw[MJ.1 f];exact d
 .by_cases e:rN y z=0
  .rw[<-MJ.1 e];exact h1
  .have:=Vn z y x U U;omega
theorem U8{sz:Nat}:∀(n:Nat) (a b:List D),a.l=n*sz->chunks sz n (a++b)=chunks sz n a
 | 0,_,_,_=>rfl
 | n+1,a,b,h=>by rw[cH]at h;simp only[chunks];rw[aW U,eG U,U8 n (a.drop sz) b gL]
@[simp] theorem afm{α:Type}{f:α->List D}{sz:Nat}[F:Fl f sz]{ρ:Nat->Option Nat}{H:gd}{k n:Nat}{t:TypeId}{l:List α}{b:List D}(h:n=l.l):mT ρ H (k+1) sz 0 n (some (t,cl f l++b)) = .sl sz (l.map f):=by subst h;unfold mT;dsimp only;rw[aq,sZ,aR,if_pos U,cS,eR,List.map_append,Pa (sw l),U8 _ _ _ fZ,oV,PY F.len]
@[irreducible] def DO{α:Type}[Inhabited α](l:List α)(n:Nat):α:=gt l (n:Int)
theorem DP{α:Type}[Inhabited α]{l:List α}{n:Nat}{m:Int}(h:(n:Int)=m):DO l n=gt l m:=by unfold DO;rw[h]
@[simp] theorem avk{α:Type}[Inhabited α]{f:α->List D}{sz:Nat}[F:Fl f sz]{l:List α}{t:TypeId}{n:Nat}(a:0<sz):uX sz (n*sz) (some (t,cl f l))=if n<l.l then some (.agg (f (DO l n)))else none:=by have:=ag6 (f:=f) (l:=l) (t:=t) (n:=(n:Int)) a;rw[bF]at this;rw[this];unfold DO;rfl
@[simp] theorem ate(sz v g off len:Nat)(z:List D)(H:gd):Gl sz z (.gf v g sz off len) H=(rowAt H v g).bind λp=>if (off+len)*sz<=p.2.l then some (.any,.obj v (.row p.1 g (p.2.take (off*sz)++(List.replicate len z).flatten++p.2.drop ((off+len)*sz))))else none:=by simp only[Gl];cases rowAt H v g<;>simp
def abg{α:Type}{l:List α}{n:Int}{v:α}(h0:0<=n)(h:n<l.l):(pt l n v).take (n+1).n=l.take n.n ++ [v]:=by
 have e:(l.take n.n).l=n.n:=by rw[aJ];omega
 rw[pt,List.take_append,e,(U:(n+1).n-n.n=1),af U];rfl
end Go.AL
namespace Go.Proofs.YtmehofoficaelaaGreatDoor
open Go Go.AL Classical
set_option maxRecDepth 10000
set_option maxHeartbeats 4000000
def f124(a b:gY)(d:Small a.p)(c:Small b.p):Wf T 262 [.agg a.cells,.agg b.cells] [] (Is (.i (rN a b))):=by
 obtain⟨p,u⟩:=a;obtain⟨q,v⟩:=b;cases u<;>cases v
 .refine Yg wL ?_;simp[wL,gY.cells];refine iZ.c rfl rfl (f88 p q d c) fZ fZ ?_;simp;refine iZ.c rfl rfl (f131 _ _) fZ fZ ?_;simp;refine iZ.r rfl rfl (f129 [iH p q,lh 0 0] fZ) fZ (by simp[flat]) fZ ?_;simp;rfl
 .refine Yg wL ?_;simp[wL,gY.cells];refine iZ.c rfl rfl (f88 p q d c) fZ fZ ?_;simp;refine iZ.c rfl rfl (f131 _ _) fZ fZ ?_;simp;refine iZ.r rfl rfl (f129 [iH p q,lh 0 1] fZ) fZ (by simp[flat]) fZ ?_;simp;rfl
 .refine Yg wL ?_;simp[wL,gY.cells];refine iZ.c rfl rfl (f88 p q d c) fZ fZ ?_;simp;refine iZ.c rfl rfl (f131 _ _) fZ fZ ?_;simp;refine iZ.r rfl rfl (f129 [iH p q,lh 1 0] fZ) fZ (by simp[flat]) fZ ?_;simp;rfl
 .refine Yg wL ?_;simp[wL,gY.cells];refine iZ.c rfl rfl (f88 p q d c) fZ fZ ?_;simp;refine iZ.c rfl rfl (f131 _ _) fZ fZ ?_;simp;refine iZ.r rfl rfl (f129 [iH p q,lh 1 1] fZ) fZ (by simp[flat]) fZ ?_;simp;rfl
def f126(a b:gY)(d:Small a.p)(c:Small b.p):Wf T 264 [.agg a.cells,.agg b.cells] [] (Is (.b (decide (a=b)))):=by refine Yg Kc ?_;simp[Kc,gY.cells];refine gy.c rfl rfl (f124 a b d c) fZ fZ ?_;simp[MJ]
def f90(a b:Pos)(d:Small a)(c:Small b):Wf T 154 [.agg a.cells,.agg b.cells] [] (Is (.b (decide (a=b)))):=by refine Yg L4 ?_;simp[L4];refine gy.c rfl rfl (f88 a b d c) fZ fZ ?_;simp[rO]
def f89(gen:Nat)(l:List Pos)(hs:∀p∈l,Small p)(h0:0<l.l)(hl:l.l<2 ^ 40)(n:Nat)(A:l.l=n):Wf T 153 [.gf 0 gen 5 0 n,.fn (.func 154) [] []] [.row 46 gen (cl Pos.cells l)]
  (λd H'=>∃g,d = .gf 0 gen 5 0 (mf l).l/\H' = [.row 46 gen (cl Pos.cells (mf l)++g)]):=by
 subst A;refine Yg Dg ?_;simp[Dg]
 by_cases h1:(l.l:Int)<2
 .have e:=Vt (l:=l) U;simp[h1,e]
 .simp[h1];refine gx.e (1:Int) (λy=>[(0,.gf 0 gen 5 0 l.l),(1,.fn (.func 154) [] []),(5,.i y)]) (λy=>[.row 46 gen (cl Pos.cells l)]) (λy=>1<=y/\y<=l.l/\mf l=l.take y.n++rF l y) (λy=>(l.l-y).n) ?_ ?_
  .simp;exact⟨U,by rw[abf h0]⟩
  rintro y ⟨o,D,c⟩
  by_cases b:y<l.l
  .simp[b,DP (l:=l) (n:=y.n-1) (m:=y-1) U];refine gh ?_;refine iZ.c rfl rfl (f90 (gt l y) (gt l (y-1)) (hs _ (gF U b)) (hs _ (gF U U))) fZ fZ ?_;simp
   by_cases r:gt l y=gt l (y-1)
   .simp[r];refine gh ?_;refine gx.e ((1,y,l):Int×Int×List Pos) (λx=>[(0,.gf 0 gen 5 0 l.l),(1,.fn (.func 154) [] []),(5,.i x.2.1),(6,.gf 0 gen 5 y.n (l.l-y.n)),(7,.i x.1)]) (λx=>[.row 46 gen (cl Pos.cells x.2.2)]) (λx=>1<=x.1/\y+x.1<=l.l/\1<=x.2.1/\x.2.1<y+x.1/\x.2.2.l=l.l/\(∀j:Int,y+x.1-1<=j->gt x.2.2 j=gt l j)/\mf l=x.2.2.take x.2.1.n++rF l (y+x.1)) (λx=>(l.l-(y+x.1)).n) ?_ ?_
    .simp;exact⟨U,o,U,by rw[c,Pn o b r]⟩
    rintro⟨k,i,cur⟩ ⟨k0,k1,i0,z,a,h,c2⟩;dsimp only at k0 k1 i0 z a h c2 ⊢
    by_cases s:y+k<l.l
    .have v:gt cur (y+k)=gt l (y+k):=h _ U;have C:gt cur (y+k-1)=gt l (y+k-1):=h _ U;have u:=DP (l:=cur) (n:=y.n+k.n) (m:=y+k) U;have B:=DP (l:=cur) (n:=y.n+(k.n-1)) (m:=y+k-1) U;simp[(U:k<((l.l-y.n:Nat):Int)),u,B,v,C,a];refine gh ?_;refine iZ.c rfl rfl (f90 (gt l (y+k)) (gt l (y+k-1)) (hs _ (gF U s)) (hs _ (gF U U))) fZ fZ ?_;simp
     by_cases q:gt l (y+k)=gt l (y+k-1)
     .simp[q];refine gh ?_;refine LJ.e (k+1,i,cur) ?_;refine⟨gJ,gJ,gJ,i0,gJ,a,λj t=>h j (by dsimp only at t;omega),?_⟩;dsimp only;rw[c2,Pn U s q,eX]
     .simp[q,u,v,a];refine nL u v a ?_;have w:=MG (f:=Pos.cells) cur i U (gt l (y+k));refine LJ.i (k+1,i+1,pt cur i (gt l (y+k))) xJ (by dsimp only;rw[<-w];rfl) rfl rfl ?_;refine⟨gJ,gJ,gJ,gJ,gJ,by dsimp only;rw[iW U U];exact a,λj t=>?_,?_⟩
      .dsimp only at t ⊢;rw[W7 U U U U];exact h j U
      .dsimp only;rw[abg U U,c2,Po U s q,eX];simp
    .have e:rF l (y+k) = []:=Pm U U;rw[e,aB]at c2;simp[(U:¬k<((l.l-y.n:Nat):Int)),a];refine gh ?_;exact⟨by rw[c2];simp;omega,_,by rw[xX,c2]⟩
   .simp[r];refine gh ?_;refine LJ.e (y+1) ?_;refine gX ?_;rw[c,Po o b r,jt U b];simp
  .have e:rF l y = []:=Pm U o;rw[e,aB,lC U]at c;simp[b];exact⟨by rw[c],[],by rw[c];simp⟩
def f125(g:gq)(s:Pos)(gen:Nat)(l:List gY)(hs:∀p∈l,Small p.p)(h0:0<l.l)(hl:l.l<2 ^ 40)(n:Nat)(C:l.l=n):Wf T 263 [.gf 3 gen 6 0 n,.fn (.func 264) [] []] [.row 43 0 g.cells,.row 46 0 s.cells,.row 256 0 [.gf 3 gen 6 0 n],.row 259 gen (cl gY.cells l)]
  (λd H'=>∃h,d = .gf 3 gen 6 0 (mf l).l/\H' = [.row 43 0 g.cells,.row 46 0 s.cells,.row 256 0 [.gf 3 gen 6 0 n],.row 259 gen (cl gY.cells (mf l)++h)]):=by
 subst C;refine Yg C9 ?_;simp[C9]
 by_cases h1:(l.l:Int)<2
 .have e:=Vt (l:=l) U;simp[h1,e]
 .simp[h1];refine gx.e (1:Int) (λy=>[(0,.gf 3 gen 6 0 l.l),(1,.fn (.func 264) [] []),(5,.i y)]) (λy=>[.row 43 0 g.cells,.row 46 0 s.cells,.row 256 0 [.gf 3 gen 6 0 l.l],.row 259 gen (cl gY.cells l)]) (λy=>1<=y/\y<=l.l/\mf l=l.take y.n++rF l y) (λy=>(l.l-y).n) ?_ ?_
  .simp;exact⟨U,by rw[abf h0]⟩
  rintro y ⟨q,F,c⟩
  by_cases b:y<l.l
  .simp[b,DP (l:=l) (n:=y.n-1) (m:=y-1) U];refine gh ?_;refine iZ.c rfl rfl (f126 (gt l y) (gt l (y-1)) (hs _ (gF U b)) (hs _ (gF U U))) fZ fZ ?_;simp
   by_cases t:gt l y=gt l (y-1)
   .simp[t];refine gh ?_;refine gx.e ((1,y,l):Int×Int×List gY) (λx=>[(0,.gf 3 gen 6 0 l.l),(1,.fn (.func 264) [] []),(5,.i x.2.1),(6,.gf 3 gen 6 y.n (l.l-y.n)),(7,.i x.1)]) (λx=>[.row 43 0 g.cells,.row 46 0 s.cells,.row 256 0 [.gf 3 gen 6 0 l.l],.row 259 gen (cl gY.cells x.2.2)]) (λx=>1<=x.1/\y+x.1<=l.l/\1<=x.2.1/\x.2.1<y+x.1/\x.2.2.l=l.l/\(∀j:Int,y+x.1-1<=j->gt x.2.2 j=gt l j)/\mf l=x.2.2.take x.2.1.n++rF l (y+x.1)) (λx=>(l.l-(y+x.1)).n) ?_ ?_
    .simp;exact⟨U,q,U,by rw[c,Pn q b t]⟩
    rintro⟨k,i,cur⟩ ⟨k0,k1,i0,B,a,o,c2⟩;dsimp only at k0 k1 i0 B a o c2 ⊢
    by_cases u:y+k<l.l
    .have z:gt cur (y+k)=gt l (y+k):=o _ U;have E:gt cur (y+k-1)=gt l (y+k-1):=o _ U;have w:=DP (l:=cur) (n:=y.n+k.n) (m:=y+k) U;have D:=DP (l:=cur) (n:=y.n+(k.n-1)) (m:=y+k-1) U;simp[(U:k<((l.l-y.n:Nat):Int)),w,D,z,E,a];refine gh ?_;refine iZ.c rfl rfl (f126 (gt l (y+k)) (gt l (y+k-1)) (hs _ (gF U u)) (hs _ (gF U U))) fZ fZ ?_;simp
     by_cases r:gt l (y+k)=gt l (y+k-1)
     .simp[r];refine gh ?_;refine LJ.e (k+1,i,cur) ?_;refine⟨gJ,gJ,gJ,i0,gJ,a,λj v=>o j (by dsimp only at v;omega),?_⟩;dsimp only;rw[c2,Pn U u r,eX]
     .simp[r,w,z,a];refine nL w z a ?_;have A:=MG (f:=gY.cells) cur i U (gt l (y+k));refine LJ.i (k+1,i+1,pt cur i (gt l (y+k))) xJ (by dsimp only;rw[<-A];rfl) rfl rfl ?_;refine⟨gJ,gJ,gJ,gJ,gJ,by dsimp only;rw[iW U U];exact a,λj v=>?_,?_⟩
      .dsimp only at v ⊢;rw[W7 U U U U];exact o j U
      .dsimp only;rw[abg U U,c2,Po U u r,eX];simp
    .have e:rF l (y+k) = []:=Pm U U;rw[e,aB]at c2;simp[(U:¬k<((l.l-y.n:Nat):Int)),a];refine gh ?_;exact⟨by rw[c2];simp;omega,_,by rw[xX,c2]⟩
   .simp[t];refine gh ?_;refine LJ.e (y+1) ?_;refine gX ?_;rw[c,Po q b t,jt U b];simp
  .have e:rF l y = []:=Pm U q;rw[e,aB,lC U]at c;simp[b];exact⟨by rw[c],[],by rw[c];simp⟩
def aeK(x:D)(H:gd):Wf T 263 [.gi,x] H (λd H'=>d = .gi/\H'=H):=by refine Yg C9 ?_;simp[C9]
def ae5(x:D)(H:gd):Wf T 153 [.gi,x] H (λd H'=>d = .gi/\H'=H):=by refine Yg Dg ?_;simp[Dg]
theorem UH{g:gq}:∀ {l:List gg} {now:List gD},(sV g l now).l<=10 ^ l.l*now.l
 | [],now=>by simp[sV]
 | x::r,now=>by rw[sV];refine Nat.le_trans UH ?_;rw[aI,eE,fV];exact eJ _ Iy
theorem PJ{g:gq}:∀ {l:List gg} {a b:List gD},(∀t,t∈a↔t∈b)->∀t,t∈sV g l a↔t∈tj g l b
 | [],a,b,h,t=>h t
 | x::r,a,b,h,t=>by rw[sV,tj];refine PJ (λt=>?_) t;rw[OA,bJ,bJ];exact⟨λ⟨s,h1,c⟩=>⟨s,(h s).1 h1,c⟩,λ⟨s,h1,c⟩=>⟨s,(h s).2 h1,c⟩⟩
def aaj{g:gq}{p:Pos}{c n:Int}{o:gY}:o∈uj g p c n↔o∈uZ g p c (gt (gt g.kinds (gN (gt p.cs c))).jA n):=by unfold uj uZ;rw[cU,cU];exact⟨λ⟨s,h1,a⟩=>⟨s,(PJ (λ_=>dH) s).1 h1,a⟩,λ⟨s,h1,a⟩=>⟨s,(PJ (λ_=>dH) s).2 h1,a⟩⟩
def f85(g:gq)(hg:gR g)(p:Pos)(i:iC g p)(c n:Int)(w:0<=c/\c<p.cs.l)(hs:kh (gt p.cs c)=p.side)(k:0<=n/\n<(gt g.kinds (gN (gt p.cs c))).jA.l) :
  Wf T 214 [dG g,dP p,.i c,.i n] [] (Ey (λr:List gY=>.tup [dN 6 gY.cells r,.i 0]) λr=>(∀o,o∈r↔o∈uZ g p c (gt (gt g.kinds (gN (gt p.cs c))).jA n))/\r.l<=100000000):=by
 have E:=i.size;have l:=Ja hg i w.1 U hs;have m:xO g (gt (gt g.kinds (gN (gt p.cs c))).jA n):=(hg.jA _ (gF l.kind.1 l.kind.2)).2 _ (gF k.1 k.2)
 have v:(uj g p c n).l<=100000000:=by unfold uj;refine Nat.le_trans (ft ..) (Nat.le_trans UH ?_);have:=m.len;have:10 ^ (gt (gt g.kinds (gN (gt p.cs c))).jA n).l<=10 ^ 8:=cO jh U;simpa using this
 have j:∀o,o∈uj g p c n->Small o.p:=λo b=>by rw[aaj]at b;unfold uZ at b;rw[cU]at b;obtain⟨s,h1,D⟩:=b;exact(Nb (O2 hg m.steps (λt C=>by rw[List.mem_singleton.1 C];exact l) s h1) i.side.1 i.side.2 D).small hg
 refine Yg L0 ?_;simp[L0];refine gy.lr rfl rfl (f121 g hg p i c n w hs k) ?_;rintro d H' ⟨rfl,rfl⟩;have u:=λo=>aaj (g:=g) (p:=p) (c:=c) (n:=n) (o:=o);generalize uj g p c n=outs at *
 by_cases b:outs = []
 .subst b;simp;refine gy.lr rfl rfl (Wf.Fe (K:=λd H'=>d = .tup []/\H'=_) (sz:=6) rfl ⟨rfl,rfl⟩) ?_;rintro d H' ⟨rfl,rfl⟩;simp;refine gy.lr rfl rfl (aeK _ _) ?_;rintro d H' ⟨rfl,rfl⟩;simp;exact Ey.i [] rfl rfl ⟨u,fZ⟩
 .have h0:0<outs.l:=ay.2 b;rw[if_neg b];simp;refine gy.lr rfl rfl (Wf.sort (K:=λd H'=>∃e,e.Perm outs/\d = .tup []/\H' = [.row 43 0 g.cells,.row 46 0 p.cells,.row 256 0 [.gf 3 (outs.l-1) 6 0 outs.l],.row 259 (outs.l-1) (cl gY.cells e)]) (fc:=gY.cells) outs rN rfl rfl h0 U (λx=>MJ.2 rfl) Vn acR (λx B y A=>f124 x y (j x B) (j y A)) (gen:=outs.l-1) (t:=259) fZ (λe i F=>⟨e,i,rfl,fZ⟩)) ?_;rintro d H' ⟨e,f,rfl,rfl⟩;simp;refine gy.lr rfl rfl (f125 g p (outs.l-1) e (λo b=>j o ((f.mem_iff).1 b)) (by rw[f.length_eq];exact h0) (by rw[f.length_eq];omega) outs.l f.length_eq) ?_;rintro d H' ⟨q,rfl,rfl⟩;simp;have z:mf e≠[]:=λh=>b (by rw[acY]at h;rw[h]at f;exact f.symm.eq_nil);refine Ey.i (mf e) (by revert z;cases mf e with|nil=>intro h;exact absurd rfl h|cons a r=>intro _;rfl) rfl ⟨λo=>by rw[Gn,f.mem_iff,u],?_⟩;have:=Vs e;have:=f.length_eq;omega
def f86(l:List Pos)(h:0<l.l)(b:l.l<2 ^ 40):Wf T 150 [gP l] [] (λd H=>d = .gf 0 1 5 0 l.l/\H = [.row 46 1 (cl Pos.cells l)]):=by refine Yg Df ?_;simp[Df];refine oA.i (a:=.b false) (by cases l with|nil=>exact absurd h fZ|cons a r=>rfl) ?_;simp;exact mI
def ae4:Wf T 150 [.gi] [] (Is .gi):=by refine Yg Df ?_;simp[Df]
def wY{l:List Pos}(h:l≠[]):gP l=dN 5 Pos.cells l:=by
 cases l with
 | nil=>exact absurd rfl h
 | cons a r=>rfl
@[simp] theorem asX(l:List Pos):closed (dN 5 Pos.cells l)=true:=Bb (λa=>fZ) l
theorem an6:kN [] = []:=aA.1 (Nat.le_zero.1 (Pe []))
def an5{l:List Pos}(h:l≠[]):kN l≠[]:=λe=>by obtain⟨a,r,rfl⟩:=eY h;have:a∈kN (a::r):=wB.2 fZ;rw[e]at this;cases this
def f48(l:List Pos)(hs:∀p∈l,Small p)(hl:l.l<2 ^ 40):Wf T 95 [dN 5 Pos.cells l] [] (Is (dN 5 Pos.cells (kN l))):=by
 by_cases h:l = []
 .subst h;rw[an6];show Wf T 95 [.gi] [] (Is .gi);refine Yg De ?_;simp[De];refine Yc (ae4) ?_;simp;refine gy.lr rfl rfl (Wf.Fe (K:=λd H'=>d = .tup []/\H'=_) (sz:=5) rfl ⟨rfl,rfl⟩) ?_;rintro d H' ⟨rfl,rfl⟩;simp;refine gy.lr rfl rfl (ae5 _ _) ?_;rintro d H' ⟨rfl,rfl⟩;simp
 .have h0:0<l.l:=ay.2 h;rw[<-wY h,<-wY (an5 h)];refine Yg De ?_;simp[De];refine Yn (f86 l h0 hl) ?_;simp;refine gy.lr rfl rfl (Wf.sort (K:=λd H'=>∃a,a.Perm l/\a.Pairwise (λx y=>¬iH y x<0)/\d = .tup []/\H' = [.row 46 1 (cl Pos.cells a)]) (fc:=Pos.cells) l iH rfl rfl h0 hl uJ (λx y z=>zz) acS (λx g y f=>f88 x y (hs x g) (hs y f)) (gen:=1) (t:=46) fZ (λa i c=>⟨a,i,c,rfl,fZ⟩)) ?_;rintro d H' ⟨a,b,c,rfl,rfl⟩;simp;refine gy.lr rfl rfl (f89 1 a (λo j=>hs o ((b.mem_iff).1 j)) (by rw[b.length_eq];exact h0) (by rw[b.length_eq];omega) l.l b.length_eq) ?_;rintro d H' ⟨e,rfl,rfl⟩;simp[ac0 b c]
