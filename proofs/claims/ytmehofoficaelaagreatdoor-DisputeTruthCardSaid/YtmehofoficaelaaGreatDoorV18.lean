/- Part 18 of DisputeTruth. -/
import Derived.Test.YtmehofoficaelaaGreatDoorV17
set_option linter.all false
namespace Go.AL
open Go
theorem Wf.sort{T:il}{f g:FuncId}{fn:je}{sz v gen t:Nat}{H:U}{K:D->U->Prop}{α:Type}{fc:α->List D}[F:Fl fc sz](l:List α)(b:α->α->Int)(hs:T.sort f=some sz)(hg:T.fn g=some fn)(h0:0<l.length)(hl:l.length<2 ^ 40)
  (q:∀x,b x x=0) (tr:∀x y z,b x y<0->b y z<0->b x z<0) (h:∀x y z,¬b x y<0->¬b y z<0->¬b x z<0) (p:∀x∈l,∀y∈l,Wf T g [.agg (fc x),.agg (fc y)] [] (Is (.i (b x y)))) (n:H[v]? = some (.row t gen (cl fc l)))
  (k:∀c:List α,c.Perm l->c.Pairwise (λx y=>¬b y x<0)->K (.tup []) (H.set v (.row t gen (cl fc c)))):Wf T f [.fM v gen sz 0 l.length,.fn (.func g) [] []] H K:=
 Ev.sort fc l b hs hg (λa _=>F.len a) (λa _=>F.cl a) h0 (by omega) (λx _=>by rw[q];decide) (λx _ y _ z _=>tr x y z) (λx _ y _ z _=>h x y z)
  (λx j y i=>Ev.mono (p x j y i) λr ⟨d,H',e,h1,_⟩=>⟨H',by rw[e,h1]⟩) (by rw[n,nX]) λc o m=>⟨_,_,rfl,by rw[<-nX];exact k c o m⟩
theorem Wf.Ew{T:il}{f:FuncId}{sz:Nat}{x:D}{H:U}{K:D->U->Prop}(hs:T.sort f=some sz)(k:K (.tup []) H):Wf T f [.fX,x] H K:=Ev.Ew hs ⟨_,_,rfl,k⟩
section
variable{α:Type}[DecidableEq α]
def lT:List α->List α
 | []=>[]
 | [a]=>[a]
 | a::b::t=>if b=a then lT (b::t)else a::lT (b::t)
theorem L8:∀(t:List α) (a:α),lT (a::t)=a::(lT (a::t)).tail
 | [],a=>rfl
 | b::t,a=>by
  unfold lT;split
  .rename_i h;subst h;exact L8 t b
  .rfl
theorem FH{x:α}:∀ {l:List α},x∈lT l↔x∈l
 | []=>ew
 | [a]=>ew
 | a::b::t=>by
  unfold lT;split
  .rename_i h;subst h;rw[FH (l:=b::t)];simp
  .rw[aw,FH (l:=b::t),aw (a:=x) (b:=a)]
theorem U':∀l:List α,(lT l).length<=l.length
 | []=>Nat.le_refl _
 | [a]=>Nat.le_refl _
 | a::b::t=>by
  have:=U' (b::t);unfold lT;split
  .exact Nat.le_succ_of_le this
  .simp only[aH]at *;omega
theorem acB{l:List α}(h:0<l.length):0<(lT l).length:=by
 cases l with
 | nil=>simp at h
 | cons a t=>rw[L8];simp
theorem acA{l:List α}:lT l = []↔l = []:=by
 constructor
 .intro h;rcases eQ l.length with a|a
  .exact ay.1 a
  .have:=acB a;rw[h]at this;simp at this
 .rintro rfl;rfl
theorem Va{l:List α}(h:l.length<2):lT l=l:=by
 match l,h with
 | [],_=>rfl
 | [a],_=>rfl
 | a::b::t,h=>simp at h;omega
def qu(l:List α)(m:Int):List α:=(lT (l.drop (m-1).toNat)).tail
variable [Inhabited α]{l:List α}{m:Int}
theorem aaO(h:0<l.length):lT l=l.take 1++qu l 1:=by
 cases l with
 | nil=>simp at h
 | cons a t=>exact L8 t a
theorem OC(h:m=l.length)(h0:1<=m):qu l m = []:=by unfold qu;rw[nN (by omega) (by omega),bR (by omega)];rfl
theorem OD(h0:1<=m)(h:m<l.length)(e:gt l m=gt l (m-1)):qu l m=qu l (m+1):=by unfold qu;rw[nN (n:=m-1) (by omega) (by omega),show(m-1).toNat+1=m.toNat by omega,nN (n:=m) (by omega) h,lT,if_pos e,dM,nN (n:=m) (by omega) h]
theorem OE(h0:1<=m)(h:m<l.length)(e:gt l m≠gt l (m-1)):qu l m=gt l m::qu l (m+1):=by unfold qu;rw[nN (n:=m-1) (by omega) (by omega),show(m-1).toNat+1=m.toNat by omega,nN (n:=m) (by omega) h,lT,if_neg e,dM,nN (n:=m) (by omega) h];exact L8 _ _
end
theorem Pp:∀ {l:List Pos},l.Pairwise (λx y=>iw x y<=0)->(lT l).Pairwise λx y=>iw x y<0
 | [],_=>.nil
 | [a],_=>by simp[lT]
 | a::b::t,h=>by
  have h1:=bg.1 h;have g:=bg.1 h1.2;unfold lT;split
  .exact Pp h1.2
  .rename_i d;refine bg.2 ⟨λx c=>?_,Pp h1.2⟩;rw[FH]at c;have m:=h1.1 x c
   by_cases f:iw a x=0
   .have e:=rj.1 f;subst e;rcases aw.1 c with e|c
    .exact absurd e.symm d
    .have k:=g.1 _ c;have j:=h1.1 b (by simp);have i:=uX a b;exact absurd (rj.1 (show iw a b=0 by omega)).symm d
   .omega
theorem acC{l a:List Pos}(c:a.Perm l)(b:a.Pairwise λx y=>¬iw y x<0):lT a=kz l:=
 aaF (kL.of (Pp (b.imp λ{x y} h=>by have:=uX x y;omega))) λq=>by rw[FH,c.mem_iff]
theorem acu(x y z:Pos)(h1:¬iw x y<0)(d:¬iw y z<0):¬iw x z<0:=by have a:=uX x y;have b:=uX y z;have c:=uX x z;have:=U6 (p:=z) (q:=y) (r:=x) (by omega) (by omega);omega
def b2(b:Bool):Int:=if b then 1 else 0
def ri(a b:gJ):Int:=nb [iw a.p b.p,kJ (b2 a.jF) (b2 b.jF)]
theorem abI{a b:Bool}(h:b2 a=b2 b):a=b:=by revert h;cases a<;>cases b<;>simp[b2]
theorem L7{a b:gJ}:ri a b=0↔a=b:=by
 unfold ri;rw[P0];simp only[aw,ef,or_false,forall_eq_or_imp,forall_eq,rj,yj];constructor
 .rintro⟨h1,c⟩;have:=abI c;cases a;cases b;simp_all
 .rintro rfl;exact⟨rfl,rfl⟩
theorem Pn(a b:gJ):ri b a = - ri a b:=by unfold ri nb;rw[uX a.p b.p,NT (b2 a.jF)];simp only[nb];(repeat' split)<;>omega
theorem U5(x y z:gJ):ri x y<0->ri y z<0->ri x z<0:=by unfold ri;refine AV (λh=>by rw[rj.1 h]) (λh=>by rw[rj.1 h]) yY (AV (λh=>by rw[yj.1 h]) (λh=>by rw[yj.1 h]) (by simp only[D'];omega) λh=>?_);simp[nb]at h
theorem acs(x y z:gJ)(h1:¬ri x y<0)(d:¬ri y z<0):¬ri x z<0:=by
 have a:=Pn x y;have b:=Pn y z;have c:=Pn x z
 by_cases f:ri x y=0
 .rw[L7.1 f];exact d
 .by_cases e:ri y z=0
  .rw[<-L7.1 e];exact h1
  .have:=U5 z y x (by omega) (by omega);omega
theorem UP{sz:Nat}:∀(n:Nat) (a b:List D),a.length=n*sz->chunks sz n (a++b)=chunks sz n a
 | 0,_,_,_=>rfl
 | n+1,a,b,h=>by rw[cA]at h;simp only[chunks];rw[aU (by omega),eD (by omega),UP n (a.drop sz) b (by simp;omega)]
@[simp] theorem atl{α:Type}{f:α->List D}{sz:Nat}[F:Fl f sz]{ρ:Nat->Option Nat}{H:U}{k n:Nat}{t:TypeId}{l:List α}{b:List D}(h:n=l.length):mG ρ H (k+1) sz 0 n (some (t,cl f l++b)) = .sl sz (l.map f):=by subst h;unfold mG;dsimp only;rw[aj,rh,aQ,if_pos (by omega),cQ,eO,List.map_append,Tf (ue l),UP _ _ _ (by simp),nX,Pk F.len]
@[irreducible] def MN{α:Type}[Inhabited α](l:List α)(n:Nat):α:=gt l (n:Int)
theorem Db{α:Type}[Inhabited α]{l:List α}{n:Nat}{m:Int}(h:(n:Int)=m):MN l n=gt l m:=by unfold MN;rw[h]
@[simp] theorem auM{α:Type}[Inhabited α]{f:α->List D}{sz:Nat}[F:Fl f sz]{l:List α}{t:TypeId}{n:Nat}(a:0<sz):uE sz (n*sz) (some (t,cl f l))=if n<l.length then some (.agg (f (MN l n)))else none:=by have:=agv (f:=f) (l:=l) (t:=t) (n:=(n:Int)) a;rw[bF]at this;rw[this];unfold MN;rfl
@[simp] theorem asE(sz v g off len:Nat)(z:List D)(H:U):FE sz z (.fM v g sz off len) H=(rowAt H v g).bind λp=>if (off+len)*sz<=p.2.length then some (.any,.obj v (.row p.1 g (p.2.take (off*sz)++(List.replicate len z).flatten++p.2.drop ((off+len)*sz))))else none:=by simp only[FE];cases rowAt H v g<;>simp
theorem aaP{α:Type}{l:List α}{n:Int}{v:α}(h0:0<=n)(h:n<l.length):(pt l n v).take (n+1).toNat=l.take n.toNat ++ [v]:=by
 have e:(l.take n.toNat).length=n.toNat:=by rw[aK];omega
 rw[pt,List.take_append,e,show(n+1).toNat-n.toNat=1 by omega,af (by omega)];rfl
end Go.AL
namespace Go.Proofs.YtmehofoficaelaaGreatDoor
open Go Go.AL Classical
set_option maxRecDepth 10000
set_option maxHeartbeats 4000000
theorem f124(a b:gJ)(d:Small a.p)(c:Small b.p):Wf T 262 [.agg a.cells,.agg b.cells] [] (Is (.i (ri a b))):=by
 obtain⟨p,u⟩:=a;obtain⟨q,v⟩:=b;cases u<;>cases v
 .refine Yg vZ ?_;simp[vZ,gJ.cells];refine iW.c rfl rfl (f88 p q d c) (by simp) (by simp) ?_;simp;refine iW.c rfl rfl (f131 _ _) (by simp) (by simp) ?_;simp;refine iW.r rfl rfl (f129 [iw p q,kJ 0 0] (by simp)) (by simp) (by simp[flat]) (by simp) ?_;simp;rfl
 .refine Yg vZ ?_;simp[vZ,gJ.cells];refine iW.c rfl rfl (f88 p q d c) (by simp) (by simp) ?_;simp;refine iW.c rfl rfl (f131 _ _) (by simp) (by simp) ?_;simp;refine iW.r rfl rfl (f129 [iw p q,kJ 0 1] (by simp)) (by simp) (by simp[flat]) (by simp) ?_;simp;rfl
 .refine Yg vZ ?_;simp[vZ,gJ.cells];refine iW.c rfl rfl (f88 p q d c) (by simp) (by simp) ?_;simp;refine iW.c rfl rfl (f131 _ _) (by simp) (by simp) ?_;simp;refine iW.r rfl rfl (f129 [iw p q,kJ 1 0] (by simp)) (by simp) (by simp[flat]) (by simp) ?_;simp;rfl
 .refine Yg vZ ?_;simp[vZ,gJ.cells];refine iW.c rfl rfl (f88 p q d c) (by simp) (by simp) ?_;simp;refine iW.c rfl rfl (f131 _ _) (by simp) (by simp) ?_;simp;refine iW.r rfl rfl (f129 [iw p q,kJ 1 1] (by simp)) (by simp) (by simp[flat]) (by simp) ?_;simp;rfl
theorem f126(a b:gJ)(d:Small a.p)(c:Small b.p):Wf T 264 [.agg a.cells,.agg b.cells] [] (Is (.b (decide (a=b)))):=by refine Yg JB ?_;simp[JB,gJ.cells];refine gj.c rfl rfl (f124 a b d c) (by simp) (by simp) ?_;simp[L7]
theorem f90(a b:Pos)(d:Small a)(c:Small b):Wf T 154 [.agg a.cells,.agg b.cells] [] (Is (.b (decide (a=b)))):=by refine Yg Ln ?_;simp[Ln];refine gj.c rfl rfl (f88 a b d c) (by simp) (by simp) ?_;simp[rj]
theorem f89(gen:Nat)(l:List Pos)(hs:∀p∈l,Small p)(h0:0<l.length)(hl:l.length<2 ^ 40)(n:Nat)(z:l.length=n):Wf T 153 [.fM 0 gen 5 0 n,.fn (.func 154) [] []] [.row 46 gen (cl Pos.cells l)]
  (λd H'=>∃g,d = .fM 0 gen 5 0 (lT l).length/\H' = [.row 46 gen (cl Pos.cells (lT l)++g)]):=by
 subst z;refine Yg CH ?_;simp[CH]
 by_cases h1:(l.length:Int)<2
 .have e:=Va (l:=l) (by omega);simp[h1,e]
 .simp[h1];refine fZ.e (1:Int) (λy=>[(0,.fM 0 gen 5 0 l.length),(1,.fn (.func 154) [] []),(5,.i y)]) (λy=>[.row 46 gen (cl Pos.cells l)]) (λy=>1<=y/\y<=l.length/\lT l=l.take y.toNat++qu l y) (λy=>(l.length-y).toNat) ?_ ?_
  .simp;exact⟨by omega,by rw[aaO h0]⟩
  rintro y ⟨o,D,c⟩
  by_cases b:y<l.length
  .simp[b,Db (l:=l) (n:=y.toNat-1) (m:=y-1) (by omega)];refine fQ ?_;refine iW.c rfl rfl (f90 (gt l y) (gt l (y-1)) (hs _ (gq (by omega) b)) (hs _ (gq (by omega) (by omega)))) (by simp) (by simp) ?_;simp
   by_cases r:gt l y=gt l (y-1)
   .simp[r];refine fQ ?_;refine fZ.e ((1,y,l):Int×Int×List Pos) (λx=>[(0,.fM 0 gen 5 0 l.length),(1,.fn (.func 154) [] []),(5,.i x.2.1),(6,.fM 0 gen 5 y.toNat (l.length-y.toNat)),(7,.i x.1)]) (λx=>[.row 46 gen (cl Pos.cells x.2.2)]) (λx=>1<=x.1/\y+x.1<=l.length/\1<=x.2.1/\x.2.1<y+x.1/\x.2.2.length=l.length/\(∀j:Int,y+x.1-1<=j->gt x.2.2 j=gt l j)/\lT l=x.2.2.take x.2.1.toNat++qu l (y+x.1)) (λx=>(l.length-(y+x.1)).toNat) ?_ ?_
    .simp;exact⟨by omega,o,by omega,by rw[c,OD o b r]⟩
    rintro⟨k,i,cur⟩ ⟨k0,k1,i0,w,a,h,c2⟩;dsimp only at k0 k1 i0 w a h c2 ⊢
    by_cases s:y+k<l.length
    .have v:gt cur (y+k)=gt l (y+k):=h _ (by omega);have C:gt cur (y+k-1)=gt l (y+k-1):=h _ (by omega);have u:=Db (l:=cur) (n:=y.toNat+k.toNat) (m:=y+k) (by omega);have B:=Db (l:=cur) (n:=y.toNat+(k.toNat-1)) (m:=y+k-1) (by omega);simp[show k<((l.length-y.toNat:Nat):Int)by omega,u,B,v,C,a];refine fQ ?_;refine iW.c rfl rfl (f90 (gt l (y+k)) (gt l (y+k-1)) (hs _ (gq (by omega) s)) (hs _ (gq (by omega) (by omega)))) (by simp) (by simp) ?_;simp
     by_cases q:gt l (y+k)=gt l (y+k-1)
     .simp[q];refine fQ ?_;refine LJ.e (k+1,i,cur) ?_;refine⟨by dsimp only;omega,by dsimp only;omega,by dsimp only;omega,i0,by dsimp only;omega,a,λj t=>h j (by dsimp only at t;omega),?_⟩;dsimp only;rw[c2,OD (by omega) s q,eR]
     .simp[q,u,v,a];refine qJ u v a ?_;have A:=L5 (f:=Pos.cells) cur i (by omega) (gt l (y+k));refine LJ.i (k+1,i+1,pt cur i (gt l (y+k))) (by first|rfl|simp) (by dsimp only;rw[<-A];rfl) rfl rfl ?_;refine⟨by dsimp only;omega,by dsimp only;omega,by dsimp only;omega,by dsimp only;omega,by dsimp only;omega,by dsimp only;rw[iH (by omega) (by omega)];exact a,λj t=>?_,?_⟩
      .dsimp only at t ⊢;rw[WG (by omega) (by omega) (by omega) (by omega)];exact h j (by omega)
      .dsimp only;rw[aaP (by omega) (by omega),c2,OE (by omega) s q,eR];simp
    .have e:qu l (y+k) = []:=OC (by omega) (by omega);rw[e,az]at c2;simp[show¬k<((l.length-y.toNat:Nat):Int)by omega,a];refine fQ ?_;exact⟨by rw[c2];simp;omega,_,by rw[xy,c2]⟩
   .simp[r];refine fQ ?_;refine LJ.e (y+1) ?_;refine gI ?_;rw[c,OE o b r,jd (by omega) b];simp
  .have e:qu l y = []:=OC (by omega) o;rw[e,az,kW (by omega)]at c;simp[b];exact⟨by rw[c],[],by rw[c];simp⟩
theorem f125(g:fY)(s:Pos)(gen:Nat)(l:List gJ)(hs:∀p∈l,Small p.p)(h0:0<l.length)(hl:l.length<2 ^ 40)(n:Nat)(B:l.length=n):Wf T 263 [.fM 3 gen 6 0 n,.fn (.func 264) [] []] [.row 43 0 g.cells,.row 46 0 s.cells,.row 256 0 [.fM 3 gen 6 0 n],.row 259 gen (cl gJ.cells l)]
  (λd H'=>∃h,d = .fM 3 gen 6 0 (lT l).length/\H' = [.row 43 0 g.cells,.row 46 0 s.cells,.row 256 0 [.fM 3 gen 6 0 n],.row 259 gen (cl gJ.cells (lT l)++h)]):=by
 subst B;refine Yg Cx ?_;simp[Cx]
 by_cases h1:(l.length:Int)<2
 .have e:=Va (l:=l) (by omega);simp[h1,e]
 .simp[h1];refine fZ.e (1:Int) (λy=>[(0,.fM 3 gen 6 0 l.length),(1,.fn (.func 264) [] []),(5,.i y)]) (λy=>[.row 43 0 g.cells,.row 46 0 s.cells,.row 256 0 [.fM 3 gen 6 0 l.length],.row 259 gen (cl gJ.cells l)]) (λy=>1<=y/\y<=l.length/\lT l=l.take y.toNat++qu l y) (λy=>(l.length-y).toNat) ?_ ?_
  .simp;exact⟨by omega,by rw[aaO h0]⟩
  rintro y ⟨q,F,c⟩
  by_cases b:y<l.length
  .simp[b,Db (l:=l) (n:=y.toNat-1) (m:=y-1) (by omega)];refine fQ ?_;refine iW.c rfl rfl (f126 (gt l y) (gt l (y-1)) (hs _ (gq (by omega) b)) (hs _ (gq (by omega) (by omega)))) (by simp) (by simp) ?_;simp
   by_cases t:gt l y=gt l (y-1)
   .simp[t];refine fQ ?_;refine fZ.e ((1,y,l):Int×Int×List gJ) (λx=>[(0,.fM 3 gen 6 0 l.length),(1,.fn (.func 264) [] []),(5,.i x.2.1),(6,.fM 3 gen 6 y.toNat (l.length-y.toNat)),(7,.i x.1)]) (λx=>[.row 43 0 g.cells,.row 46 0 s.cells,.row 256 0 [.fM 3 gen 6 0 l.length],.row 259 gen (cl gJ.cells x.2.2)]) (λx=>1<=x.1/\y+x.1<=l.length/\1<=x.2.1/\x.2.1<y+x.1/\x.2.2.length=l.length/\(∀j:Int,y+x.1-1<=j->gt x.2.2 j=gt l j)/\lT l=x.2.2.take x.2.1.toNat++qu l (y+x.1)) (λx=>(l.length-(y+x.1)).toNat) ?_ ?_
    .simp;exact⟨by omega,q,by omega,by rw[c,OD q b t]⟩
    rintro⟨k,i,cur⟩ ⟨k0,k1,i0,A,a,o,c2⟩;dsimp only at k0 k1 i0 A a o c2 ⊢
    by_cases u:y+k<l.length
    .have z:gt cur (y+k)=gt l (y+k):=o _ (by omega);have E:gt cur (y+k-1)=gt l (y+k-1):=o _ (by omega);have w:=Db (l:=cur) (n:=y.toNat+k.toNat) (m:=y+k) (by omega);have D:=Db (l:=cur) (n:=y.toNat+(k.toNat-1)) (m:=y+k-1) (by omega);simp[show k<((l.length-y.toNat:Nat):Int)by omega,w,D,z,E,a];refine fQ ?_;refine iW.c rfl rfl (f126 (gt l (y+k)) (gt l (y+k-1)) (hs _ (gq (by omega) u)) (hs _ (gq (by omega) (by omega)))) (by simp) (by simp) ?_;simp
     by_cases r:gt l (y+k)=gt l (y+k-1)
     .simp[r];refine fQ ?_;refine LJ.e (k+1,i,cur) ?_;refine⟨by dsimp only;omega,by dsimp only;omega,by dsimp only;omega,i0,by dsimp only;omega,a,λj v=>o j (by dsimp only at v;omega),?_⟩;dsimp only;rw[c2,OD (by omega) u r,eR]
     .simp[r,w,z,a];refine qJ w z a ?_;have C:=L5 (f:=gJ.cells) cur i (by omega) (gt l (y+k));refine LJ.i (k+1,i+1,pt cur i (gt l (y+k))) (by first|rfl|simp) (by dsimp only;rw[<-C];rfl) rfl rfl ?_;refine⟨by dsimp only;omega,by dsimp only;omega,by dsimp only;omega,by dsimp only;omega,by dsimp only;omega,by dsimp only;rw[iH (by omega) (by omega)];exact a,λj v=>?_,?_⟩
      .dsimp only at v ⊢;rw[WG (by omega) (by omega) (by omega) (by omega)];exact o j (by omega)
      .dsimp only;rw[aaP (by omega) (by omega),c2,OE (by omega) u r,eR];simp
    .have e:qu l (y+k) = []:=OC (by omega) (by omega);rw[e,az]at c2;simp[show¬k<((l.length-y.toNat:Nat):Int)by omega,a];refine fQ ?_;exact⟨by rw[c2];simp;omega,_,by rw[xy,c2]⟩
   .simp[t];refine fQ ?_;refine LJ.e (y+1) ?_;refine gI ?_;rw[c,OE q b t,jd (by omega) b];simp
  .have e:qu l y = []:=OC (by omega) q;rw[e,az,kW (by omega)]at c;simp[b];exact⟨by rw[c],[],by rw[c];simp⟩
theorem aeb(x:D)(H:U):Wf T 263 [.fX,x] H (λd H'=>d = .fX/\H'=H):=by refine Yg Cx ?_;simp[Cx]
theorem aew(x:D)(H:U):Wf T 153 [.fX,x] H (λd H'=>d = .fX/\H'=H):=by refine Yg CH ?_;simp[CH]
theorem Ur{g:fY}:∀ {l:List fO} {now:List gg},(sw g l now).length<=10 ^ l.length*now.length
 | [],now=>by simp[sw]
 | x::r,now=>by rw[sw];refine Nat.le_trans Ur ?_;rw[aH,eA,fH];exact eG _ HD
theorem O4{g:fY}:∀ {l:List fO} {a b:List gg},(∀t,t∈a↔t∈b)->∀t,t∈sw g l a↔t∈sU g l b
 | [],a,b,h,t=>h t
 | x::r,a,b,h,t=>by rw[sw,sU];refine O4 (λt=>?_) t;rw[NQ,bI,bI];exact⟨λ⟨s,h1,c⟩=>⟨s,(h s).1 h1,c⟩,λ⟨s,h1,c⟩=>⟨s,(h s).2 h1,c⟩⟩
theorem ZL{g:fY}{p:Pos}{c n:Int}{o:gJ}:o∈tO g p c n↔o∈uF g p c (gt (gt g.kinds (gC (gt p.cs c))).jh n):=by unfold tO uF;rw[cT,cT];exact⟨λ⟨s,h1,a⟩=>⟨s,(O4 (λ_=>ew) s).1 h1,a⟩,λ⟨s,h1,a⟩=>⟨s,(O4 (λ_=>ew) s).2 h1,a⟩⟩
theorem f85(g:fY)(hg:gN g)(p:Pos)(i:ij g p)(c n:Int)(w:0<=c/\c<p.cs.length)(hs:jS (gt p.cs c)=p.side)(k:0<=n/\n<(gt g.kinds (gC (gt p.cs c))).jh.length) :
  Wf T 214 [dG g,dP p,.i c,.i n] [] (Ey (λr:List gJ=>.tup [dN 6 gJ.cells r,.i 0]) λr=>(∀o,o∈r↔o∈uF g p c (gt (gt g.kinds (gC (gt p.cs c))).jh n))/\r.length<=100000000):=by
 have E:=i.size;have l:=Iu hg i w.1 (by omega) hs;have m:xk g (gt (gt g.kinds (gC (gt p.cs c))).jh n):=(hg.jh _ (gq l.kind.1 l.kind.2)).2 _ (gq k.1 k.2)
 have v:(tO g p c n).length<=100000000:=by unfold tO;refine Nat.le_trans (fm ..) (Nat.le_trans Ur ?_);have:=m.len;have:10 ^ (gt (gt g.kinds (gC (gt p.cs c))).jh n).length<=10 ^ 8:=cM (by decide) (by omega);simpa using this
 have j:∀o,o∈tO g p c n->Small o.p:=λo b=>by rw[ZL]at b;unfold uF at b;rw[cT]at b;obtain⟨s,h1,C⟩:=b;exact(Mz (Og hg m.steps (λt B=>by rw[List.mem_singleton.1 B];exact l) s h1) i.side.1 i.side.2 C).small hg
 refine Yg Lk ?_;simp[Lk];refine gj.kU rfl rfl (f121 g hg p i c n w hs k) ?_;rintro d H' ⟨rfl,rfl⟩;have u:=λo=>ZL (g:=g) (p:=p) (c:=c) (n:=n) (o:=o);generalize tO g p c n=outs at *
 by_cases b:outs = []
 .subst b;simp;refine gj.kU rfl rfl (Wf.Ew (K:=λd H'=>d = .tup []/\H'=_) (sz:=6) rfl ⟨rfl,rfl⟩) ?_;rintro d H' ⟨rfl,rfl⟩;simp;refine gj.kU rfl rfl (aeb _ _) ?_;rintro d H' ⟨rfl,rfl⟩;simp;exact Ey.i [] rfl rfl ⟨u,by simp⟩
 .have h0:0<outs.length:=ax.2 b;rw[if_neg b];simp;refine gj.kU rfl rfl (Wf.sort (K:=λd H'=>∃e,e.Perm outs/\d = .tup []/\H' = [.row 43 0 g.cells,.row 46 0 p.cells,.row 256 0 [.fM 3 (outs.length-1) 6 0 outs.length],.row 259 (outs.length-1) (cl gJ.cells e)]) (fc:=gJ.cells) outs ri rfl rfl h0 (by omega) (λx=>L7.2 rfl) U5 acs (λx A y z=>f124 x y (j x A) (j y z)) (gen:=outs.length-1) (t:=259) (by simp) (λe i F=>⟨e,i,rfl,by simp⟩)) ?_;rintro d H' ⟨e,f,rfl,rfl⟩;simp;refine gj.kU rfl rfl (f125 g p (outs.length-1) e (λo b=>j o ((f.mem_iff).1 b)) (by rw[f.length_eq];exact h0) (by rw[f.length_eq];omega) outs.length f.length_eq) ?_;rintro d H' ⟨q,rfl,rfl⟩;simp;have D:lT e≠[]:=λh=>b (by rw[acA]at h;rw[h]at f;exact f.symm.eq_nil);refine Ey.i (lT e) (by revert D;cases lT e with|nil=>intro h;exact absurd rfl h|cons a r=>intro _;rfl) rfl ⟨λo=>by rw[FH,f.mem_iff,u],?_⟩;have:=U' e;have:=f.length_eq;omega
theorem f86(l:List Pos)(h:0<l.length)(b:l.length<2 ^ 40):Wf T 150 [gQ l] [] (λd H=>d = .fM 0 1 5 0 l.length/\H = [.row 46 1 (cl Pos.cells l)]):=by refine Yg CG ?_;simp[CG];refine oA.i (a:=.b false) (by cases l with|nil=>exact absurd h (by simp)|cons a r=>rfl) ?_;simp;exact mE
theorem aev:Wf T 150 [.fX] [] (Is .fX):=by refine Yg CG ?_;simp[CG]
theorem wy{l:List Pos}(h:l≠[]):gQ l=dN 5 Pos.cells l:=by
 cases l with
 | nil=>exact absurd rfl h
 | cons a r=>rfl
@[simp] theorem asn(l:List Pos):closed (dN 5 Pos.cells l)=true:=AB (λa=>by simp) l
theorem anC:kz [] = []:=ay.1 (Nat.le_zero.1 (Ox []))
theorem anB{l:List Pos}(h:l≠[]):kz l≠[]:=λe=>by obtain⟨a,r,rfl⟩:=eT h;have:a∈kz (a::r):=vS.2 (by simp);rw[e]at this;cases this
theorem f48(l:List Pos)(hs:∀p∈l,Small p)(hl:l.length<2 ^ 40):Wf T 95 [dN 5 Pos.cells l] [] (Is (dN 5 Pos.cells (kz l))):=by
 by_cases h:l = []
 .subst h;rw[anC];show Wf T 95 [.fX] [] (Is .fX);refine Yg CF ?_;simp[CF];refine Yc (aev) ?_;simp;refine gj.kU rfl rfl (Wf.Ew (K:=λd H'=>d = .tup []/\H'=_) (sz:=5) rfl ⟨rfl,rfl⟩) ?_;rintro d H' ⟨rfl,rfl⟩;simp;refine gj.kU rfl rfl (aew _ _) ?_;rintro d H' ⟨rfl,rfl⟩;simp
 .have h0:0<l.length:=ax.2 h;rw[<-wy h,<-wy (anB h)];refine Yg CF ?_;simp[CF];refine Yn (f86 l h0 hl) ?_;simp;refine gj.kU rfl rfl (Wf.sort (K:=λd H'=>∃a,a.Perm l/\a.Pairwise (λx y=>¬iw y x<0)/\d = .tup []/\H' = [.row 46 1 (cl Pos.cells a)]) (fc:=Pos.cells) l iw rfl rfl h0 hl uW (λx y z=>yY) acu (λx g y f=>f88 x y (hs x g) (hs y f)) (gen:=1) (t:=46) (by simp) (λa i c=>⟨a,i,c,rfl,by simp⟩)) ?_;rintro d H' ⟨a,b,c,rfl,rfl⟩;simp;refine gj.kU rfl rfl (f89 1 a (λo j=>hs o ((b.mem_iff).1 j)) (by rw[b.length_eq];exact h0) (by rw[b.length_eq];omega) l.length b.length_eq) ?_;rintro d H' ⟨e,rfl,rfl⟩;simp[acC b c]
