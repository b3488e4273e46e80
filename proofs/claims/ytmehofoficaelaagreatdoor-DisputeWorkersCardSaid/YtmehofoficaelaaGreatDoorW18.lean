/- Part 18 of DisputeWorkers. -/
import Derived.Test.YtmehofoficaelaaGreatDoorW17
set_option linter.all false
namespace Go.AL
open Go
theorem Wf.sort{T:iB}{f g:FuncId}{fn:jw}{sz v gen t:Nat}{H:U}{K:D->U->Prop}{α:Type}{fc:α->List D}[F:Fl fc sz](l:List α)(b:α->α->Int)(hs:T.sort f=some sz)(hg:T.fn g=some fn)(h0:0<l.length)(hl:l.length<2 ^ 40)
  (q:∀x,b x x=0) (tr:∀x y z,b x y<0->b y z<0->b x z<0) (h:∀x y z,¬b x y<0->¬b y z<0->¬b x z<0) (p:∀x∈l,∀y∈l,Wf T g [.agg (fc x),.agg (fc y)] [] (Is (.i (b x y)))) (n:H[v]? = some (.row t gen (cl fc l)))
  (k:∀c:List α,c.Perm l->c.Pairwise (λx y=>¬b y x<0)->K (.tup []) (H.set v (.row t gen (cl fc c)))):Wf T f [.fY v gen sz 0 l.length,.fn (.func g) [] []] H K:=
 Ev.sort fc l b hs hg (λa _=>F.len a) (λa _=>F.cl a) h0 (by omega) (λx _=>by rw[q];decide) (λx _ y _ z _=>tr x y z) (λx _ y _ z _=>h x y z)
  (λx j y i=>Ev.mono (p x j y i) λr ⟨d,H',e,h1,_⟩=>⟨H',by rw[e,h1]⟩) (by rw[n,oC]) λc o m=>⟨_,_,rfl,by rw[<-oC];exact k c o m⟩
theorem Wf.E0{T:iB}{f:FuncId}{sz:Nat}{x:D}{H:U}{K:D->U->Prop}(hs:T.sort f=some sz)(k:K (.tup []) H):Wf T f [.gg,x] H K:=Ev.E0 hs ⟨_,_,rfl,k⟩
section
variable{α:Type}[DecidableEq α]
def l5:List α->List α
 | []=>[]
 | [a]=>[a]
 | a::b::t=>if b=a then l5 (b::t)else a::l5 (b::t)
theorem MN:∀(t:List α) (a:α),l5 (a::t)=a::(l5 (a::t)).tail
 | [],a=>rfl
 | b::t,a=>by
  unfold l5;split
  .rename_i h;subst h;exact MN t b
  .rfl
theorem Gd{x:α}:∀ {l:List α},x∈l5 l↔x∈l
 | []=>eD
 | [a]=>eD
 | a::b::t=>by
  unfold l5;split
  .rename_i h;subst h;rw[Gd (l:=b::t)];simp
  .rw[av,Gd (l:=b::t),av (a:=x) (b:=a)]
theorem Vs:∀l:List α,(l5 l).length<=l.length
 | []=>Nat.le_refl _
 | [a]=>Nat.le_refl _
 | a::b::t=>by
  have:=Vs (b::t);unfold l5;split
  .exact Nat.le_succ_of_le this
  .simp only[aJ]at *;omega
theorem acS{l:List α}(h:0<l.length):0<(l5 l).length:=by
 cases l with
 | nil=>simp at h
 | cons a t=>rw[MN];simp
theorem acR{l:List α}:l5 l = []↔l = []:=by
 constructor
 .intro h;rcases dM l.length with a|a
  .exact ay.1 a
  .have:=acS a;rw[h]at this;simp at this
 .rintro rfl;rfl
theorem Vt{l:List α}(h:l.length<2):l5 l=l:=by
 match l,h with
 | [],_=>rfl
 | [a],_=>rfl
 | a::b::t,h=>simp at h;omega
def rE(l:List α)(m:Int):List α:=(l5 (l.drop (m-1).toNat)).tail
variable [Inhabited α]{l:List α}{m:Int}
theorem aa4(h:0<l.length):l5 l=l.take 1++rE l 1:=by
 cases l with
 | nil=>simp at h
 | cons a t=>exact MN t a
theorem Pe(h:m=l.length)(h0:1<=m):rE l m = []:=by unfold rE;rw[oc (by omega) (by omega),bV (by omega)];rfl
theorem Pf(h0:1<=m)(h:m<l.length)(e:gt l m=gt l (m-1)):rE l m=rE l (m+1):=by unfold rE;rw[oc (n:=m-1) (by omega) (by omega),show(m-1).toNat+1=m.toNat by omega,oc (n:=m) (by omega) h,l5,if_pos e,dR,oc (n:=m) (by omega) h]
theorem Pg(h0:1<=m)(h:m<l.length)(e:gt l m≠gt l (m-1)):rE l m=gt l m::rE l (m+1):=by unfold rE;rw[oc (n:=m-1) (by omega) (by omega),show(m-1).toNat+1=m.toNat by omega,oc (n:=m) (by omega) h,l5,if_neg e,dR,oc (n:=m) (by omega) h];exact MN _ _
end
theorem PX:∀ {l:List Pos},l.Pairwise (λx y=>iE x y<=0)->(l5 l).Pairwise λx y=>iE x y<0
 | [],_=>.nil
 | [a],_=>by simp[l5]
 | a::b::t,h=>by
  have h1:=aS.1 h;have g:=aS.1 h1.2;unfold l5;split
  .exact PX h1.2
  .rename_i d;refine aS.2 ⟨λx c=>?_,PX h1.2⟩;rw[Gd]at c;have m:=h1.1 x c
   by_cases f:iE a x=0
   .have e:=rO.1 f;subst e;rcases av.1 c with e|c
    .exact absurd e.symm d
    .have k:=g.1 _ c;have j:=h1.1 b (by simp);have i:=vm a b;exact absurd (rO.1 (show iE a b=0 by omega)).symm d
   .omega
theorem acT{l a:List Pos}(c:a.Perm l)(b:a.Pairwise λx y=>¬iE y x<0):l5 a=kJ l:=
 aaV (kU.of (PX (b.imp λ{x y} h=>by have:=vm x y;omega))) λq=>by rw[Gd,c.mem_iff]
theorem acL(x y z:Pos)(h1:¬iE x y<0)(d:¬iE y z<0):¬iE x z<0:=by have a:=vm x y;have b:=vm y z;have c:=vm x z;have:=Vo (p:=z) (q:=y) (r:=x) (by omega) (by omega);omega
def b2(b:Bool):Int:=if b then 1 else 0
def rN(a b:gQ):Int:=ny [iE a.p b.p,kR (b2 a.jN) (b2 b.jN)]
theorem abZ{a b:Bool}(h:b2 a=b2 b):a=b:=by revert h;cases a<;>cases b<;>simp[b2]
theorem ML{a b:gQ}:rN a b=0↔a=b:=by
 unfold rN;rw[Qr];simp only[av,eu,or_false,forall_eq_or_imp,forall_eq,rO,yK];constructor
 .rintro⟨h1,c⟩;have:=abZ c;cases a;cases b;simp_all
 .rintro rfl;exact⟨rfl,rfl⟩
theorem PU(a b:gQ):rN b a = - rN a b:=by unfold rN ny;rw[vm a.p b.p,Oy (b2 a.jN)];simp only[ny];(repeat' split)<;>omega
theorem Vn(x y z:gQ):rN x y<0->rN y z<0->rN x z<0:=by unfold rN;refine Bl (λh=>by rw[rO.1 h]) (λh=>by rw[rO.1 h]) zu (Bl (λh=>by rw[yK.1 h]) (λh=>by rw[yK.1 h]) (by simp only[EF];omega) λh=>?_);simp[ny]at h
theorem acK(x y z:gQ)(h1:¬rN x y<0)(d:¬rN y z<0):¬rN x z<0:=by
 have a:=PU x y;have b:=PU y z;have c:=PU x z
 by_cases f:rN x y=0
 .rw[ML.1 f];exact d
 .by_cases e:rN y z=0
  .rw[<-ML.1 e];exact h1
  .have:=Vn z y x (by omega) (by omega);omega
theorem U8{sz:Nat}:∀(n:Nat) (a b:List D),a.length=n*sz->chunks sz n (a++b)=chunks sz n a
 | 0,_,_,_=>rfl
 | n+1,a,b,h=>by rw[cA]at h;simp only[chunks];rw[aV (by omega),eI (by omega),U8 n (a.drop sz) b (by simp;omega)]
@[simp] theorem at7{α:Type}{f:α->List D}{sz:Nat}[F:Fl f sz]{ρ:Nat->Option Nat}{H:U}{k n:Nat}{t:TypeId}{l:List α}{b:List D}(h:n=l.length):mS ρ H (k+1) sz 0 n (some (t,cl f l++b)) = .sl sz (l.map f):=by subst h;unfold mS;dsimp only;rw[ak,qJ,aQ,if_pos (by omega),cQ,eU,List.map_append,TC (uJ l),U8 _ _ _ (by simp),oC,PT F.len]
@[irreducible] def Ns{α:Type}[Inhabited α](l:List α)(n:Nat):α:=gt l (n:Int)
theorem DH{α:Type}[Inhabited α]{l:List α}{n:Nat}{m:Int}(h:(n:Int)=m):Ns l n=gt l m:=by unfold Ns;rw[h]
@[simp] theorem avt{α:Type}[Inhabited α]{f:α->List D}{sz:Nat}[F:Fl f sz]{l:List α}{t:TypeId}{n:Nat}(a:0<sz):uZ sz (n*sz) (some (t,cl f l))=if n<l.length then some (.agg (f (Ns l n)))else none:=by have:=ag2 (f:=f) (l:=l) (t:=t) (n:=(n:Int)) a;rw[bt]at this;rw[this];unfold Ns;rfl
@[simp] theorem atn(sz v g off len:Nat)(z:List D)(H:U):Ga sz z (.fY v g sz off len) H=(rowAt H v g).bind λp=>if (off+len)*sz<=p.2.length then some (.any,.obj v (.row p.1 g (p.2.take (off*sz)++(List.replicate len z).flatten++p.2.drop ((off+len)*sz))))else none:=by simp only[Ga];cases rowAt H v g<;>simp
theorem aa5{α:Type}{l:List α}{n:Int}{v:α}(h0:0<=n)(h:n<l.length):(pt l n v).take (n+1).toNat=l.take n.toNat ++ [v]:=by
 have e:(l.take n.toNat).length=n.toNat:=by rw[aK];omega
 rw[pt,List.take_append,e,show(n+1).toNat-n.toNat=1 by omega,af (by omega)];rfl
end Go.AL
namespace Go.Proofs.YtmehofoficaelaaGreatDoor
open Go Go.AL Classical
set_option maxRecDepth 10000
set_option maxHeartbeats 4000000
theorem f124(a b:gQ)(d:Small a.p)(c:Small b.p):Wf T 262 [.agg a.cells,.agg b.cells] [] (Is (.i (rN a b))):=by
 obtain⟨p,u⟩:=a;obtain⟨q,v⟩:=b;cases u<;>cases v
 .refine Yg wG ?_;simp[wG,gQ.cells];refine je.c rfl rfl (f88 p q d c) (by simp) (by simp) ?_;simp;refine je.c rfl rfl (f131 _ _) (by simp) (by simp) ?_;simp;refine je.r rfl rfl (f129 [iE p q,kR 0 0] (by simp)) (by simp) (by simp[flat]) (by simp) ?_;simp;rfl
 .refine Yg wG ?_;simp[wG,gQ.cells];refine je.c rfl rfl (f88 p q d c) (by simp) (by simp) ?_;simp;refine je.c rfl rfl (f131 _ _) (by simp) (by simp) ?_;simp;refine je.r rfl rfl (f129 [iE p q,kR 0 1] (by simp)) (by simp) (by simp[flat]) (by simp) ?_;simp;rfl
 .refine Yg wG ?_;simp[wG,gQ.cells];refine je.c rfl rfl (f88 p q d c) (by simp) (by simp) ?_;simp;refine je.c rfl rfl (f131 _ _) (by simp) (by simp) ?_;simp;refine je.r rfl rfl (f129 [iE p q,kR 1 0] (by simp)) (by simp) (by simp[flat]) (by simp) ?_;simp;rfl
 .refine Yg wG ?_;simp[wG,gQ.cells];refine je.c rfl rfl (f88 p q d c) (by simp) (by simp) ?_;simp;refine je.c rfl rfl (f131 _ _) (by simp) (by simp) ?_;simp;refine je.r rfl rfl (f129 [iE p q,kR 1 1] (by simp)) (by simp) (by simp[flat]) (by simp) ?_;simp;rfl
theorem f126(a b:gQ)(d:Small a.p)(c:Small b.p):Wf T 264 [.agg a.cells,.agg b.cells] [] (Is (.b (decide (a=b)))):=by refine Yg Kb ?_;simp[Kb,gQ.cells];refine gx.c rfl rfl (f124 a b d c) (by simp) (by simp) ?_;simp[ML]
theorem f90(a b:Pos)(d:Small a)(c:Small b):Wf T 154 [.agg a.cells,.agg b.cells] [] (Is (.b (decide (a=b)))):=by refine Yg L8 ?_;simp[L8];refine gx.c rfl rfl (f88 a b d c) (by simp) (by simp) ?_;simp[rO]
theorem f89(gen:Nat)(l:List Pos)(hs:∀p∈l,Small p)(h0:0<l.length)(hl:l.length<2 ^ 40)(n:Nat)(z:l.length=n):Wf T 153 [.fY 0 gen 5 0 n,.fn (.func 154) [] []] [.row 46 gen (cl Pos.cells l)]
  (λd H'=>∃g,d = .fY 0 gen 5 0 (l5 l).length/\H' = [.row 46 gen (cl Pos.cells (l5 l)++g)]):=by
 subst z;refine Yg De ?_;simp[De]
 by_cases h1:(l.length:Int)<2
 .have e:=Vt (l:=l) (by omega);simp[h1,e]
 .simp[h1];refine gj.e (1:Int) (λy=>[(0,.fY 0 gen 5 0 l.length),(1,.fn (.func 154) [] []),(5,.i y)]) (λy=>[.row 46 gen (cl Pos.cells l)]) (λy=>1<=y/\y<=l.length/\l5 l=l.take y.toNat++rE l y) (λy=>(l.length-y).toNat) ?_ ?_
  .simp;exact⟨by omega,by rw[aa4 h0]⟩
  rintro y ⟨o,D,c⟩
  by_cases b:y<l.length
  .simp[b,DH (l:=l) (n:=y.toNat-1) (m:=y-1) (by omega)];refine gd ?_;refine je.c rfl rfl (f90 (gt l y) (gt l (y-1)) (hs _ (gy (by omega) b)) (hs _ (gy (by omega) (by omega)))) (by simp) (by simp) ?_;simp
   by_cases r:gt l y=gt l (y-1)
   .simp[r];refine gd ?_;refine gj.e ((1,y,l):Int×Int×List Pos) (λx=>[(0,.fY 0 gen 5 0 l.length),(1,.fn (.func 154) [] []),(5,.i x.2.1),(6,.fY 0 gen 5 y.toNat (l.length-y.toNat)),(7,.i x.1)]) (λx=>[.row 46 gen (cl Pos.cells x.2.2)]) (λx=>1<=x.1/\y+x.1<=l.length/\1<=x.2.1/\x.2.1<y+x.1/\x.2.2.length=l.length/\(∀j:Int,y+x.1-1<=j->gt x.2.2 j=gt l j)/\l5 l=x.2.2.take x.2.1.toNat++rE l (y+x.1)) (λx=>(l.length-(y+x.1)).toNat) ?_ ?_
    .simp;exact⟨by omega,o,by omega,by rw[c,Pf o b r]⟩
    rintro⟨k,i,cur⟩ ⟨k0,k1,i0,w,a,h,c2⟩;dsimp only at k0 k1 i0 w a h c2 ⊢
    by_cases s:y+k<l.length
    .have v:gt cur (y+k)=gt l (y+k):=h _ (by omega);have C:gt cur (y+k-1)=gt l (y+k-1):=h _ (by omega);have u:=DH (l:=cur) (n:=y.toNat+k.toNat) (m:=y+k) (by omega);have B:=DH (l:=cur) (n:=y.toNat+(k.toNat-1)) (m:=y+k-1) (by omega);simp[show k<((l.length-y.toNat:Nat):Int)by omega,u,B,v,C,a];refine gd ?_;refine je.c rfl rfl (f90 (gt l (y+k)) (gt l (y+k-1)) (hs _ (gy (by omega) s)) (hs _ (gy (by omega) (by omega)))) (by simp) (by simp) ?_;simp
     by_cases q:gt l (y+k)=gt l (y+k-1)
     .simp[q];refine gd ?_;refine LJ.e (k+1,i,cur) ?_;refine⟨by dsimp only;omega,by dsimp only;omega,by dsimp only;omega,i0,by dsimp only;omega,a,λj t=>h j (by dsimp only at t;omega),?_⟩;dsimp only;rw[c2,Pf (by omega) s q,Int.add_assoc]
     .simp[q,u,v,a];refine qz u v a ?_;have A:=MJ (f:=Pos.cells) cur i (by omega) (gt l (y+k));refine LJ.i (k+1,i+1,pt cur i (gt l (y+k))) (by first|rfl|simp) (by dsimp only;rw[<-A];rfl) rfl rfl ?_;refine⟨by dsimp only;omega,by dsimp only;omega,by dsimp only;omega,by dsimp only;omega,by dsimp only;omega,by dsimp only;rw[iP (by omega) (by omega)];exact a,λj t=>?_,?_⟩
      .dsimp only at t ⊢;rw[W3 (by omega) (by omega) (by omega) (by omega)];exact h j (by omega)
      .dsimp only;rw[aa5 (by omega) (by omega),c2,Pg (by omega) s q,Int.add_assoc];simp
    .have e:rE l (y+k) = []:=Pe (by omega) (by omega);rw[e,az]at c2;simp[show¬k<((l.length-y.toNat:Nat):Int)by omega,a];refine gd ?_;exact⟨by rw[c2];simp;omega,_,by rw[xW,c2]⟩
   .simp[r];refine gd ?_;refine LJ.e (y+1) ?_;refine gO ?_;rw[c,Pg o b r,jq (by omega) b];simp
  .have e:rE l y = []:=Pe (by omega) o;rw[e,az,ln (by omega)]at c;simp[b];exact⟨by rw[c],[],by rw[c];simp⟩
theorem f125(g:gi)(s:Pos)(gen:Nat)(l:List gQ)(hs:∀p∈l,Small p.p)(h0:0<l.length)(hl:l.length<2 ^ 40)(n:Nat)(B:l.length=n):Wf T 263 [.fY 3 gen 6 0 n,.fn (.func 264) [] []] [.row 43 0 g.cells,.row 46 0 s.cells,.row 256 0 [.fY 3 gen 6 0 n],.row 259 gen (cl gQ.cells l)]
  (λd H'=>∃h,d = .fY 3 gen 6 0 (l5 l).length/\H' = [.row 43 0 g.cells,.row 46 0 s.cells,.row 256 0 [.fY 3 gen 6 0 n],.row 259 gen (cl gQ.cells (l5 l)++h)]):=by
 subst B;refine Yg C7 ?_;simp[C7]
 by_cases h1:(l.length:Int)<2
 .have e:=Vt (l:=l) (by omega);simp[h1,e]
 .simp[h1];refine gj.e (1:Int) (λy=>[(0,.fY 3 gen 6 0 l.length),(1,.fn (.func 264) [] []),(5,.i y)]) (λy=>[.row 43 0 g.cells,.row 46 0 s.cells,.row 256 0 [.fY 3 gen 6 0 l.length],.row 259 gen (cl gQ.cells l)]) (λy=>1<=y/\y<=l.length/\l5 l=l.take y.toNat++rE l y) (λy=>(l.length-y).toNat) ?_ ?_
  .simp;exact⟨by omega,by rw[aa4 h0]⟩
  rintro y ⟨q,F,c⟩
  by_cases b:y<l.length
  .simp[b,DH (l:=l) (n:=y.toNat-1) (m:=y-1) (by omega)];refine gd ?_;refine je.c rfl rfl (f126 (gt l y) (gt l (y-1)) (hs _ (gy (by omega) b)) (hs _ (gy (by omega) (by omega)))) (by simp) (by simp) ?_;simp
   by_cases t:gt l y=gt l (y-1)
   .simp[t];refine gd ?_;refine gj.e ((1,y,l):Int×Int×List gQ) (λx=>[(0,.fY 3 gen 6 0 l.length),(1,.fn (.func 264) [] []),(5,.i x.2.1),(6,.fY 3 gen 6 y.toNat (l.length-y.toNat)),(7,.i x.1)]) (λx=>[.row 43 0 g.cells,.row 46 0 s.cells,.row 256 0 [.fY 3 gen 6 0 l.length],.row 259 gen (cl gQ.cells x.2.2)]) (λx=>1<=x.1/\y+x.1<=l.length/\1<=x.2.1/\x.2.1<y+x.1/\x.2.2.length=l.length/\(∀j:Int,y+x.1-1<=j->gt x.2.2 j=gt l j)/\l5 l=x.2.2.take x.2.1.toNat++rE l (y+x.1)) (λx=>(l.length-(y+x.1)).toNat) ?_ ?_
    .simp;exact⟨by omega,q,by omega,by rw[c,Pf q b t]⟩
    rintro⟨k,i,cur⟩ ⟨k0,k1,i0,A,a,o,c2⟩;dsimp only at k0 k1 i0 A a o c2 ⊢
    by_cases u:y+k<l.length
    .have z:gt cur (y+k)=gt l (y+k):=o _ (by omega);have E:gt cur (y+k-1)=gt l (y+k-1):=o _ (by omega);have w:=DH (l:=cur) (n:=y.toNat+k.toNat) (m:=y+k) (by omega);have D:=DH (l:=cur) (n:=y.toNat+(k.toNat-1)) (m:=y+k-1) (by omega);simp[show k<((l.length-y.toNat:Nat):Int)by omega,w,D,z,E,a];refine gd ?_;refine je.c rfl rfl (f126 (gt l (y+k)) (gt l (y+k-1)) (hs _ (gy (by omega) u)) (hs _ (gy (by omega) (by omega)))) (by simp) (by simp) ?_;simp
     by_cases r:gt l (y+k)=gt l (y+k-1)
     .simp[r];refine gd ?_;refine LJ.e (k+1,i,cur) ?_;refine⟨by dsimp only;omega,by dsimp only;omega,by dsimp only;omega,i0,by dsimp only;omega,a,λj v=>o j (by dsimp only at v;omega),?_⟩;dsimp only;rw[c2,Pf (by omega) u r,Int.add_assoc]
     .simp[r,w,z,a];refine qz w z a ?_;have C:=MJ (f:=gQ.cells) cur i (by omega) (gt l (y+k));refine LJ.i (k+1,i+1,pt cur i (gt l (y+k))) (by first|rfl|simp) (by dsimp only;rw[<-C];rfl) rfl rfl ?_;refine⟨by dsimp only;omega,by dsimp only;omega,by dsimp only;omega,by dsimp only;omega,by dsimp only;omega,by dsimp only;rw[iP (by omega) (by omega)];exact a,λj v=>?_,?_⟩
      .dsimp only at v ⊢;rw[W3 (by omega) (by omega) (by omega) (by omega)];exact o j (by omega)
      .dsimp only;rw[aa5 (by omega) (by omega),c2,Pg (by omega) u r,Int.add_assoc];simp
    .have e:rE l (y+k) = []:=Pe (by omega) (by omega);rw[e,az]at c2;simp[show¬k<((l.length-y.toNat:Nat):Int)by omega,a];refine gd ?_;exact⟨by rw[c2];simp;omega,_,by rw[xW,c2]⟩
   .simp[t];refine gd ?_;refine LJ.e (y+1) ?_;refine gO ?_;rw[c,Pg q b t,jq (by omega) b];simp
  .have e:rE l y = []:=Pe (by omega) q;rw[e,az,ln (by omega)]at c;simp[b];exact⟨by rw[c],[],by rw[c];simp⟩
theorem aeE(x:D)(H:U):Wf T 263 [.gg,x] H (λd H'=>d = .gg/\H'=H):=by refine Yg C7 ?_;simp[C7]
theorem aeZ(x:D)(H:U):Wf T 153 [.gg,x] H (λd H'=>d = .gg/\H'=H):=by refine Yg De ?_;simp[De]
theorem UK{g:gi}:∀ {l:List fZ} {now:List gv},(sU g l now).length<=10 ^ l.length*now.length
 | [],now=>by simp[sU]
 | x::r,now=>by rw[sU];refine Nat.le_trans UK ?_;rw[aJ,eG,fR];exact eN _ Il
theorem PD{g:gi}:∀ {l:List fZ} {a b:List gv},(∀t,t∈a↔t∈b)->∀t,t∈sU g l a↔t∈tm g l b
 | [],a,b,h,t=>h t
 | x::r,a,b,h,t=>by rw[sU,tm];refine PD (λt=>?_) t;rw[Ov,bM,bM];exact⟨λ⟨s,h1,c⟩=>⟨s,(h s).1 h1,c⟩,λ⟨s,h1,c⟩=>⟨s,(h s).2 h1,c⟩⟩
theorem Z9{g:gi}{p:Pos}{c n:Int}{o:gQ}:o∈um g p c n↔o∈u0 g p c (gt (gt g.kinds (gJ (gt p.cs c))).jt n):=by unfold um u0;rw[cU,cU];exact⟨λ⟨s,h1,a⟩=>⟨s,(PD (λ_=>eD) s).1 h1,a⟩,λ⟨s,h1,a⟩=>⟨s,(PD (λ_=>eD) s).2 h1,a⟩⟩
theorem f85(g:gi)(hg:gV g)(p:Pos)(i:iw g p)(c n:Int)(w:0<=c/\c<p.cs.length)(hs:jY (gt p.cs c)=p.side)(k:0<=n/\n<(gt g.kinds (gJ (gt p.cs c))).jt.length) :
  Wf T 214 [dG g,dP p,.i c,.i n] [] (Ey (λr:List gQ=>.tup [dN 6 gQ.cells r,.i 0]) λr=>(∀o,o∈r↔o∈u0 g p c (gt (gt g.kinds (gJ (gt p.cs c))).jt n))/\r.length<=100000000):=by
 have E:=i.size;have l:=I3 hg i w.1 (by omega) hs;have m:xM g (gt (gt g.kinds (gJ (gt p.cs c))).jt n):=(hg.jt _ (gy l.kind.1 l.kind.2)).2 _ (gy k.1 k.2)
 have v:(um g p c n).length<=100000000:=by unfold um;refine Nat.le_trans (ft ..) (Nat.le_trans UK ?_);have:=m.len;have:10 ^ (gt (gt g.kinds (gJ (gt p.cs c))).jt n).length<=10 ^ 8:=cN (by decide) (by omega);simpa using this
 have j:∀o,o∈um g p c n->Small o.p:=λo b=>by rw[Z9]at b;unfold u0 at b;rw[cU]at b;obtain⟨s,h1,D⟩:=b;exact(Nd (OX hg m.steps (λt C=>by rw[List.mem_singleton.1 C];exact l) s h1) i.side.1 i.side.2 D).small hg
 refine Yg L6 ?_;simp[L6];refine gx.kH rfl rfl (f121 g hg p i c n w hs k) ?_;rintro d H' ⟨rfl,rfl⟩;have u:=λo=>Z9 (g:=g) (p:=p) (c:=c) (n:=n) (o:=o);generalize um g p c n=outs at *
 by_cases b:outs = []
 .subst b;simp;refine gx.kH rfl rfl (Wf.E0 (K:=λd H'=>d = .tup []/\H'=_) (sz:=6) rfl ⟨rfl,rfl⟩) ?_;rintro d H' ⟨rfl,rfl⟩;simp;refine gx.kH rfl rfl (aeE _ _) ?_;rintro d H' ⟨rfl,rfl⟩;simp;exact Ey.i [] rfl rfl ⟨u,by simp⟩
 .have h0:0<outs.length:=ax.2 b;rw[if_neg b];simp;refine gx.kH rfl rfl (Wf.sort (K:=λd H'=>∃e,e.Perm outs/\d = .tup []/\H' = [.row 43 0 g.cells,.row 46 0 p.cells,.row 256 0 [.fY 3 (outs.length-1) 6 0 outs.length],.row 259 (outs.length-1) (cl gQ.cells e)]) (fc:=gQ.cells) outs rN rfl rfl h0 (by omega) (λx=>ML.2 rfl) Vn acK (λx B y A=>f124 x y (j x B) (j y A)) (gen:=outs.length-1) (t:=259) (by simp) (λe i F=>⟨e,i,rfl,by simp⟩)) ?_;rintro d H' ⟨e,f,rfl,rfl⟩;simp;refine gx.kH rfl rfl (f125 g p (outs.length-1) e (λo b=>j o ((f.mem_iff).1 b)) (by rw[f.length_eq];exact h0) (by rw[f.length_eq];omega) outs.length f.length_eq) ?_;rintro d H' ⟨q,rfl,rfl⟩;simp;have z:l5 e≠[]:=λh=>b (by rw[acR]at h;rw[h]at f;exact f.symm.eq_nil);refine Ey.i (l5 e) (by revert z;cases l5 e with|nil=>intro h;exact absurd rfl h|cons a r=>intro _;rfl) rfl ⟨λo=>by rw[Gd,f.mem_iff,u],?_⟩;have:=Vs e;have:=f.length_eq;omega
theorem f86(l:List Pos)(h:0<l.length)(b:l.length<2 ^ 40):Wf T 150 [gZ l] [] (λd H=>d = .fY 0 1 5 0 l.length/\H = [.row 46 1 (cl Pos.cells l)]):=by refine Yg Dd ?_;simp[Dd];refine oA.i (a:=.b false) (by cases l with|nil=>exact absurd h (by simp)|cons a r=>rfl) ?_;simp;exact mK
theorem aeY:Wf T 150 [.gg] [] (Is .gg):=by refine Yg Dd ?_;simp[Dd]
theorem wS{l:List Pos}(h:l≠[]):gZ l=dN 5 Pos.cells l:=by
 cases l with
 | nil=>exact absurd rfl h
 | cons a r=>rfl
@[simp] theorem as5(l:List Pos):closed (dN 5 Pos.cells l)=true:=A4 (λa=>by simp) l
theorem aog:kJ [] = []:=ay.1 (Nat.le_zero.1 (O9 []))
theorem aof{l:List Pos}(h:l≠[]):kJ l≠[]:=λe=>by obtain⟨a,r,rfl⟩:=eX h;have:a∈kJ (a::r):=wB.2 (by simp);rw[e]at this;cases this
theorem f48(l:List Pos)(hs:∀p∈l,Small p)(hl:l.length<2 ^ 40):Wf T 95 [dN 5 Pos.cells l] [] (Is (dN 5 Pos.cells (kJ l))):=by
 by_cases h:l = []
 .subst h;rw[aog];show Wf T 95 [.gg] [] (Is .gg);refine Yg Dc ?_;simp[Dc];refine Yc (aeY) ?_;simp;refine gx.kH rfl rfl (Wf.E0 (K:=λd H'=>d = .tup []/\H'=_) (sz:=5) rfl ⟨rfl,rfl⟩) ?_;rintro d H' ⟨rfl,rfl⟩;simp;refine gx.kH rfl rfl (aeZ _ _) ?_;rintro d H' ⟨rfl,rfl⟩;simp
 .have h0:0<l.length:=ax.2 h;rw[<-wS h,<-wS (aof h)];refine Yg Dc ?_;simp[Dc];refine Yn (f86 l h0 hl) ?_;simp;refine gx.kH rfl rfl (Wf.sort (K:=λd H'=>∃a,a.Perm l/\a.Pairwise (λx y=>¬iE y x<0)/\d = .tup []/\H' = [.row 46 1 (cl Pos.cells a)]) (fc:=Pos.cells) l iE rfl rfl h0 hl vj (λx y z=>zu) acL (λx g y f=>f88 x y (hs x g) (hs y f)) (gen:=1) (t:=46) (by simp) (λa i c=>⟨a,i,c,rfl,by simp⟩)) ?_;rintro d H' ⟨a,b,c,rfl,rfl⟩;simp;refine gx.kH rfl rfl (f89 1 a (λo j=>hs o ((b.mem_iff).1 j)) (by rw[b.length_eq];exact h0) (by rw[b.length_eq];omega) l.length b.length_eq) ?_;rintro d H' ⟨e,rfl,rfl⟩;simp[acT b c]
