/- 18 -/
import Derived.Test.YtmehofoficaelaaGreatDoorP17
set_option linter.all false
open Int renaming add_assoc→aE,toNat→Int.n
open List renaming length→List.l
namespace Go.AL
open Go
theorem Wf.sort{T:jt}{f g:FuncId}{fn:kn}{sz v gen t:Nat}{H:gQ}{K:D->gQ->Prop}{α:Type}{fc:α->List D}[F:Fl fc sz](l:List α)(b:α->α->Int)(hs:T.sort f=some sz)(hg:T.fn g=some fn)(h0:0<l.l)(hl:l.l<2 ^ 40)
  (q:∀x,b x x=0) (tr:∀x y z,b x y<0->b y z<0->b x z<0) (h:∀x y z,¬b x y<0->¬b y z<0->¬b x z<0) (p:∀x∈l,∀y∈l,Wf T g [.agg (fc x),.agg (fc y)] [] (Is (.i (b x y)))) (n:H[v]? = some (.row t gen (cl fc l)))
  (k:∀c:List α,c.Perm l->c.Pairwise (λx y=>¬b y x<0)->K (.tup []) (H.set v (.row t gen (cl fc c)))):Wf T f [.gR v gen sz 0 l.l,.fn (.func g) [] []] H K:=
 Ev.sort fc l b hs hg (λa _=>F.len a) (λa _=>F.cl a) h0 U (λx _=>by rw[q];decide) (λx _ y _ z _=>tr x y z) (λx _ y _ z _=>h x y z)
  (λx j y i=>Ev.mono (p x j y i) λr ⟨d,H',e,h1,_⟩=>⟨H',by rw[e,h1]⟩) (by rw[n,pO]) λc o m=>⟨_,_,rfl,by rw[<-pO];exact k c o m⟩
theorem Wf.HU{T:jt}{f:FuncId}{sz:Nat}{x:D}{H:gQ}{K:D->gQ->Prop}(hs:T.sort f=some sz)(k:K (.tup []) H):Wf T f [.gV,x] H K:=Ev.HU hs ⟨_,_,rfl,k⟩
section
variable{α:Type}[DecidableEq α]
def nk:List α->List α
 | []=>[]
 | [a]=>[a]
 | a::b::t=>if b=a then nk (b::t)else a::nk (b::t)
theorem PT:∀(t:List α) (a:α),nk (a::t)=a::(nk (a::t)).tail
 | [],a=>rfl
 | b::t,a=>by
  unfold nk;split
  .rename_i h;subst h;exact PT t b
  .rfl
theorem Jl{x:α}:∀ {l:List α},x∈nk l↔x∈l
 | []=>eM
 | [a]=>eM
 | a::b::t=>by
  unfold nk;split
  .rename_i h;subst h;rw[Jl (l:=b::t)];simp
  .rw[ak,Jl (l:=b::t),ak (a:=x) (b:=a)]
theorem ZU:∀l:List α,(nk l).l<=l.l
 | []=>Nat.le_refl _
 | [a]=>Nat.le_refl _
 | a::b::t=>by
  have:=ZU (b::t);unfold nk;split
  .exact Nat.le_succ_of_le this
  .simp only[aF]at *;omega
theorem ag1{l:List α}(h:0<l.l):0<(nk l).l:=by
 cases l with
 | nil=>simp at h
 | cons a t=>rw[PT];simp
theorem ag0{l:List α}:nk l = []↔l = []:=by
 constructor
 .intro h;rcases ey l.l with a|a
  .exact aA.1 a
  .have:=ag1 a;rw[h]at this;simp at this
 .rintro rfl;rfl
theorem ZV{l:List α}(h:l.l<2):nk l=l:=by
 match l,h with
 | [],_=>rfl
 | [a],_=>rfl
 | a::b::t,h=>simp at h;omega
def tq(l:List α)(m:Int):List α:=(nk (l.drop (m-1).n)).tail
variable [Inhabited α]{l:List α}{m:Int}
theorem aeZ(h:0<l.l):nk l=l.take 1++tq l 1:=by
 cases l with
 | nil=>simp at h
 | cons a t=>exact PT t a
theorem SJ(h:m=l.l)(h0:1<=m):tq l m = []:=by unfold tq;rw[pa U U,bF U];rfl
theorem SK(h0:1<=m)(h:m<l.l)(e:gt l m=gt l (m-1)):tq l m=tq l (m+1):=by unfold tq;rw[pa (n:=m-1) U U,(U:(m-1).n+1=m.n),pa (n:=m) U h,nk,if_pos e,eD,pa (n:=m) U h]
theorem SL(h0:1<=m)(h:m<l.l)(e:gt l m≠gt l (m-1)):tq l m=gt l m::tq l (m+1):=by unfold tq;rw[pa (n:=m-1) U U,(U:(m-1).n+1=m.n),pa (n:=m) U h,nk,if_neg e,eD,pa (n:=m) U h];exact PT _ _
end
theorem Ty:∀ {l:List Pos},l.Pairwise (λx y=>jz x y<=0)->(nk l).Pairwise λx y=>jz x y<0
 | [],_=>.nil
 | [a],_=>by simp[nk]
 | a::b::t,h=>by
  have h1:=aI.1 h;have g:=aI.1 h1.2;unfold nk;split
  .exact Ty h1.2
  .rename_i d;refine aI.2 ⟨λx c=>?_,Ty h1.2⟩;rw[Jl]at c;have m:=h1.1 x c
   by_cases f:jz a x=0
   .have e:=tG.1 f;subst e;rcases ak.1 c with e|c
    .exact absurd e.symm d
    .have k:=g.1 _ c;have j:=h1.1 b gP;have i:=xI a b;exact absurd (tG.1 (U:jz a b=0)).symm d
   .omega
def ag2{l a:List Pos}(c:a.Perm l)(b:a.Pairwise λx y=>¬jz y x<0):nk a=lY l:=
 aeO (mr.of (Ty (b.imp λ{x y} h=>by have:=xI x y;omega))) λq=>by rw[Jl,c.mem_iff]
def agT(x y z:Pos)(h1:¬jz x y<0)(d:¬jz y z<0):¬jz x z<0:=by have a:=xI x y;have b:=xI y z;have c:=xI x z;have:=ZQ (p:=z) (q:=y) (r:=x) U U;omega
def b2(b:Bool):Int:=if b then 1 else 0
def tF(a b:iJ):Int:=pc [jz a.p b.p,mf (b2 a.kP) (b2 b.kP)]
def af3{a b:Bool}(h:b2 a=b2 b):a=b:=by revert h;cases a<;>cases b<;>simp[b2]
def PS{a b:iJ}:tF a b=0↔a=b:=by
 unfold tF;rw[T5];simp only[ak,eZ,or_false,forall_eq_or_imp,forall_eq,tG,AI];constructor
 .rintro⟨h1,c⟩;have:=af3 c;cases a;cases b;simp_all
 .rintro rfl;exact⟨rfl,rfl⟩
def Tv(a b:iJ):tF b a = - tF a b:=by unfold tF pc;rw[xI a.p b.p,RX (b2 a.kP)];simp only[pc];(repeat' split)<;>omega
def ZP(x y z:iJ):tF x y<0->tF y z<0->tF x z<0:=by unfold tF;refine Du (λh=>by rw[tG.1 h]) (λh=>by rw[tG.1 h]) Bp (Du (λh=>by rw[AI.1 h]) (λh=>by rw[AI.1 h]) (by simp only[Hr];omega) λh=>?_);simp[pc]at h
def agS(x y z:iJ)(h1:¬tF x y<0)(d:¬tF y z<0):¬tF x z<0:=by
 have a:=Tv x y;have b:=Tv y z;have c:=Tv x z
 by_cases e:tF x y=0
 .rw[PS.1 e];exact d
 .by_cases e2:tF y z=0
  .rw[<-PS.1 e2];exact h1
  .have:=ZP z y x U U;omega
theorem Zy{sz:Nat}:∀(n:Nat) (a b:List D),a.l=n*sz->chunks sz n (a++b)=chunks sz n a
 | 0,_,_,_=>rfl
 | n+1,a,b,h=>by rw[cU]at h;simp only[chunks];rw[aV U,fo U,Zy n (a.drop sz) b iz]
@[simp] theorem azt{α:Type}{f:α->List D}{sz:Nat}[F:Fl f sz]{ρ:Nat->Option Nat}{H:gQ}{k n:Nat}{t:TypeId}{l:List α}{b:List D}(h:n=l.l):oq ρ H (k+1) sz 0 n (some (t,cl f l++b)) = .sl sz (l.map f):=by subst h;unfold oq;dsimp only;rw[aq,ue,aR,if_pos U,dm,eJ,List.map_append,L0 (uR l),Zy _ _ _ gP,pO,PL F.len]
@[irreducible] def QA{α:Type}[Inhabited α](l:List α)(n:Nat):α:=gt l (n:Int)
theorem Gc{α:Type}[Inhabited α]{l:List α}{n:Nat}{m:Int}(h:(n:Int)=m):QA l n=gt l m:=by unfold QA;rw[h]
@[simp] theorem aAN{α:Type}[Inhabited α]{f:α->List D}{sz:Nat}[F:Fl f sz]{l:List α}{t:TypeId}{n:Nat}(a:0<sz):zn sz (n*sz) (some (t,cl f l))=if n<l.l then some (.agg (f (QA l n)))else none:=by have:=alv (f:=f) (l:=l) (t:=t) (n:=(n:Int)) a;rw[bA]at this;rw[this];unfold QA;rfl
@[simp] theorem ayJ(sz v g off len:Nat)(z:List D)(H:gQ):Ji sz z (.gR v g sz off len) H=(rowAt H v g).bind λp=>if (off+len)*sz<=p.2.l then some (.any,.obj v (.row p.1 g (p.2.take (off*sz)++(List.replicate len z).flatten++p.2.drop ((off+len)*sz))))else none:=by simp only[Ji];cases rowAt H v g<;>simp
def ae0{α:Type}{l:List α}{n:Int}{v:α}(h0:0<=n)(h:n<l.l):(pt l n v).take (n+1).n=l.take n.n ++ [v]:=by
 have e:(l.take n.n).l=n.n:=by rw[aM];omega
 rw[pt,List.take_append,e,(U:(n+1).n-n.n=1),af U];rfl
end Go.AL
namespace Go.Proofs.YtmehofoficaelaaGreatDoor
open Go Go.AL Classical
set_option maxRecDepth 10000
set_option maxHeartbeats 4000000
def f124(a b:iJ)(d:Small a.p)(c:Small b.p):Wf T 262 [.agg a.cells,.agg b.cells] [] (Is (.i (tF a b))):=by
 obtain⟨p,u⟩:=a;obtain⟨q,v⟩:=b;cases u<;>cases v
 .refine Yg yG ?_;simp[yG,iJ.cells];refine ke.c rfl rfl (f88 p q d c) gP gP ?_;simp;refine ke.c rfl rfl (f131 _ _) gP gP ?_;simp;refine ke.r rfl rfl (f129 [jz p q,mf 0 0] gP) gP (by simp[flat]) gP ?_;simp;rfl
 .refine Yg yG ?_;simp[yG,iJ.cells];refine ke.c rfl rfl (f88 p q d c) gP gP ?_;simp;refine ke.c rfl rfl (f131 _ _) gP gP ?_;simp;refine ke.r rfl rfl (f129 [jz p q,mf 0 1] gP) gP (by simp[flat]) gP ?_;simp;rfl
 .refine Yg yG ?_;simp[yG,iJ.cells];refine ke.c rfl rfl (f88 p q d c) gP gP ?_;simp;refine ke.c rfl rfl (f131 _ _) gP gP ?_;simp;refine ke.r rfl rfl (f129 [jz p q,mf 1 0] gP) gP (by simp[flat]) gP ?_;simp;rfl
 .refine Yg yG ?_;simp[yG,iJ.cells];refine ke.c rfl rfl (f88 p q d c) gP gP ?_;simp;refine ke.c rfl rfl (f131 _ _) gP gP ?_;simp;refine ke.r rfl rfl (f129 [jz p q,mf 1 1] gP) gP (by simp[flat]) gP ?_;simp;rfl
def f126(a b:iJ)(d:Small a.p)(c:Small b.p):Wf T 264 [.agg a.cells,.agg b.cells] [] (Is (.b (decide (a=b)))):=by refine Yg Ns ?_;simp[Ns,iJ.cells];refine ik.c rfl rfl (f124 a b d c) gP gP ?_;simp[PS]
def f90(a b:Pos)(d:Small a)(c:Small b):Wf T 154 [.agg a.cells,.agg b.cells] [] (Is (.b (decide (a=b)))):=by refine Yg Pe ?_;simp[Pe];refine ik.c rfl rfl (f88 a b d c) gP gP ?_;simp[tG]
def f89(gen:Nat)(l:List Pos)(hs:∀p∈l,Small p)(h0:0<l.l)(hl:l.l<2 ^ 40)(n:Nat)(A:l.l=n):Wf T 153 [.gR 0 gen 5 0 n,.fn (.func 154) [] []] [.row 46 gen (cl Pos.cells l)]
  (λd H'=>∃g,d = .gR 0 gen 5 0 (nk l).l/\H' = [.row 46 gen (cl Pos.cells (nk l)++g)]):=by
 subst A;refine Yg FC ?_;simp[FC]
 by_cases h1:(l.l:Int)<2
 .have e:=ZV (l:=l) U;simp[h1,e]
 .simp[h1];refine gZ.e (1:Int) (λy=>[(0,.gR 0 gen 5 0 l.l),(1,.fn (.func 154) [] []),(5,.i y)]) (λy=>[.row 46 gen (cl Pos.cells l)]) (λy=>1<=y/\y<=l.l/\nk l=l.take y.n++tq l y) (λy=>(l.l-y).n) ?_ ?_
  .simp;exact⟨U,by rw[aeZ h0]⟩
  rintro y ⟨o,C,c⟩
  by_cases b:y<l.l
  .simp[b,Gc (l:=l) (n:=y.n-1) (m:=y-1) U];refine gU ?_;refine ke.c rfl rfl (f90 (gt l y) (gt l (y-1)) (hs _ (ij U b)) (hs _ (ij U U))) gP gP ?_;simp
   by_cases r:gt l y=gt l (y-1)
   .simp[r];refine gU ?_;refine gZ.e ((1,y,l):Int×Int×List Pos) (λx=>[(0,.gR 0 gen 5 0 l.l),(1,.fn (.func 154) [] []),(5,.i x.2.1),(6,.gR 0 gen 5 y.n (l.l-y.n)),(7,.i x.1)]) (λx=>[.row 46 gen (cl Pos.cells x.2.2)]) (λx=>1<=x.1/\y+x.1<=l.l/\1<=x.2.1/\x.2.1<y+x.1/\x.2.2.l=l.l/\(∀j:Int,y+x.1-1<=j->gt x.2.2 j=gt l j)/\nk l=x.2.2.take x.2.1.n++tq l (y+x.1)) (λx=>(l.l-(y+x.1)).n) ?_ ?_
    .simp;exact⟨U,o,U,by rw[c,SK o b r]⟩
    rintro⟨k,i,cur⟩ ⟨k0,k1,i0,z,a,h,c2⟩;dsimp only at k0 k1 i0 z a h c2 ⊢
    by_cases s:y+k<l.l
    .have v:gt cur (y+k)=gt l (y+k):=h _ U;have e2:gt cur (y+k-1)=gt l (y+k-1):=h _ U;have u:=Gc (l:=cur) (n:=y.n+k.n) (m:=y+k) U;have B:=Gc (l:=cur) (n:=y.n+(k.n-1)) (m:=y+k-1) U;simp[(U:k<((l.l-y.n:Nat):Int)),u,B,v,e2,a];refine gU ?_;refine ke.c rfl rfl (f90 (gt l (y+k)) (gt l (y+k-1)) (hs _ (ij U s)) (hs _ (ij U U))) gP gP ?_;simp
     by_cases q:gt l (y+k)=gt l (y+k-1)
     .simp[q];refine gU ?_;refine LJ.e (k+1,i,cur) ?_;refine⟨iv,iv,iv,i0,iv,a,λj t=>h j (by dsimp only at t;omega),?_⟩;dsimp only;rw[c2,SK U s q,aE]
     .simp[q,u,v,a];refine kf u v a ?_;have w:=ZK (f:=Pos.cells) cur i U (gt l (y+k));refine LJ.i (k+1,i+1,pt cur i (gt l (y+k))) yB (by dsimp only;rw[<-w];rfl) rfl rfl ?_;refine⟨iv,iv,iv,iv,iv,by dsimp only;rw[jy U U];exact a,λj t=>?_,?_⟩
      .dsimp only at t ⊢;rw[Dy U U U U];exact h j U
      .dsimp only;rw[ae0 U U,c2,SL U s q,aE];simp
    .have e:tq l (y+k) = []:=SJ U U;rw[e,az]at c2;simp[(U:¬k<((l.l-y.n:Nat):Int)),a];refine gU ?_;exact⟨by rw[c2];simp;omega,_,by rw[zV,c2]⟩
   .simp[r];refine gU ?_;refine LJ.e (y+1) ?_;refine iQ ?_;rw[c,SL o b r,jP U b];simp
  .have e:tq l y = []:=SJ U o;rw[e,az,nf U]at c;simp[b];exact⟨by rw[c],[],by rw[c];simp⟩
def f125(g:gY)(s:Pos)(gen:Nat)(l:List iJ)(hs:∀p∈l,Small p.p)(h0:0<l.l)(hl:l.l<2 ^ 40)(n:Nat)(C:l.l=n):Wf T 263 [.gR 3 gen 6 0 n,.fn (.func 264) [] []] [.row 43 0 g.cells,.row 46 0 s.cells,.row 256 0 [.gR 3 gen 6 0 n],.row 259 gen (cl iJ.cells l)]
  (λd H'=>∃h,d = .gR 3 gen 6 0 (nk l).l/\H' = [.row 43 0 g.cells,.row 46 0 s.cells,.row 256 0 [.gR 3 gen 6 0 n],.row 259 gen (cl iJ.cells (nk l)++h)]):=by
 subst C;refine Yg Fu ?_;simp[Fu]
 by_cases h1:(l.l:Int)<2
 .have e:=ZV (l:=l) U;simp[h1,e]
 .simp[h1];refine gZ.e (1:Int) (λy=>[(0,.gR 3 gen 6 0 l.l),(1,.fn (.func 264) [] []),(5,.i y)]) (λy=>[.row 43 0 g.cells,.row 46 0 s.cells,.row 256 0 [.gR 3 gen 6 0 l.l],.row 259 gen (cl iJ.cells l)]) (λy=>1<=y/\y<=l.l/\nk l=l.take y.n++tq l y) (λy=>(l.l-y).n) ?_ ?_
  .simp;exact⟨U,by rw[aeZ h0]⟩
  rintro y ⟨q,E,c⟩
  by_cases b:y<l.l
  .simp[b,Gc (l:=l) (n:=y.n-1) (m:=y-1) U];refine gU ?_;refine ke.c rfl rfl (f126 (gt l y) (gt l (y-1)) (hs _ (ij U b)) (hs _ (ij U U))) gP gP ?_;simp
   by_cases t:gt l y=gt l (y-1)
   .simp[t];refine gU ?_;refine gZ.e ((1,y,l):Int×Int×List iJ) (λx=>[(0,.gR 3 gen 6 0 l.l),(1,.fn (.func 264) [] []),(5,.i x.2.1),(6,.gR 3 gen 6 y.n (l.l-y.n)),(7,.i x.1)]) (λx=>[.row 43 0 g.cells,.row 46 0 s.cells,.row 256 0 [.gR 3 gen 6 0 l.l],.row 259 gen (cl iJ.cells x.2.2)]) (λx=>1<=x.1/\y+x.1<=l.l/\1<=x.2.1/\x.2.1<y+x.1/\x.2.2.l=l.l/\(∀j:Int,y+x.1-1<=j->gt x.2.2 j=gt l j)/\nk l=x.2.2.take x.2.1.n++tq l (y+x.1)) (λx=>(l.l-(y+x.1)).n) ?_ ?_
    .simp;exact⟨U,q,U,by rw[c,SK q b t]⟩
    rintro⟨k,i,cur⟩ ⟨k0,k1,i0,B,a,o,c2⟩;dsimp only at k0 k1 i0 B a o c2 ⊢
    by_cases u:y+k<l.l
    .have z:gt cur (y+k)=gt l (y+k):=o _ U;have e2:gt cur (y+k-1)=gt l (y+k-1):=o _ U;have w:=Gc (l:=cur) (n:=y.n+k.n) (m:=y+k) U;have D:=Gc (l:=cur) (n:=y.n+(k.n-1)) (m:=y+k-1) U;simp[(U:k<((l.l-y.n:Nat):Int)),w,D,z,e2,a];refine gU ?_;refine ke.c rfl rfl (f126 (gt l (y+k)) (gt l (y+k-1)) (hs _ (ij U u)) (hs _ (ij U U))) gP gP ?_;simp
     by_cases r:gt l (y+k)=gt l (y+k-1)
     .simp[r];refine gU ?_;refine LJ.e (k+1,i,cur) ?_;refine⟨iv,iv,iv,i0,iv,a,λj v=>o j (by dsimp only at v;omega),?_⟩;dsimp only;rw[c2,SK U u r,aE]
     .simp[r,w,z,a];refine kf w z a ?_;have A:=ZK (f:=iJ.cells) cur i U (gt l (y+k));refine LJ.i (k+1,i+1,pt cur i (gt l (y+k))) yB (by dsimp only;rw[<-A];rfl) rfl rfl ?_;refine⟨iv,iv,iv,iv,iv,by dsimp only;rw[jy U U];exact a,λj v=>?_,?_⟩
      .dsimp only at v ⊢;rw[Dy U U U U];exact o j U
      .dsimp only;rw[ae0 U U,c2,SL U u r,aE];simp
    .have e:tq l (y+k) = []:=SJ U U;rw[e,az]at c2;simp[(U:¬k<((l.l-y.n:Nat):Int)),a];refine gU ?_;exact⟨by rw[c2];simp;omega,_,by rw[zV,c2]⟩
   .simp[t];refine gU ?_;refine LJ.e (y+1) ?_;refine iQ ?_;rw[c,SL q b t,jP U b];simp
  .have e:tq l y = []:=SJ U q;rw[e,az,nf U]at c;simp[b];exact⟨by rw[c],[],by rw[c];simp⟩
def aiT(x:D)(H:gQ):Wf T 263 [.gV,x] H (λd H'=>d = .gV/\H'=H):=by refine Yg Fu ?_;simp[Fu]
def ajd(x:D)(H:gQ):Wf T 153 [.gV,x] H (λd H'=>d = .gV/\H'=H):=by refine Yg FC ?_;simp[FC]
theorem Y4{g:gY}:∀ {l:List gT} {now:List il},(uP g l now).l<=10 ^ l.l*now.l
 | [],now=>by simp[uP]
 | x::r,now=>by rw[uP];refine Nat.le_trans Y4 ?_;rw[aF,fh,gM];exact ft _ Lk
theorem S8{g:gY}:∀ {l:List gT} {a b:List il},(∀t,t∈a↔t∈b)->∀t,t∈uP g l a↔t∈tY g l b
 | [],a,b,h,t=>h t
 | x::r,a,b,h,t=>by rw[uP,tY];refine S8 (λt=>?_) t;rw[RU,bG,bG];exact⟨λ⟨s,h1,c⟩=>⟨s,(h s).1 h1,c⟩,λ⟨s,h1,c⟩=>⟨s,(h s).2 h1,c⟩⟩
def adT{g:gY}{p:Pos}{c n:Int}{o:iJ}:o∈wN g p c n↔o∈xp g p c (gt (gt g.kinds (iC (gt p.cs c))).jv n):=by unfold wN xp;rw[c9,c9];exact⟨λ⟨s,h1,a⟩=>⟨s,(S8 (λ_=>eM) s).1 h1,a⟩,λ⟨s,h1,a⟩=>⟨s,(S8 (λ_=>eM) s).2 h1,a⟩⟩
def f85(g:gY)(hg:iE g)(p:Pos)(i:ja g p)(c n:Int)(w:0<=c/\c<p.cs.l)(hs:lg (gt p.cs c)=p.side)(l:0<=n/\n<(gt g.kinds (iC (gt p.cs c))).jv.l) :
  Wf T 214 [dG g,dP p,.i c,.i n] [] (Ey (λr:List iJ=>.tup [dN 6 iJ.cells r,.i 0]) λr=>(∀o,o∈r↔o∈xp g p c (gt (gt g.kinds (iC (gt p.cs c))).jv n))/\r.l<=100000000):=by
 have E:=i.size;have k:=HY hg i w.1 U hs;have m:zK g (gt (gt g.kinds (iC (gt p.cs c))).jv n):=(hg.jv _ (ij k.kind.1 k.kind.2)).2 _ (ij l.1 l.2)
 have v:(wN g p c n).l<=100000000:=by unfold wN;refine Nat.le_trans (gp ..) (Nat.le_trans Y4 ?_);have:=m.len;have:10 ^ (gt (gt g.kinds (iC (gt p.cs c))).jv n).l<=10 ^ 8:=dt jo U;simpa using this
 have j:∀o,o∈wN g p c n->Small o.p:=λo b=>by rw[adT]at b;unfold xp at b;rw[c9]at b;obtain⟨s,h1,D⟩:=b;exact(Ql (Sm hg m.steps (λt C=>by rw[List.mem_singleton.1 C];exact k) s h1) i.side.1 i.side.2 D).small hg
 refine Yg Pc ?_;simp[Pc];refine ik.kZ rfl rfl (f121 g hg p i c n w hs l) ?_;rintro d H' ⟨rfl,rfl⟩;have u:=λo=>adT (g:=g) (p:=p) (c:=c) (n:=n) (o:=o);generalize wN g p c n=outs at *
 by_cases b:outs = []
 .subst b;simp;refine ik.kZ rfl rfl (Wf.HU (K:=λd H'=>d = .tup []/\H'=_) (sz:=6) rfl ⟨rfl,rfl⟩) ?_;rintro d H' ⟨rfl,rfl⟩;simp;refine ik.kZ rfl rfl (aiT _ _) ?_;rintro d H' ⟨rfl,rfl⟩;simp;exact Ey.i [] rfl rfl ⟨u,gP⟩
 .have h0:0<outs.l:=ay.2 b;rw[if_neg b];simp;refine ik.kZ rfl rfl (Wf.sort (K:=λd H'=>∃e,e.Perm outs/\d = .tup []/\H' = [.row 43 0 g.cells,.row 46 0 p.cells,.row 256 0 [.gR 3 (outs.l-1) 6 0 outs.l],.row 259 (outs.l-1) (cl iJ.cells e)]) (fc:=iJ.cells) outs tF rfl rfl h0 U (λx=>PS.2 rfl) ZP agS (λx B y A=>f124 x y (j x B) (j y A)) (gen:=outs.l-1) (t:=259) gP (λe i F=>⟨e,i,rfl,gP⟩)) ?_;rintro d H' ⟨e,f,rfl,rfl⟩;simp;refine ik.kZ rfl rfl (f125 g p (outs.l-1) e (λo b=>j o ((f.mem_iff).1 b)) (by rw[f.length_eq];exact h0) (by rw[f.length_eq];omega) outs.l f.length_eq) ?_;rintro d H' ⟨q,rfl,rfl⟩;simp;have z:nk e≠[]:=λh=>b (by rw[ag0]at h;rw[h]at f;exact f.symm.eq_nil);refine Ey.i (nk e) (by revert z;cases nk e with|nil=>intro h;exact absurd rfl h|cons a r=>intro _;rfl) rfl ⟨λo=>by rw[Jl,f.mem_iff,u],?_⟩;have:=ZU e;have:=f.length_eq;omega
def f86(l:List Pos)(h:0<l.l)(b:l.l<2 ^ 40):Wf T 150 [iZ l] [] (λd H=>d = .gR 0 1 5 0 l.l/\H = [.row 46 1 (cl Pos.cells l)]):=by refine Yg FB ?_;simp[FB];refine oA.i (a:=.b false) (by cases l with|nil=>exact absurd h gP|cons a r=>rfl) ?_;simp;exact oS
def ajc:Wf T 150 [.gV] [] (Is .gV):=by refine Yg FB ?_;simp[FB]
def yU{l:List Pos}(h:l≠[]):iZ l=dN 5 Pos.cells l:=by
 cases l with
 | nil=>exact absurd rfl h
 | cons a r=>rfl
@[simp] theorem ayr(l:List Pos):closed (dN 5 Pos.cells l)=true:=Db (λa=>gP) l
theorem atw:lY [] = []:=aA.1 (Nat.le_zero.1 (SC []))
def atv{l:List Pos}(h:l≠[]):lY l≠[]:=λe=>by obtain⟨a,r,rfl⟩:=fJ h;have:a∈lY (a::r):=yx.2 gP;rw[e]at this;cases this
def f48(l:List Pos)(hs:∀p∈l,Small p)(hl:l.l<2 ^ 40):Wf T 95 [dN 5 Pos.cells l] [] (Is (dN 5 Pos.cells (lY l))):=by
 by_cases h:l = []
 .subst h;rw[atw];show Wf T 95 [.gV] [] (Is .gV);refine Yg FA ?_;simp[FA];refine Yc (ajc) ?_;simp;refine ik.kZ rfl rfl (Wf.HU (K:=λd H'=>d = .tup []/\H'=_) (sz:=5) rfl ⟨rfl,rfl⟩) ?_;rintro d H' ⟨rfl,rfl⟩;simp;refine ik.kZ rfl rfl (ajd _ _) ?_;rintro d H' ⟨rfl,rfl⟩;simp
 .have h0:0<l.l:=ay.2 h;rw[<-yU h,<-yU (atv h)];refine Yg FA ?_;simp[FA];refine Yn (f86 l h0 hl) ?_;simp;refine ik.kZ rfl rfl (Wf.sort (K:=λd H'=>∃a,a.Perm l/\a.Pairwise (λx y=>¬jz y x<0)/\d = .tup []/\H' = [.row 46 1 (cl Pos.cells a)]) (fc:=Pos.cells) l jz rfl rfl h0 hl xH (λx y z=>Bp) agT (λx g y f=>f88 x y (hs x g) (hs y f)) (gen:=1) (t:=46) gP (λa i c=>⟨a,i,c,rfl,gP⟩)) ?_;rintro d H' ⟨a,b,c,rfl,rfl⟩;simp;refine ik.kZ rfl rfl (f89 1 a (λo j=>hs o ((b.mem_iff).1 j)) (by rw[b.length_eq];exact h0) (by rw[b.length_eq];omega) l.l b.length_eq) ?_;rintro d H' ⟨e,rfl,rfl⟩;simp[ag2 b c]
