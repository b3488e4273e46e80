/- 43 -/
import Derived.Test.YtmehofoficaelaaGreatDoorV42
set_option linter.all false
open List renaming mem_singleton→aE,length→List.l
open Go.IntKind renaming i64→bb
open Bool renaming false→bs,true→b4
open Int renaming toNat→Int.n
namespace Go.Proofs.YtmehofoficaelaaGreatDoor
open Go Go.AL Classical
set_option maxRecDepth 10000
set_option maxHeartbeats 8000000
def aeX(g:gq)(hg:gR g)(p:Pos)(u:iC g p):Wf T 51 [dG g,dP p,.i 40] [] (Ey (λx:Bool×List Pos=>.agg [if x.1 then gP x.2 else .gi,.i (if x.1 then 0 else 2)]) (λx=>x.1=b4->Jt g x.2/\x.2.l<=40)):=by
 have L:=u.small hg;refine Yz FK (kK 62 [6,7] (ji 34 [5] FK.body)) ?_;simp[FK,ji,kK,nq,nA,nR,mm];refine gx.fz [3,4] rfl ?_;refine gx.e (([p],[p]):List Pos×List Pos) (λy=>[(2,.i 40),(3,.ptr 0 0 0),(6,.ptr 2 0 0),(7,gP y.1),(8,gP y.2)]) (λy=>[.row 43 0 g.cells,.row 46 0 p.cells,.row 123 0 [.gi,.i 0],.dead,.dead]) (λy=>Mh g p y.1 y.2/\y.1.l<=40) (λy=>(81-y.1.l)*2+(if y.2 = []then 0 else 1)) ?_ ?_
 .refine⟨⟨λi h1 v=>by simp at v;omega,by simpa using u,fZ,fZ,fZ,fZ,fZ⟩,fZ⟩
 rintro⟨c,last⟩ ⟨d,z⟩;have t:=d.len;have C:=d.ahd;dsimp only at d t C z ⊢;simp;refine kj ?_ ?_<;>intro h
 .refine gx.e ((0,0,[]):Int×Nat×List Pos) (λy=>[(2,.i 40),(3,.ptr 0 0 0),(6,.ptr 2 0 0),(7,gP c),(8,gP last),(9,.gf 5 y.2.1 5 0 y.2.2.l),(10,.i y.1)]) (λy=>[.row 43 0 g.cells,.row 46 0 p.cells,.row 123 0 [.gi,.i 0],.dead,.dead,.row 46 y.2.1 (cl Pos.cells y.2.2)]) (λy=>0<=y.1/\y.1<=last.l/\(∀m,m∈y.2.2↔∃q∈last.take y.1.n,rJ g q m)/\y.2.2.l<=y.1.n*4000000000) (λy=>last.l-y.1.n) ?_ ?_
  .simp
  rintro⟨i,G,nx⟩ ⟨i0,E,o,D⟩;dsimp only at i0 E o D ⊢;simp;refine kj ?_ ?_<;>intro h
  .have f:=d.ok _ (d.sub _ (gF i0 ‹_›));have S:=yN hg f;refine Yt (f60 g hg _ f) ?_;simp;refine gh ?_;refine LJ.e (i+1,G+1,nx++iY g (gt last i)) ?_;dsimp only;refine⟨U,U,U,λm=>?_,?_⟩
   .rw[aj,o,Ck,jt i0 ‹_›];simp only[aj,aE];constructor
    .grind
    .grind
   .grind
  .rw[lC U]at o
   have A:∀q∈nx,iC g q:=λq f=>by obtain⟨r,F,n⟩:=(o q).1 f;exact S1 hg (d.ok r (d.sub r F)) n
   refine Yc (Ww nx U (λq f=>(A q f).small hg)) ?_;simp;have K:=Pe nx;have B:=kT.nodup (CM nx);have s:∀q,q∈kN nx↔∃r∈last,rJ g r q:=λq=>by rw[wB,o]
   have w:∀q∈kN nx,Small q:=λq f=>(A q (wB.1 f)).small hg;generalize hN:kN nx=N at *;refine gx.e ((0,0,[]):Int×Nat×List Pos) (λy=>[(2,.i 40),(3,.ptr 0 0 0),(6,.ptr 2 0 0),(7,gP c),(8,.gf 6 y.2.1 5 0 y.2.2.l),(9,gP N),(11,.i y.1)]) (λy=>[.row 43 0 g.cells,.row 46 0 p.cells,.row 123 0 [.gi,.i 0],.dead,.dead,.dead,.row 46 y.2.1 (cl Pos.cells y.2.2)]) (λy=>0<=y.1/\y.1<=N.l/\(∀m,m∈y.2.2↔m∈N.take y.1.n/\m ∉ c)/\y.2.2.Nodup/\y.2.2.l<=y.1.n) (λy=>N.l-y.1.n) ?_ ?_
   .simp
   rintro⟨j,gm,l⟩ ⟨j0,j1,j2,j3,j4⟩;dsimp only at j0 j1 j2 j3 j4 ⊢;simp;refine kj ?_ ?_<;>intro h
   .refine Yc (f27 c (gt N j) U (λq f=>(d.ok q f).small hg) (w _ (gF j0 ‹_›)) d.yZ) ?_;simp
    have O:pO c (gt N j)<0↔gt N j ∉ c:=by
     by_cases n:gt N j∈c
     .have:=GK n;simp[n];omega
     .rw[WG n];simp[n]
    refine kj ?_ ?_<;>intro h
    .refine LJ.e (j+1,gm+1,l ++ [gt N j]) ?_;dsimp only
     have J:gt N j ∉ l:=λn=>by have:=(j2 _).1 n;obtain⟨k,M,e⟩:=dM.1 this.1;refine bG.1 B k j.n U U U ?_;rw[e,iX j0 ‹_›]
     refine⟨U,U,U,λm=>?_,cP.2 ⟨j3,fZ,λa Q b P e=>?_⟩,gL⟩
     .rw[aj,j2,jt j0 ‹_›,aj,aE];constructor
      .grind
      .grind
     .grind
    .refine LJ.e (j+1,gm,l) ?_;dsimp only;refine⟨U,U,U,λm=>?_,j3,U⟩;rw[j2,jt j0 ‹_›,aj,aE];constructor
     .grind
     .grind
   .rw[lC U]at j2;refine Yc (Ww (c++l) gL (λq f=>(aj.1 f).elim (λh=>(d.ok q h).small hg) λh=>w q ((j2 q).1 h).1)) ?_;simp;have H:=d.step hg (next:=N) (last':=l) (all':=kN (c++l)) s j2 j3 (CM _) (λq=>by rw[wB,aj]);refine kj ?_ ?_<;>intro h
    .exact Ey.i (bs,[]) fZ rfl (λh=>by cases h)
    .obtain⟨h1,v,R⟩:=H U;refine LJ.e (kN (c++l),l) ?_;dsimp only;refine⟨?_,h1,by simp at *;omega⟩;have I:last≠[]:=λe=>by subst e;simp at *
     rw[if_neg I]
     by_cases e:l = []
     .grind
     .grind
 .refine Ey.i (b4,c) fZ rfl λ_=>⟨⟨d.yZ,d.ok,λq f=>d.cl q f ?_,?_⟩,z⟩
  .grind
  .have:=fF d.has;exact⟨this,t⟩
def aeO(x:qx)(c:Jr x):Wf T 13 [.agg x.cells,.i 40] [] (Ey (λy:gq×Pos×Bool×List Pos=>.agg (y.1.cells++(y.2.1.cells ++ [if y.2.2.1 then gP y.2.2.2 else .gi,.b y.2.2.1]))) λy=>gR y.1/\iC y.1 y.2.1/\(y.2.2.1=b4->Jt y.1 y.2.2.2/\y.2.2.2.l<=40)):=by
 have hl:x.l.l=18:=c.len;have f:x.cells.l=31:=by simp[qx.cells,Raw.cells,c.len]
 have d:x.cells.take 31=x.cells:=af U;refine Yg J4 ?_;simp[J4,hl];refine⟨U,?_⟩;rw[d];refine gy.q rfl rfl (f32 x c) (by simpa using Vl x) (λ_=>fZ) ?_;rintro⟨g,p⟩ ⟨hg,a⟩;dsimp only at hg a;simp;refine gy.q rfl rfl (aeX g hg p a) fZ (λy=>by obtain⟨b,l⟩:=y;cases b<;>simp) ?_;intro y e;simp;obtain⟨b,l⟩:=y;cases b
 .simp;exact Ey.i (g,p,bs,l) rfl rfl ⟨hg,a,λh=>by cases h⟩
 .simp;exact Ey.i (g,p,b4,l) rfl rfl ⟨hg,a,e⟩
def adR(g:gq)(hg:gR g)(l:List Pos)(d:lZ g l)(h0:0<l.l)(h:l.l<=1000){L:List Cw}{dcl:D}(b:dcl = .sl 36 (L.map iI)\/(L = []/\dcl = .gi))
  (f:∀x∈L,x.ok) (e:∀x∈L,∀r∈x.c.es,r.2<=4000) (i:L.l<=100000) :
  Wf T 33 [dG g,gP l,dcl] [] (Is (.agg (y4 (wC (jv g l (gE g l)) l.l (jr l.l) (cs L))))):=by
 have c:=adI g hg l d h0 h b f e i
 have a:closed dcl=true:=by
  rcases b with rfl|⟨rfl,rfl⟩
  .exact xZ L
  .rfl
 obtain⟨S,hS⟩:∃S,wC (jv g l (gE g l)) l.l (jr l.l) (cs L)=S:=⟨_,rfl⟩;rw[hS]at c ⊢;clear hS;obtain⟨_|v,o⟩:=S
 .simp only[y4]at c;refine Yg za ?_;simp[za,a];refine Yc c ?_ rfl rfl (by simp[a]) fZ;simp;refine gh ?_;rfl
 .simp only[y4]at c;refine Yg za ?_;simp[za,a];refine Yc c ?_ rfl rfl (by simp[a]) fZ;simp;refine gh ?_;rfl
def YW{A:mc}{n:Nat}{c:gV}(a:jr n c=b4)(j:c.hi<n):nj A n (jr n) [c] = .vm:=by
 have h1:¬idx (λc => !jr n c) [c]≠[]:=λh=>by obtain⟨d,e,b⟩:=Cc.1 h;rw[aE.1 e,a]at b;cases b
 have g:=(Pd (c:=c) (by unfold jr at a;simp at a;exact a.1))
 have f:∃i∈upto n,sd [c] i = []:=⟨n-1,jJ.2 iM,by
  unfold sd mR;rw[List.filter_cons_of_neg (by simp;intro;omega)]
  rfl⟩
 unfold nj;rw[if_neg h1,if_pos f]
def aoi{A:mc}{n:Nat}{c:gV}(d:jr n c=b4)(b:c.hi<n):y4 (wC A n (jr n) [c]) = [.gi,.gi,.i 180]:=by
 have a:=YW (A:=A) d b
 have e:CO A n (jr n) [c]=(upto 1,.vm):=by show CP A n (jr n) [c] (1+1) (upto 1)=_;unfold CP;rw[show(upto 1).map (λk=>gt [c] k) = [c]from rfl,a]
 unfold wC;rw[e,if_neg (by rintro⟨h,_⟩;cases h)];rfl
structure Wk where
 kind:Int
 pos:Int
 n:Int
 uF:Int
 tz:Int
 deriving Inhabited
def Wk.cells(w:Wk):List D:=[.i w.kind,.i w.pos,.i w.n,.i w.uF,.i w.tz]
structure Wk.ok(w:Wk):Prop where
 kind:1<=w.kind/\w.kind<=4
 pos:0<=w.pos/\w.pos<=31
 n:0<=w.n/\w.n<=5
 uF:1<=w.uF/\w.uF<=3
 tz:0<=w.tz/\w.tz<=8
def xH(x:List Int):Wk:=⟨1+gt x 0 % 4,gt x 1 % 32,gt x 2 % 6,1+gt x 3 % 3,gt x 4 % 9⟩
def aoA(x:List Int):(xH x).ok:=⟨by unfold xH;dsimp only;omega,by unfold xH;dsimp only;omega,by unfold xH;dsimp only;omega,by unfold xH;dsimp only;omega,by unfold xH;dsimp only;omega⟩
def CT(w:Wk)(v:List gg)(i:Int):gg:=if w.kind=4/\i=w.pos then(w.uF,w.tz)else gt v i
def pg(w:Wk)(v:List gg)(lo:Int):Nat->List gg
 | 0=>[]
 | n+1=>pg w v lo n ++ [CT w v (lo+n)]
theorem T2(w:Wk)(v:List gg)(lo:Int):∀n,(pg w v lo n).l=n
 | 0=>rfl
 | n+1=>by rw[pg,aq,T2 w v lo n];rfl
def Jo(w:Wk)(t:Int):Bool:=decide (w.kind=1\/w.kind=4\/(w.kind=3/\w.n<=t))
set_option maxHeartbeats 4000000
def ad1(a b c d e:Int)(r:0<=a/\a<256)(q:0<=b/\b<256)(p:0<=c/\c<256)(o:0<=d/\d<256)(n:0<=e/\e<256):Wf T 60 [.agg [.val (.int .u8 a),.val (.int .u8 b),.val (.int .u8 c),.val (.int .u8 d),.val (.int .u8 e)]] [] (Is (.agg (xH [a,b,c,d,e]).cells)):=by have h:(xH [a,b,c,d,e]).cells = [.i (1+a % 4),.i (b % 32),.i (c % 6),.i (1+d % 3),.i (e % 9)]:=rfl;have m:gG a 4=a % 4:=jM r.1;have l:gG b 32=b % 32:=jM q.1;have rc:gG c 6=c % 6:=jM p.1;have rd:gG d 3=d % 3:=jM o.1;have k:gG e 9=e % 9:=jM n.1;have j:bb.wrap (a % 4)=a % 4:=n5 iM;have i:bb.wrap (b % 32)=b % 32:=n5 iM;have wc:bb.wrap (c % 6)=c % 6:=n5 iM;have g:bb.wrap (d % 3)=d % 3:=n5 iM;have f:bb.wrap (e % 9)=e % 9:=n5 iM;refine Yg JD ?_;simp[JD,m,l,rc,rd,k,j,i,wc,g,f,h];omega
structure B5 where
 a:Int
 b:Int
 c:Int
 d:Int
 e:Int
 deriving Inhabited
structure B5.ok(x:B5):Prop where
 a:0<=x.a/\x.a<256
 b:0<=x.b/\x.b<256
 c:0<=x.c/\x.c<256
 d:0<=x.d/\x.d<256
 e:0<=x.e/\x.e<256
@[irreducible] def f5(x:B5):List D:=[.val (.int .u8 x.a),.val (.int .u8 x.b),.val (.int .u8 x.c),.val (.int .u8 x.d),.val (.int .u8 x.e)]
@[simp] theorem atv(x:B5):f5 x = [.val (.int .u8 x.a),.val (.int .u8 x.b),.val (.int .u8 x.c),.val (.int .u8 x.d),.val (.int .u8 x.e)]:=by unfold f5;rfl
instance:Fl f5 5:=⟨λ_=>fZ,λ_=>by simp[gK]⟩
@[irreducible] def uM(w:Wk):List D:=w.cells
theorem DK(w:Wk):uM w = [.i w.kind,.i w.pos,.i w.n,.i w.uF,.i w.tz]:=by unfold uM;rfl
instance:Fl uM 5:=⟨λ_=>by rw[DK];rfl,λ_=>by rw[DK];simp[gK]⟩
def B5.wk(x:B5):Wk:=xH [x.a,x.b,x.c,x.d,x.e]
def adH(l:List B5)(hl:∀x∈l,x.ok):Wf T 18 [.sl 5 (l.map f5)] [] (Is (.sl 5 (((l.take 8).map B5.wk).map uM))):=by
 obtain⟨R,f⟩:∃R,(l.take 8).map B5.wk=R:=⟨_,rfl⟩;rw[f];refine Yg Jw ?_;simp[Jw];refine gx.e ((0,[]):Int×List Wk) (λy=>[(0,.sl 5 (l.map f5)),(3,.gf 0 y.2.l 5 0 y.2.l),(4,.i y.1)]) (λy=>[.row 149 y.2.l (cl uM y.2)]) (λy=>(0<=y.1/\y.1<=l.l/\y.1<=8)/\y.2=(l.take y.1.n).map B5.wk) (λy=>(l.l-y.1).n) ?_ ?_
 .simp
 rintro⟨i,A⟩ ⟨⟨i0,k,j⟩,b⟩;dsimp only at i0 k j b ⊢;have p:A.l=i.n:=by rw[b];simp;omega
 by_cases hi:i<l.l/\i<8
 .have e:=Jb (l:=l) i0 hi.1;have a:=hl _ (gF i0 hi.1);have c:=ad1 (gt l i).a (gt l i).b (gt l i).c (gt l i).d (gt l i).e a.a a.b a.c a.d a.e;have g:A ++ [(gt l i).wk]=(l.take (i+1).n).map B5.wk:=by rw[e,List.map_append,<-b];rfl
  rw[show xH [(gt l i).a,(gt l i).b,(gt l i).c,(gt l i).d,(gt l i).e]=(gt l i).wk from rfl]at c;obtain⟨w,m⟩:∃w,(gt l i).wk=w:=⟨_,rfl⟩;rw[m]at c g;rw[show w.cells=cl uM [w]by rw[je];unfold uM;rfl]at c;have o:(cl uM [w]).l=5:=by rw[sZ];rfl
  have d:(cl uM [w]).take 5=cl uM [w]:=af U;simp[hi.1,hi.2];refine gh ?_;refine Yc (c) ?_;simp[d];refine jT d ?_;refine LJ.i (i+1,A ++ [w]) (by first|rfl|simp[d]) (by first|rfl|simp[d]) rfl rfl ?_;exact pb g
 .have e:l.take i.n=l.take 8:=by
   by_cases h:i=8
   .rw[h];rfl
   .rw[af U,af U]
  rw[e,f]at b;subst b;clear f e
  by_cases h:i<l.l
  .have n:i=8:=by omega
   subst n;simp[h]
  .simp[h]
set_option maxHeartbeats 8000000
def aoL(w:Wk)(v:List gg){lo i:Int}(h:lo<=i):pg w v lo (i+1-lo).n=pg w v lo (i-lo).n ++ [CT w v i]:=by rw[(U:(i+1-lo).n=(i-lo).n+1),pg,(U:lo+((i-lo).n:Int)=i)]
def zx(l:List Int):cl fU l=l.map λx=>.val (.int .u8 x):=by
 unfold cl
 induction l with
 | nil=>rfl
 | cons a l b=>simp[b,fU]
def TE(ρ:Nat->Option Nat)(H:gd)(k:Nat)(l:List Int):(cl fU l).map (gw ρ H (k+1))=cl fU l:=by rw[zx,b7];rfl
def Qa(l:List Int)(h:l.l=32)(b:D):(cl fU l ++ [b]).drop 33 = []:=by rw[List.drop_eq_nil_iff];simp[h,sZ]
def aeb(w:Wk)(E:w.ok)(who t lo hi:Int)(v:List gg)(h0:0<=lo)(h1:lo<hi)(K:hi<=v.l)(J:v.l<=64)(I:0<=who/\who<=1000) :
  Wf T 92 [.agg w.cells,.agg [.i who,.i t,.i lo,.i hi],iw v] [] (Is (if Jo w t=b4 then .agg (iI ⟨⟨who,lo,hi,pg w v lo (hi-lo).n,jX (pg w v lo (hi-lo).n)⟩,bs⟩ ++ [.b b4])else .agg ([.i 0,.i 0,.i 0,.gi]++cl fU (zs 32) ++ [.b bs]))):=by
 obtain⟨kind,pos,n,uF,tz⟩:=w;have F:=E.kind;unfold Wk.cells Jo;dsimp only at F ⊢
 by_cases h:kind=1\/kind=4\/(kind=3/\n<=t)
 .rw[decide_eq_true h,if_pos rfl];have n1:¬lo<0:=U;have n2:¬hi<lo:=U;have g:¬(v.l:Int)<hi:=U;obtain⟨W,j⟩:∃W,(⟨kind,pos,n,uF,tz⟩:Wk)=W:=⟨_,rfl⟩;have x:∀i,CT W v i=if kind=4/\i=pos then(uF,tz)else gt v i:=λi=>by rw[<-j];rfl
  have q:∀m,(pg W v lo m).l=m:=T2 W v lo;have G:(pg W v lo (hi-lo).n).l<=64:=by rw[q];omega
  have c:=V' (v:=pg W v lo (hi-lo).n) (.inl rfl) G;have hl:=yT (pg W v lo (hi-lo).n);rw[j,GD,Tj hl];obtain⟨r,o⟩:∃r,jX (pg W v lo (hi-lo).n)=r:=⟨_,rfl⟩;rw[o]at c hl ⊢;clear o;have z:r.take 32=r:=af U
  have H:((kind=1)=True/\(kind=4)=False)\/((kind=1)=False/\(kind=4)=True)\/((kind=1)=False/\(kind=4)=False/\(kind=3)=True/\(n<=t)=True):=by simp;omega
  clear j h;rcases H with e|e|e
  all_goals
   refine Yg ze ?_;simp[ze,n1,n2,g,e];refine gx.e ((lo,[]):Int×List gg) (λy=>[(2,iw v),(3,.ptr 0 0 0),(4,.ptr 1 0 0),(6,.ptr 2 0 0),(7,.ptr 3 0 0),(8,.i y.1)]) (λy=>.row 149 0 [.i kind,.i pos,.i n,.i uF,.i tz] :: .row 209 0 [.i who,.i t,.i lo,.i hi] :: .row 206 0 (.i 0 :: .i 0 :: .i 0 :: .gi::(cl fU (zs 32) ++ [.b bs])) :: .row 72 0 (.i who :: .i lo :: .i hi::(if y.2 = []then .gi else .gf 4 (y.2.l-1) 2 0 y.2.l)::cl fU (zs 32))::(if y.2 = []then []else [.row 86 (y.2.l-1) (cl fS y.2)])) (λy=>(lo<=y.1/\y.1<=hi)/\y.2=pg W v lo (y.1-lo).n) (λy=>(hi-y.1).n) ?_ ?_
   .simp[pg];omega
   rintro⟨i,A⟩ ⟨⟨i0,C⟩,f⟩;dsimp only at i0 C f ⊢;have l:A.l=(i-lo).n:=by rw[f,q]
   by_cases k:i<hi
   .have p:A ++ [CT W v i]=pg W v lo (i+1-lo).n:=by rw[aoL W v i0,<-f]
    have s:i<v.l:=U;have u:0<=i:=U;have d:=x i
    by_cases a:A = []
    .subst a;rcases(gL:(i=pos)=True\/(i=pos)=False)with b|b
     all_goals
      simp[e,b]at d;simp[e,k,b,s,u];refine gh ?_;refine LJ.i (i+1,[CT W v i]) (by first|rfl|simp[d,je]) (by first|rfl|simp[d,je]) rfl rfl ?_;exact⟨U,iM,p⟩
    .have D:0<A.l:=ay.2 a;rw[if_neg a,if_neg a];rcases(gL:(i=pos)=True\/(i=pos)=False)with b|b
     all_goals
      simp[e,b]at d;simp[e,k,b,s,u];refine gh ?_;refine LJ.i (i+1,A ++ [CT W v i]) (by first|rfl|simp[d,(U:A.l-1+1=A.l)]) (by first|rfl|simp[d,(U:A.l-1+1=A.l)]) rfl rfl ?_;exact⟨U,iM,p⟩
   .have B:i=hi:=by omega
    subst B;have a:A≠[]:=λe=>by rw[e]at l;simp at l;omega
    rw[<-f]at c;rw[<-f];rw[if_neg a,if_neg a];simp[k];refine gh ?_;refine gy.r rfl rfl c fZ (by simp[flat]) fZ ?_;simp[hl,z,TE,Qa];rfl
 .rw[decide_eq_false h,if_neg fZ];have n1:¬lo<0:=U;have n2:¬hi<lo:=U;have g:¬(v.l:Int)<hi:=U;have m1:¬kind=1:=U;have m2:¬kind=4:=U
  by_cases m3:kind=3
  .have m4:¬n<=t:=by omega
   refine Yg ze ?_;simp[ze,n1,n2,g,m1,m2,m3,m4,TE,Qa]
  .refine Yg ze ?_;simp[ze,n1,n2,g,m1,m2,m3,TE,Qa]
def sx(n:Int):Nat->Int->List gg
 | 0,_=>[]
 | k+1,a=>(a,a+(n-a+k) / (k+1))::sx n k (a+(n-a+k) / (k+1))
def VA{n a:Int}{k:Nat}(h:((k+1:Nat):Int)<=n-a):1<=(n-a+k) / (k+1)/\(n-a+k) / (k+1)<=n-a-k:=by
 have b:(0:Int)<k+1:=U;refine⟨?_,?_⟩
 .rw[Int.le_ediv_iff_mul_le b];omega
 .have:0<=(n-a-k-1)*(k:Int):=Int.mul_nonneg U U;have e:(n-a-k+1)*((k:Int)+1)=(n-a-k-1)*k+2*k+(n-a-k+1):=by rw[Int.mul_add,Int.mul_one,(U:n-a-(k:Int)+1=(n-a-k-1)+2),Int.add_mul]
  have:=Int.ediv_lt_of_lt_mul b (U:n-a+k<(n-a-k+1)*((k:Int)+1));omega
theorem Bd{n:Int}:∀ {k:Nat} {a:Int},0<=a->(k:Int)<=n-a->∀p∈sx n k a,0<=p.1/\p.1<p.2/\p.2<=n
 | 0,_,_,_,p,hp=>by cases hp
 | k+1,a,h0,h,p,hp=>by
  have b:=VA h;rcases av.1 hp with rfl|hp
  .dsimp only;omega
  .exact Bd U U p hp
theorem MP{n:Int}:∀ {k:Nat} {a:Int},(sx n k a).l=k
 | 0,_=>rfl
 | k+1,_=>by rw[sx,aI,MP]
def aea(n k:Int)(h0:0<n)(s:n<=4000)(k0:0<=k)(k9:k<=4000):Wf T 91 [.i n,.i k] [] (Is (.sl 2 ((sx n (min k n).n 0).map fS))):=by
 by_cases h:k<1
 .have e:(min k n).n=0:=by omega
  rw[e];refine Yg C3 ?_;simp[C3,h];rfl
 .have n1:¬n<1:=by omega
  have n2:¬ 4000<n:=U;obtain⟨K,i⟩:∃K:Nat,min k n=K:=⟨(min k n).n,U⟩;rw[i,bF];obtain⟨R,d⟩:∃R,sx n K 0=R:=⟨_,rfl⟩;rw[d];refine Yg C3 ?_;simp[C3,h,n1,n2,i];refine gx.e (((0,K),[]):(Int×Nat)×List gg) (λy=>[(0,.i n),(5,.gf 0 y.2.l 2 0 y.2.l),(6,.i y.1.1),(7,.i y.1.2)]) (λy=>[.row 204 y.2.l (cl fS y.2)]) (λy=>((0<=y.1.1/\y.1.1<=n)/\(y.1.2:Int)<=n-y.1.1)/\y.2++sx n y.1.2 y.1.1=R) (λy=>y.1.2) ?_ ?_
  .simp[d];omega
  rintro⟨⟨a,m⟩,A⟩ ⟨⟨⟨r,p⟩,g⟩,b⟩;dsimp only at r p g b ⊢
  cases m with
  | zero=>
   have f:A=R:=by simpa[sx]using b
   subst f;clear d;simp
  | succ m=>
   have o:=VA g
   have c:u0 (n-a+(m+1)-1) (m+1)=(n-a+m) / (m+1):=by rw[(U:n-a+((m:Int)+1)-1=n-a+m),u4 U U U]
   rw[sx]at b;obtain⟨q,j⟩:∃q,(n-a+(m:Int)) / (m+1)=q:=⟨_,rfl⟩;rw[j]at o c b;have l:(A++(a,a+q)::sx n m (a+q)).l=R.l:=by rw[b]
   have t:R.l=K:=by rw[<-d,MP]
   simp at l;simp;refine jT c ?_;refine LJ.i ((a+q,m),A ++ [(a,a+q)]) (by first|rfl|simp[c]) (by first|rfl|simp[c]) rfl rfl ?_;dsimp only;exact⟨U,⟨iM,U⟩,by simpa using b⟩
@[irreducible] noncomputable def rG(w:Wk)(who:Int)(p:gg)(v:List gg):Cw:=⟨⟨who,p.1,p.2,pg w v p.1 (p.2-p.1).n,jX (pg w v p.1 (p.2-p.1).n)⟩,bs⟩
noncomputable def u6(ws:List Wk)(v P:List gg)(t:Int):Nat->List Cw
 | 0=>[]
 | n+1=>u6 ws v P t n++(if Jo (gt ws n) t=b4 then [rG (gt ws n) n (gt P (n % P.l)) v]else [])
theorem Tt{ws:List Wk}{v P:List gg}{t:Int}:∀n,(u6 ws v P t n).l<=n
 | 0=>Nat.le_refl 0
 | n+1=>by
  have:=Tt (ws:=ws) (v:=v) (P:=P) (t:=t) n;rw[u6,aq];split
  .simp;omega
  .simp;omega
def adW(ws:List Wk)(v:List gg)(k t:Int)(M:∀w∈ws,w.ok)(V:ws.l<=8)(S:0<v.l)(N:v.l<=64)(k0:0<=k)(k9:k<=4000)
  {R:List Cw} (m:(if k<1 then []else u6 ws v (sx v.l (min k v.l).n 0) t ws.l)=R) :
  Wf T 44 [.sl 5 (ws.map uM),iw v,.i k,.i t] [] (λd H=>d = .gf 0 R.l 36 0 R.l/\H = [.row 72 R.l (cl iI R)]):=by
 have E:=aea v.l k U U k0 k9;have Xu:=Bd (n:=v.l) (k:=(min k v.l).n) (a:=0) U U;have K:=MP (n:=v.l) (k:=(min k v.l).n) (a:=0);obtain⟨P,hP⟩:∃P,sx v.l (min k v.l).n 0=P:=⟨_,rfl⟩;rw[hP]at E Xu K m;clear hP;refine Yg JB ?_;simp[JB];refine Yc (E) ?_;simp;refine gh ?_;refine gx.e ((0,[]):Int×List Cw) (λy=>[(0,.sl 5 (ws.map uM)),(1,iw v),(3,.i t),(9,.sl 2 (P.map fS)),(10,.gf 0 y.2.l 36 0 y.2.l),(11,.i y.1)]) (λy=>[.row 72 y.2.l (cl iI y.2)]) (λy=>((0<=y.1/\y.1<=ws.l)/\(P = []->y.1=0))/\y.2=u6 ws v P t y.1.n) (λy=>(ws.l-y.1).n) ?_ ?_
 .simp[u6]
 rintro⟨i,A⟩ ⟨⟨⟨i0,L⟩,z⟩,o⟩;dsimp only at i0 L z o ⊢
 have Q:A.l<=8:=by have:=Tt (ws:=ws) (v:=v) (P:=P) (t:=t) i.n;rw[o];omega
 by_cases l:P = []
 .have O:=z l;subst O l
  have s:A=R:=by rw[<-m,if_pos (by simp at K;omega)];exact o
  subst s;clear m
  by_cases hi:(0:Int)<ws.l
  all_goals
   simp[hi];exact mI
 .have Xv:0<P.l:=ay.2 l
  by_cases hi:i<ws.l
  .have j:gG i P.l=i % P.l:=jM i0;have f:0<=i % (P.l:Int):=bY _ U;have g:i % (P.l:Int)<P.l:=bO _ U;have r:=Xu _ (gF f g);have c:=aeb (gt ws i) (M _ (gF i0 hi)) i t (gt P (i % P.l)).1 (gt P (i % P.l)).2 v r.1 r.2.1 r.2.2 N ⟨i0,U⟩;rw[show(gt ws i).cells = [.i (gt ws i).kind,.i (gt ws i).pos,.i (gt ws i).n,.i (gt ws i).uF,.i (gt ws i).tz]from rfl]at c
   have b:u6 ws v P t (i+1).n=A++(if Jo (gt ws i) t=b4 then [rG (gt ws i) i (gt P (i % P.l)) v]else []):=by rw[(U:(i+1).n=i.n+1),u6,<-o,(U:((i.n:Nat):Int)=i)]
   by_cases B:Jo (gt ws i) t=b4
   .rw[if_pos B]at c b;rw[show(⟨⟨i,(gt P (i % P.l)).1,(gt P (i % P.l)).2,pg (gt ws i) v (gt P (i % P.l)).1 ((gt P (i % P.l)).2-(gt P (i % P.l)).1).n,jX (pg (gt ws i) v (gt P (i % P.l)).1 ((gt P (i % P.l)).2-(gt P (i % P.l)).1).n)⟩,bs⟩:Cw)=rG (gt ws i) i (gt P (i % P.l)) v by unfold rG;rfl]at c;obtain⟨x,C⟩:∃x,rG (gt ws i) i (gt P (i % P.l)) v=x:=⟨_,rfl⟩;rw[C]at c b;clear C;rw[show iI x=cl iI [x]from(je _).symm]at c;have q:(cl iI [x]).l=36:=by rw[sZ];rfl
    have p:(cl iI [x]).take 36=cl iI [x]:=af U;have J:(cl iI [x] ++ [D.b b4])[36]? = some (.b b4):=by rw[ak U,q];rfl
    have I:(cl iI [x] ++ [D.b b4]).take 37=cl iI [x] ++ [.b b4]:=af (by simp[q]);simp[hi,Xv,j,f,g,i0,DK];(with_reducible repeat' first|refine Xk ?_<;>try simp[j,f,g,DK]|refine Xs ?_ ?_<;>intro h<;>(try intro W)<;>(try simp[h,j,f,g,DK])<;>try omega|refine Xg ?_|omega);refine iZ.c rfl rfl c fZ (by simp[Vk,MI]) ?_;simp[q,p,I,J];refine xQ q p I J ?_;refine LJ.i (i+1,A ++ [x]) (by first|rfl|simp[p]) (by first|rfl|simp[p]) rfl rfl ?_;exact⟨gJ,⟨iM,λe=>absurd e l⟩,b.symm⟩
   .rw[if_neg B]at c b;rw[aB]at b;have u:(cl fU (zs 32)).l=32:=fZ;have G:(cl fU (zs 32) ++ [D.b bs])[32]? = some (.b bs):=by rw[ak U,u];rfl
    have F:(cl fU (zs 32) ++ [D.b bs]).take 33=cl fU (zs 32) ++ [.b bs]:=af (by simp[u]);simp[hi,Xv,j,f,g,i0,DK];refine nL j f g ?_;refine iZ.c rfl rfl c fZ (by simp[Vk,MI]) ?_;simp[G,F];refine kP G F ?_;refine LJ.e (i+1,A) ?_;exact⟨gJ,⟨iM,λe=>absurd e l⟩,b.symm⟩
  .have s:A=R:=by rw[<-m,if_neg U,o,(U:i.n=ws.l)]
   subst s;clear m;simp[hi]
structure Js(x:Cw):Prop where
 ok:x.ok
 b:∀r∈x.c.es,r.2<=4000
def PG(n:Nat)(sd:Bool)(L:List Cw):Prop:=L.l<=10/\∀x∈L,Js x/\(sd=b4->x.em=bs/\0<=x.c.lo/\x.c.lo<x.c.hi/\x.c.hi<=n/\(x.c.es.l:Int)=x.c.hi-x.c.lo/\x.c.root=jX x.c.es)
theorem abG{w:Wk}{v:List gg}{lo:Int}{r:gg}:∀ {n:Nat},r∈pg w v lo n->0<=lo->lo+n<=v.l->r∈v\/r=(w.uF,w.tz)
 | 0,h,_,_=>by cases h
 | n+1,h,h0,h1=>by
  rcases aj.1 h with h|h
  .exact abG h h0 U
  .rw[aE.1 h,CT];split
   .exact .inr rfl
   .exact .inl (gF U U)
def aoz{w:Wk}(b:w.ok){who:Int}{p:gg}{v:List gg}(a:0<=p.1/\p.1<p.2/\p.2<=v.l)(e:v.l<=64)(c:∀r∈v,r.2<=4000) :
  Js (rG w who p v)/\((rG w who p v).em=bs/\0<=(rG w who p v).c.lo/\(rG w who p v).c.lo<(rG w who p v).c.hi/\(rG w who p v).c.hi<=v.l/\((rG w who p v).c.es.l:Int)=(rG w who p v).c.hi-(rG w who p v).c.lo/\(rG w who p v).c.root=jX (rG w who p v).c.es):=by
 have hl:=T2 w v p.1 (p.2-p.1).n;unfold rG;refine⟨⟨⟨(λh=>by cases h),?_,yT _,?_,?_⟩,λr d=>?_⟩,rfl,?_,?_,?_,?_,rfl⟩
 .dsimp only;omega
 .dsimp only;omega
 .dsimp only;omega
 .rcases abG d a.1 U with h|rfl
  .exact c r h
  .have:=b.tz;dsimp only;omega
 .exact a.1
 .exact a.2.1
 .exact a.2.2
 .dsimp only;omega
theorem aaM{ws:List Wk}{v P:List gg}{t:Int}(c:∀w∈ws,w.ok)(hP:∀p∈P,0<=p.1/\p.1<p.2/\p.2<=v.l)(b:0<P.l)(e:v.l<=64)(d:∀r∈v,r.2<=4000) :
  ∀n,n<=ws.l->∀x∈u6 ws v P t n,Js x/\(b4=b4->x.em=bs/\0<=x.c.lo/\x.c.lo<x.c.hi/\x.c.hi<=v.l/\(x.c.es.l:Int)=x.c.hi-x.c.lo/\x.c.root=jX x.c.es)
 | 0,_,x,a=>by cases a
 | n+1,hn,x,a=>by
  rcases aj.1 a with a|a
  .exact aaM c hP b e d n U x a
  .split at a
   .rw[aE.1 a];have:=aoz (who:=n) (c (gt ws n) (gF U U)) (hP (gt P ((n:Int) % P.l)) (gF (bY _ U) (bO _ U))) e d;exact⟨this.1,λ_=>this.2⟩
   .cases a
def On(n:Nat)(sd:Bool):D->gd->Prop:=λd H=>∃L g,d = .gf 0 g 36 0 L.l/\H = [.row 72 g (cl iI L)]/\PG n sd L
def gy.on{f:FuncId}{args:List D}{dst:Option Nat}{s:St}{K:St->Prop}{fn:jq}{n:Nat}{sd:Bool}(c:T.fn f=some fn)(b:fn.full=bs)(h:Wf T f args [] (On n sd))
  (a:gK args=b4) (k:∀L g,PG n sd L->K { s with env:=put s.env dst (.gf s.H.l g 36 0 L.l),H:=s.H ++ [.row 72 g (cl iI L)] }):gy T f args dst s K .mk:=by
 refine gy.is c b (K0:=On n sd) ?_ ?_
 .have i:args.map (gw (λ_=>none) s.H 40)=args:=by
   conv=>rhs;rw[<-aY args]
   exact au λd e=>p7 (lP a d e)
  rw[i];exact h
 .rintro d' j ⟨L,g,rfl,rfl,hP⟩;refine⟨_,?_,k L g hP⟩;unfold after;rw[if_pos a,if_pos fZ];simp
def ad3(v:List gg)(l:List B5)(k t a b c:Int)(hl:∀x∈l,x.ok)(X:0<v.l)(M:v.l<=64)(Q:∀r∈v,r.2<=4000)(k0:0<=k)(k9:k<=4000)
  (V:0<=a/\a<256) (S:0<=b/\b<256) (hc:0<=c/\c<256) :
  Wf T 73 [iw v,.sl 5 (l.map f5),.i k,.i t,.agg [.val (.int .u8 a),.val (.int .u8 b),.val (.int .u8 c)]] [] (On v.l (decide (a % 8<6))):=by
 have C:=adH l hl
 have J:∀w∈(l.take 8).map B5.wk,w.ok:=λw P=>by obtain⟨x,_,rfl⟩:=az.1 P;exact aoA _
 have F:((l.take 8).map B5.wk).l<=8:=gL;obtain⟨ws,O⟩:∃ws,(l.take 8).map B5.wk=ws:=⟨_,rfl⟩;rw[O]at C J F
 have D:∀x∈(if k<1 then []else u6 ws v (sx v.l (min k v.l).n 0) t ws.l),Js x/\(b4=b4->x.em=bs/\0<=x.c.lo/\x.c.lo<x.c.hi/\x.c.hi<=v.l/\(x.c.es.l:Int)=x.c.hi-x.c.lo/\x.c.root=jX x.c.es):=by
  intro x d;split at d
  .cases d
  .exact aaM J (Bd U U) (by rw[MP];omega) M Q _ (Nat.le_refl _) x d
 have Y:(if k<1 then []else u6 ws v (sx v.l (min k v.l).n 0) t ws.l).l<=8:=by
  split
  .simp
  .exact Nat.le_trans (Tt _) F
 obtain⟨R,I⟩:∃R,(if k<1 then []else u6 ws v (sx v.l (min k v.l).n 0) t ws.l)=R:=⟨_,rfl⟩;have c2:=adW ws v k t J F X M k0 k9 I;rw[I]at D Y;clear I O;have e:gG a 8=a % 8:=jM V.1
 by_cases L:R = []
 .subst L;refine Yg wJ ?_;simp[wJ];refine Yc (C) ?_;simp;refine gh ?_;refine Go.AL.gy.n rfl rfl c2 fZ fZ ?_;simp;exact⟨[],0,rfl,fZ,by simp[PG]⟩
 have g:0<R.l:=ay.2 L;have j:0<=b % (R.l:Int):=bY _ U;have m:b % (R.l:Int)<R.l:=bO _ U;have p:gG b R.l=b % R.l:=jM S.1;have n:bb.wrap b=b:=n5 iM;have wc:bb.wrap c=c:=n5 iM;have d:=D _ (gF j m);obtain⟨x,N⟩:∃x,gt R (b % R.l)=x:=⟨_,rfl⟩;rw[N]at d;have H:=Qs d.1.ok;have G:=d.1.ok.root;obtain⟨⟨who,lo,hi,es,root⟩,em⟩:=x;dsimp only at G
 obtain⟨z,rs,rfl⟩:∃z rs,root=z::rs:=by
  cases root with
  | nil=>cases G
  | cons z rs=>exact⟨z,rs,rfl⟩
 have i:rs.l=31:=by simpa using G
 have s:rs.take 31=rs:=af U;have Z:(cl fU rs).take 31=cl fU rs:=af (by simp[i]);have q:iI (gt R (b % R.l)) = [.i who,.i lo,.i hi,dE em es,.val (.int .u8 z)]++cl fU rs:=by rw[N,H];simp[Cw.cells,nb]
 have K:∀u o E,-1000000<=u/\u<=1000000->-1000000<=o/\o<=1000000->On v.l bs (.gf 0 (R.l+1) 36 0 (R.l+1)) [.row 72 (R.l+1) (cl iI R ++ .i who :: .i u :: .i o::dE em es :: .val (.int .u8 E)::cl fU rs)]:=λu o E q1 q2=>by
  have gp:Cw.ok ⟨⟨who,u,o,es,E::rs⟩,em⟩:=⟨d.1.ok.em,d.1.ok.es,by simp[i],q1,q2⟩;refine⟨R ++ [⟨⟨who,u,o,es,E::rs⟩,em⟩],R.l+1,fZ,?_,gL,λy f=>⟨?_,λh=>by cases h⟩⟩
  .rw[<-qc,Qs gp];simp[Cw.cells,nb]
  .rcases aj.1 f with f|f
   .exact(D y f).1
   .rw[aE.1 f];exact⟨gp,d.1.b⟩
 have q1:=d.1.ok.lo;have q2:=d.1.ok.hi;have q3:=(d.2 rfl).2;dsimp only at q1 q2 q3
 by_cases A:a % 8=7
 .refine Yg wJ ?_;simp[wJ];refine Yc (C) ?_;simp;refine gh ?_;refine Go.AL.gy.n rfl rfl c2 fZ fZ ?_;simp[g,e,A,n,p,j,m,q,i,s];(with_reducible repeat' first|refine Xk ?_<;>try simp[g,e,A,n,p,j,m,q,i,s]|refine Xs ?_ ?_<;>intro h<;>(try intro W)<;>(try simp[h,g,e,A,n,p,j,m,q,i,s])<;>try omega|refine Xg ?_|omega);exact K _ _ _ q1 q2
 .by_cases B:a % 8=6
  .refine Yg wJ ?_;simp[wJ];refine Yc (C) ?_;simp;refine gh ?_;refine Go.AL.gy.n rfl rfl c2 fZ fZ ?_;simp[g,e,B,n,wc,p,j,m,q,i,s];(with_reducible repeat' first|refine Xk ?_<;>try simp[g,e,B,n,wc,p,j,m,q,i,s]|refine Xs ?_ ?_<;>intro h<;>(try intro W)<;>(try simp[h,g,e,B,n,wc,p,j,m,q,i,s])<;>try omega|refine Xg ?_|omega);exact K _ _ _ U U
  .refine Yg wJ ?_;simp[wJ];refine Yc (C) ?_;simp;refine gh ?_;refine Go.AL.gy.n rfl rfl c2 fZ fZ ?_;simp[g,e,B,A];refine xQ g e B A ?_;exact⟨R,R.l,rfl,rfl,U,λy f=>⟨(D y f).1,λ_=>(D y f).2 rfl⟩⟩
def YV:Jd->List D
 | .v a ls=>[.i a,dN 1 f1 ls,.i 0]
 | .none=>[.i 0,.gi,.i 270]
 | .vm=>[.i 0,.gi,.i 180]
def adO(g:gq)(hg:gR g)(l:List Pos)(d:lZ g l)(h0:0<l.l)(h:l.l<=1000){L:List Cw}
  (f:∀x∈L,x.ok) (e:∀x∈L,∀r∈x.c.es,r.2<=4000) (i:L.l<=100000) :
  Wf T 30 [dG g,gP l,.sl 36 (L.map iI)] [] (Is (.agg (YV (nj (jv g l (gE g l)) l.l (jr l.l) (cs L))))):=by
 have c:=ad4 g hg l d h0 h (L:=L) (.inl rfl) f e i;obtain⟨J,b⟩:∃J,nj (jv g l (gE g l)) l.l (jr l.l) (cs L)=J:=⟨_,rfl⟩;rw[b]at c ⊢;clear b
 cases J with
 | v a ls=>
  unfold AT at c;refine Yg wG ?_;simp[wG];refine Yc (c) ?_;simp;refine gh ?_;rfl
 | none=>
  unfold AT at c;refine Yg wG ?_;simp[wG];refine Yc (c) ?_;simp;refine gh ?_;rfl
 | vm=>
  unfold AT at c;refine Yg wG ?_;simp[wG];refine Yc (c) ?_;simp;refine gh ?_;rfl
def pK.eo{α:Type}{g:α->D}{F:α->Ob}{P:α->Prop}{f:FuncId}{args:List D}{R:List Fp}{dst:Option Nat}{s:St}{Q:Rc->St->Prop}{fn:jq}(h1:elem f Cs=b4)(i:T.fn f=some fn)(e:fn.full=bs)(h:Wf T f args [] (Eo g (λx=>[F x]) P))
  (a:gK args=b4) (c:∀x,(mL (g x)&&nN (F x))=b4)
  (k:∀x,P x->Q ⟨R,[(s.H.l,none)]⟩ { s with env:=put s.env dst (kE s.H.l (g x)),H:=s.H ++ [F x] }):pK T f args R dst s Q .mk:=by
 obtain⟨d,H',⟨x,rfl,rfl,b⟩,l⟩:=Wf.one aay aaz h h1
 have m:args.map (gw (λ_=>none) s.H 40)=args:=by
  conv=>rhs;rw[<-aY args]
  exact au λd j=>p7 (lP a d j)
 exact .inl (.inr ⟨fn,g x,F x,i,e,by rw[m];exact l,by rw[if_pos a];exact c x,k x b⟩)
def adL(v:List gg)(l:List B5)(K d a b c:Int)(hl:∀x∈l,x.ok)(p:0<v.l)(o:v.l<=64)(h:∀r∈v,r.2<=4000)(n:0<=K/\K<256)(m:0<=d/\d<256)
  (k:0<=a/\a<256) (j:0<=b/\b<256) (i:0<=c/\c<256) :
  Wf T 26 [iw v,.agg [.sl 5 (l.map f5),.val (.int .u8 K),.val (.int .u8 d),.val (.int .u8 a),.val (.int .u8 b),.val (.int .u8 c)]] [] (Is .any):=by
 have f:gG (bb.wrap K) 5=K % 5:=by rw[n5 iM];exact jM n.1
 have rt:gG (bb.wrap d) 6=d % 6:=by rw[n5 iM];exact jM m.1
 have e:=ad3 v l (K % 5) (d % 6) a b c hl p o h U U k j i;refine Wf.any (fn:=Jy) rfl (by simp[Jy]) (by exact rfl) (by exact rfl) ?_ rfl rfl;simp[f,rt];refine kP f rt ?_;refine gy.on rfl rfl e fZ λL g hP=>?_;simp
def uI(k a:Nat)(v:List gg):List D:=.i 0 :: .i 0 :: .i v.l :: .gf k a 2 0 v.l::cl fU (jX v)
def adM(v:List gg)(b:List D)(j:v.l<=64)(k a:Nat)(H:gd)(g:H[k]? = some (.row 86 a (cl fS v++b))) :
  Wf T 28 [.gf k a 2 0 v.l] H (λd H'=>d = .agg (uI k a v)/\H'=H ++ [.row 72 0 (uI k a v)]):=by
 have c:=V' (v:=v) (.inl rfl) j;have hl:=yT v;unfold uI;obtain⟨r,f⟩:∃r,jX v=r:=⟨_,rfl⟩;rw[f]at c hl ⊢;clear f;have h:r.take 32=r:=af U;have i:=jw g;have e:∀o,(H ++ [o])[k]? = some (.row 86 a (cl fS v++b)):=λo=>by rw[ah i];exact g
 refine Wf.xo 4 (fn:=Fx) rfl (by simp[Fx]) ?_;simp[Fx];refine gy.r rfl rfl c (by simp[e]) (by simp[flat,oX]) fZ ?_;simp[hl,h]
def MH(k a:Nat)(A:List gg):(uI k a A).l=36:=by unfold uI;simp[yT]
def Vg{a:Nat}{A V:List gg}{H:gd}(b:H[3]? = some (.row 86 a (cl fS V))):(List.map ((List.map λv=>((v,none):Fp)) ∘ iB H 39) (uI 3 a A)).flatten = [(3,none)]:=by
 have h1:((cl fU (jX A)).map (iB H 39)).flatten = []:=OW (sw _)
 have c:((cl fU (jX A)).map ((List.map λv=>((v,none):Fp)) ∘ iB H 39)).flatten = []:=by rw[<-b7,<-List.map_flatten,h1];rfl
 unfold uI;simp[c,b]
def ahr{n:Nat}{d:D}(h:closed d=b4):EN n d=true:=by cases d<;>first|exact h|cases h
def acJ(b:Nat)(A:List gg):Ar 4 (.agg (uI 3 b A))=true:=by have h:(cl fU (jX A)).all (EN 4)=true:=List.all_eq_true.2 λd a=>ahr (lP (sw _) d a);unfold uI Ar;simp only[fR,h,Bool.and_true];rfl
def acI(A:List gg):iI ⟨su A,bs⟩ = .i 0 :: .i 0 :: .i A.l::iw A::cl fU (jX A):=by rw[GD];unfold su;dsimp only;rw[Tj (yT A)];rfl
def Vh{a:Nat}{A:List gg}{b:List D}{H:gd}(c:H[3]? = some (.row 86 a (cl fS A++b))):(uI 3 a A).map (gw (λ_=>none) H 39)=iI ⟨su A,bs⟩:=by have h1:(cl fU (jX A)).map (gw (λ_=>none) H 39)=cl fU (jX A):=Pa (sw _);rw[acI];unfold uI;simp[h1,c]
