/- Part 43 of DisputeSettles. -/
import Derived.Test.YtmehofoficaelaaGreatDoorS42
set_option linter.all false
namespace Go.Proofs.YtmehofoficaelaaGreatDoor
open Go Go.AL Classical
set_option maxRecDepth 10000
set_option maxHeartbeats 8000000
def afK(g:gj)(hg:gU g)(p:Pos)(v:iz g p):Wf T 51 [dG g,dP p,.i 40] [] (Ey (λx:Bool×List Pos=>.agg [if x.1 then gZ x.2 else .gg,.i (if x.1 then 0 else 2)]) (λx=>x.1=true->JL g x.2/\x.2.length<=40)):=by
 have P:=v.small hg;refine Yz FU (kq 62 [6,7] (iV 34 [5] FU.body)) ?_;simp[FU,iV,kq,nb,ng,nD,lV];refine gp.fz [3,4] rfl ?_;refine gp.e (([p],[p]):List Pos×List Pos) (λy=>[(2,.i 40),(3,.ptr 0 0 0),(6,.ptr 2 0 0),(7,gZ y.1),(8,gZ y.2)]) (λy=>[.row 43 0 g.cells,.row 46 0 p.cells,.row 123 0 [.gg,.i 0],.dead,.dead]) (λy=>MN g p y.1 y.2/\y.1.length<=40) (λy=>(81-y.1.length)*2+(if y.2 = []then 0 else 1)) ?_ ?_
 .refine⟨⟨λi h1 s=>by simp at s;omega,by simpa using v,by simp,by simp,by simp,by simp,by simp⟩,by simp⟩
 rintro⟨c,last⟩ ⟨d,B⟩;have u:=d.len;have F:=d.ah0;dsimp only at d u F B ⊢;simp;refine jT ?_ ?_<;>intro h
 .refine gp.e ((0,0,[]):Int×Nat×List Pos) (λy=>[(2,.i 40),(3,.ptr 0 0 0),(6,.ptr 2 0 0),(7,gZ c),(8,gZ last),(9,.fZ 5 y.2.1 5 0 y.2.2.length),(10,.i y.1)]) (λy=>[.row 43 0 g.cells,.row 46 0 p.cells,.row 123 0 [.gg,.i 0],.dead,.dead,.row 46 y.2.1 (cl Pos.cells y.2.2)]) (λy=>0<=y.1/\y.1<=last.length/\(∀m,m∈y.2.2↔∃q∈last.take y.1.toNat,rH g q m)/\y.2.2.length<=y.1.toNat*4000000000) (λy=>last.length-y.1.toNat) ?_ ?_
  .simp
  rintro⟨i,L,nx⟩ ⟨i0,H,o,G⟩;dsimp only at i0 H o G ⊢;simp;refine jT ?_ ?_<;>intro h
  .have f:=d.ok _ (d.sub _ (gA i0 ‹_›));have S:=yT hg f;refine Yt (f60 g hg _ f) ?_;simp;refine gf ?_;refine LJ.e (i+1,L+1,nx++iW g (gt last i)) ?_;dsimp only;refine⟨by omega,by omega,by omega,λm=>?_,?_⟩
   .rw[List.mem_append,o,CD,jn i0 ‹_›];simp only[List.mem_append,List.mem_singleton];constructor
    .rintro(⟨q,a,b⟩|a)
     .exact⟨q,.inl a,b⟩
     .exact⟨_,.inr rfl,a⟩
    .rintro⟨q,a|rfl,b⟩
     .exact .inl ⟨q,a,b⟩
     .exact .inr b
   .rw[aj,show(i+1).toNat=i.toNat+1 by omega,cE];omega
  .rw[lr (by omega)]at o
   have C:∀q∈nx,iz g q:=λq f=>by obtain⟨r,I,n⟩:=(o q).1 f;exact TL hg (d.ok r (d.sub r I)) n
   refine Yc (Xj nx (by omega) (λq f=>(C q f).small hg)) ?_;simp;have O:=PM nx;have E:=kX.nodup (C2 nx);have t:∀q,q∈kI nx↔∃r∈last,rH g r q:=λq=>by rw[wK,o]
   have A:∀q∈kI nx,Small q:=λq f=>(C q (wK.1 f)).small hg;generalize hN:kI nx=N at *;refine gp.e ((0,0,[]):Int×Nat×List Pos) (λy=>[(2,.i 40),(3,.ptr 0 0 0),(6,.ptr 2 0 0),(7,gZ c),(8,.fZ 6 y.2.1 5 0 y.2.2.length),(9,gZ N),(11,.i y.1)]) (λy=>[.row 43 0 g.cells,.row 46 0 p.cells,.row 123 0 [.gg,.i 0],.dead,.dead,.dead,.row 46 y.2.1 (cl Pos.cells y.2.2)]) (λy=>0<=y.1/\y.1<=N.length/\(∀m,m∈y.2.2↔m∈N.take y.1.toNat/\m ∉ c)/\y.2.2.Nodup/\y.2.2.length<=y.1.toNat) (λy=>N.length-y.1.toNat) ?_ ?_
   .simp
   rintro⟨j,gm,l⟩ ⟨j0,j1,j2,j3,j4⟩;dsimp only at j0 j1 j2 j3 j4 ⊢;simp;refine jT ?_ ?_<;>intro h
   .refine Yc (f27 c (gt N j) (by omega) (λq f=>(d.ok q f).small hg) (A _ (gA j0 ‹_›)) d.A1) ?_;simp
    have w:pN c (gt N j)<0↔gt N j ∉ c:=by
     by_cases n:gt N j∈c
     .have:=G2 n;simp[n];omega
     .rw[Xu n];simp[n]
    refine jT ?_ ?_<;>intro h
    .refine LJ.e (j+1,gm+1,l ++ [gt N j]) ?_;dsimp only
     have D:gt N j ∉ l:=λn=>by have:=(j2 _).1 n;obtain⟨k,Q,e⟩:=dR.1 this.1;refine bM.1 E k j.toNat (by omega) (by omega) (by omega) ?_;rw[e,iZ j0 ‹_›]
     refine⟨by omega,by omega,by omega,λm=>?_,bR.2 ⟨j3,by simp,λa J b z e=>?_⟩,by simp;omega⟩
     .rw[List.mem_append,j2,jn j0 ‹_›,List.mem_append,List.mem_singleton];constructor
      .rintro(⟨a,b⟩|rfl)
       .exact⟨.inl a,b⟩
       .exact⟨.inr rfl,w.1 h⟩
      .rintro⟨a|a,b⟩
       .exact .inl ⟨a,b⟩
       .exact .inr a
     .rw[List.mem_singleton]at z;subst z;subst e;exact D J
    .refine LJ.e (j+1,gm,l) ?_;dsimp only;refine⟨by omega,by omega,by omega,λm=>?_,j3,by omega⟩;rw[j2,jn j0 ‹_›,List.mem_append,List.mem_singleton];constructor
     .rintro⟨a,b⟩;exact⟨.inl a,b⟩
     .rintro⟨a|rfl,b⟩
      .exact⟨a,b⟩
      .exact absurd (w.2 b) h
   .rw[lr (by omega)]at j2;refine Yc (Xj (c++l) (by simp;omega) (λq f=>(List.mem_append.1 f).elim (λh=>(d.ok q h).small hg) λh=>A q ((j2 q).1 h).1)) ?_;simp;have K:=d.step hg (next:=N) (last':=l) (all':=kI (c++l)) t j2 j3 (C2 _) (λq=>by rw[wK,List.mem_append]);refine jT ?_ ?_<;>intro h
    .exact Ey.i (false,[]) (by simp) rfl (λh=>by cases h)
    .obtain⟨h1,s,R⟩:=K (by omega);refine LJ.e (kI (c++l),l) ?_;dsimp only;refine⟨?_,h1,by simp at *;omega⟩;have M:last≠[]:=λe=>by subst e;simp at *
     rw[if_neg M]
     by_cases e:l = []
     .rw[if_pos e];omega
     .have:=s e;rw[if_neg e];have:=h1.len;omega
 .refine Ey.i (true,c) (by simp) rfl λ_=>⟨⟨d.A1,d.ok,λq f=>d.cl q f ?_,?_⟩,B⟩
  .have:last = []:=ax.1 (by omega);rw[this];simp
  .have:=fJ d.has;exact⟨this,u⟩
def afA(x:qt)(c:JJ x):Wf T 13 [.agg x.cells,.i 40] [] (Ey (λy:gj×Pos×Bool×List Pos=>.agg (y.1.cells++(y.2.1.cells ++ [if y.2.2.1 then gZ y.2.2.2 else .gg,.b y.2.2.1]))) λy=>gU y.1/\iz y.1 y.2.1/\(y.2.2.1=true->JL y.1 y.2.2.2/\y.2.2.2.length<=40)):=by
 have hl:x.l.length=18:=c.len;have f:x.cells.length=31:=by simp[qt.cells,Raw.cells,c.len]
 have d:x.cells.take 31=x.cells:=af (by omega);refine Yg Kr ?_;simp[Kr,hl];refine⟨by omega,?_⟩;rw[d];refine gx.q rfl rfl (f32 x c) (by simpa using We x) (λ_=>by simp) ?_;rintro⟨g,p⟩ ⟨hg,a⟩;dsimp only at hg a;simp;refine gx.q rfl rfl (afK g hg p a) (by simp) (λy=>by obtain⟨b,l⟩:=y;cases b<;>simp) ?_;intro y e;simp;obtain⟨b,l⟩:=y;cases b
 .simp;exact Ey.i (g,p,false,l) rfl rfl ⟨hg,a,λh=>by cases h⟩
 .simp;exact Ey.i (g,p,true,l) rfl rfl ⟨hg,a,e⟩
def aeF(g:gj)(hg:gU g)(l:List Pos)(d:ox g l)(h0:0<l.length)(h:l.length<=1000){L:List Cw}{dcl:D}(b:dcl = .sl 36 (L.map ib)\/(L = []/\dcl = .gg))
  (f:∀x∈L,x.ok) (e:∀x∈L,∀r∈x.c.es,r.2<=4000) (i:L.length<=100000) :
  Wf T 33 [dG g,gZ l,dcl] [] (Is (.agg (y9 (wL (ji g l (gw g l)) l.length (jm l.length) (cs L))))):=by
 have c:=aez g hg l d h0 h b f e i
 have a:closed dcl=true:=by
  rcases b with rfl|⟨rfl,rfl⟩
  .exact yd L
  .rfl
 obtain⟨S,hS⟩:∃S,wL (ji g l (gw g l)) l.length (jm l.length) (cs L)=S:=⟨_,rfl⟩;rw[hS]at c ⊢;clear hS;obtain⟨_|v,o⟩:=S
 .simp only[y9]at c;refine Yg Dc ?_;simp[Dc,a];refine Yc c ?_ rfl rfl (by simp[a]) (by simp);simp;refine gf ?_;rfl
 .simp only[y9]at c;refine Yg Dc ?_;simp[Dc,a];refine Yc c ?_ rfl rfl (by simp[a]) (by simp);simp;refine gf ?_;rfl
structure Wk where
 kind:Int
 pos:Int
 n:Int
 uN:Int
 tE:Int
 deriving Inhabited
def Wk.cells(w:Wk):List D:=[.i w.kind,.i w.pos,.i w.n,.i w.uN,.i w.tE]
structure Wk.ok(w:Wk):Prop where
 kind:1<=w.kind/\w.kind<=4
 pos:0<=w.pos/\w.pos<=31
 n:0<=w.n/\w.n<=5
 uN:1<=w.uN/\w.uN<=3
 tE:0<=w.tE/\w.tE<=8
def xP(x:List Int):Wk:=⟨1+gt x 0 % 4,gt x 1 % 32,gt x 2 % 6,1+gt x 3 % 3,gt x 4 % 9⟩
def apC(x:List Int):(xP x).ok:=⟨by unfold xP;dsimp only;omega,by unfold xP;dsimp only;omega,by unfold xP;dsimp only;omega,by unfold xP;dsimp only;omega,by unfold xP;dsimp only;omega⟩
def C9(w:Wk)(v:List gd)(i:Int):gd:=if w.kind=4/\i=w.pos then(w.uN,w.tE)else gt v i
def o9(w:Wk)(v:List gd)(lo:Int):Nat->List gd
 | 0=>[]
 | n+1=>o9 w v lo n ++ [C9 w v (lo+n)]
theorem UK(w:Wk)(v:List gd)(lo:Int):∀n,(o9 w v lo n).length=n
 | 0=>rfl
 | n+1=>by rw[o9,aj,UK w v lo n];rfl
def JG(w:Wk)(t:Int):Bool:=decide (w.kind=1\/w.kind=4\/(w.kind=3/\w.n<=t))
set_option maxHeartbeats 4000000
def aeN(a b c d e:Int)(r:0<=a/\a<256)(q:0<=b/\b<256)(p:0<=c/\c<256)(o:0<=d/\d<256)(n:0<=e/\e<256):Wf T 60 [.agg [.val (.int .u8 a),.val (.int .u8 b),.val (.int .u8 c),.val (.int .u8 d),.val (.int .u8 e)]] [] (Is (.agg (xP [a,b,c,d,e]).cells)):=by have h:(xP [a,b,c,d,e]).cells = [.i (1+a % 4),.i (b % 32),.i (c % 6),.i (1+d % 3),.i (e % 9)]:=rfl;have m:gD a 4=a % 4:=jB r.1;have l:gD b 32=b % 32:=jB q.1;have rc:gD c 6=c % 6:=jB p.1;have rd:gD d 3=d % 3:=jB o.1;have k:gD e 9=e % 9:=jB n.1;have j:IntKind.i64.wrap (a % 4)=a % 4:=np iE;have i:IntKind.i64.wrap (b % 32)=b % 32:=np iE;have wc:IntKind.i64.wrap (c % 6)=c % 6:=np iE;have g:IntKind.i64.wrap (d % 3)=d % 3:=np iE;have f:IntKind.i64.wrap (e % 9)=e % 9:=np iE;refine Yg JZ ?_;simp[JZ,m,l,rc,rd,k,j,i,wc,g,f,h];omega
structure B5 where
 a:Int
 b:Int
 c:Int
 d:Int
 e:Int
 deriving Inhabited
structure B5.ok(x:B5):Prop where
 a:0<=x.a/\x.a<256
 b:0<=x.b/\x.b<256
 c:0<=x.c/\x.c<256
 d:0<=x.d/\x.d<256
 e:0<=x.e/\x.e<256
@[irreducible] def f5(x:B5):List D:=[.val (.int .u8 x.a),.val (.int .u8 x.b),.val (.int .u8 x.c),.val (.int .u8 x.d),.val (.int .u8 x.e)]
@[simp] theorem auA(x:B5):f5 x = [.val (.int .u8 x.a),.val (.int .u8 x.b),.val (.int .u8 x.c),.val (.int .u8 x.d),.val (.int .u8 x.e)]:=by unfold f5;rfl
instance:Fl f5 5:=⟨λ_=>by simp,λ_=>by simp[gG]⟩
@[irreducible] def uS(w:Wk):List D:=w.cells
theorem DS(w:Wk):uS w = [.i w.kind,.i w.pos,.i w.n,.i w.uN,.i w.tE]:=by unfold uS;rfl
instance:Fl uS 5:=⟨λ_=>by rw[DS];rfl,λ_=>by rw[DS];simp[gG]⟩
def B5.wk(x:B5):Wk:=xP [x.a,x.b,x.c,x.d,x.e]
def aey(l:List B5)(hl:∀x∈l,x.ok):Wf T 18 [.sl 5 (l.map f5)] [] (Is (.sl 5 (((l.take 8).map B5.wk).map uS))):=by
 obtain⟨R,f⟩:∃R,(l.take 8).map B5.wk=R:=⟨_,rfl⟩;rw[f];refine Yg JO ?_;simp[JO];refine gp.e ((0,[]):Int×List Wk) (λy=>[(0,.sl 5 (l.map f5)),(3,.fZ 0 y.2.length 5 0 y.2.length),(4,.i y.1)]) (λy=>[.row 149 y.2.length (cl uS y.2)]) (λy=>(0<=y.1/\y.1<=l.length/\y.1<=8)/\y.2=(l.take y.1.toNat).map B5.wk) (λy=>(l.length-y.1).toNat) ?_ ?_
 .simp
 rintro⟨i,A⟩ ⟨⟨i0,k,j⟩,b⟩;dsimp only at i0 k j b ⊢;have p:A.length=i.toNat:=by rw[b];simp;omega
 by_cases hi:i<l.length/\i<8
 .have e:=Fw (l:=l) i0 hi.1;have a:=hl _ (gA i0 hi.1);have c:=aeN (gt l i).a (gt l i).b (gt l i).c (gt l i).d (gt l i).e a.a a.b a.c a.d a.e;have g:A ++ [(gt l i).wk]=(l.take (i+1).toNat).map B5.wk:=by rw[e,List.map_append,<-b];rfl
  rw[show xP [(gt l i).a,(gt l i).b,(gt l i).c,(gt l i).d,(gt l i).e]=(gt l i).wk from rfl]at c;obtain⟨w,m⟩:∃w,(gt l i).wk=w:=⟨_,rfl⟩;rw[m]at c g;rw[show w.cells=cl uS [w]by rw[iM];unfold uS;rfl]at c;have o:(cl uS [w]).length=5:=by rw[rN];rfl
  have d:(cl uS [w]).take 5=cl uS [w]:=af (by omega);simp[hi.1,hi.2];refine gf ?_;refine Yc (c) ?_;simp[d];refine jD d ?_;refine LJ.i (i+1,A ++ [w]) (by first|rfl|simp[d]) (by first|rfl|simp[d]) rfl rfl ?_;exact qo g
 .have e:l.take i.toNat=l.take 8:=by
   by_cases h:i=8
   .rw[h];rfl
   .rw[af (by omega),af (by omega)]
  rw[e,f]at b;subst b;clear f e
  by_cases h:i<l.length
  .have n:i=8:=by omega
   subst n;simp[h]
  .simp[h]
set_option maxHeartbeats 8000000
def apN(w:Wk)(v:List gd){lo i:Int}(h:lo<=i):o9 w v lo (i+1-lo).toNat=o9 w v lo (i-lo).toNat ++ [C9 w v i]:=by rw[show(i+1-lo).toNat=(i-lo).toNat+1 by omega,o9,show lo+((i-lo).toNat:Int)=i by omega]
def zF(l:List Int):cl fU l=l.map λx=>.val (.int .u8 x):=by
 unfold cl
 induction l with
 | nil=>rfl
 | cons a l b=>simp[b,fU]
def Un(ρ:Nat->Option Nat)(H:U)(k:Nat)(l:List Int):(cl fU l).map (gq ρ H (k+1))=cl fU l:=by rw[zF,cd];rfl
def QP(l:List Int)(h:l.length=32)(b:D):(cl fU l ++ [b]).drop 33 = []:=by rw[List.drop_eq_nil_iff];simp[h,rN]
def aeW(w:Wk)(E:w.ok)(who t lo hi:Int)(v:List gd)(h0:0<=lo)(h1:lo<hi)(K:hi<=v.length)(J:v.length<=64)(I:0<=who/\who<=1000) :
  Wf T 92 [.agg w.cells,.agg [.i who,.i t,.i lo,.i hi],iw v] [] (Is (if JG w t=true then .agg (ib ⟨⟨who,lo,hi,o9 w v lo (hi-lo).toNat,ku (o9 w v lo (hi-lo).toNat)⟩,false⟩ ++ [.b true])else .agg ([.i 0,.i 0,.i 0,.gg]++cl fU (zs 32) ++ [.b false]))):=by
 obtain⟨kind,pos,n,uN,tE⟩:=w;have F:=E.kind;unfold Wk.cells JG;dsimp only at F ⊢
 by_cases h:kind=1\/kind=4\/(kind=3/\n<=t)
 .rw[decide_eq_true h,if_pos rfl];have n1:¬lo<0:=by omega
  have n2:¬hi<lo:=by omega
  have g:¬(v.length:Int)<hi:=by omega
  obtain⟨W,j⟩:∃W,(⟨kind,pos,n,uN,tE⟩:Wk)=W:=⟨_,rfl⟩;have x:∀i,C9 W v i=if kind=4/\i=pos then(uN,tE)else gt v i:=λi=>by rw[<-j];rfl
  have s:∀m,(o9 W v lo m).length=m:=UK W v lo;have G:(o9 W v lo (hi-lo).toNat).length<=64:=by rw[s];omega
  have c:=Q0 (v:=o9 W v lo (hi-lo).toNat) (.inl rfl) G;have hl:=AT (o9 W v lo (hi-lo).toNat);rw[j,GY,T5 hl];obtain⟨r,p⟩:∃r,ku (o9 W v lo (hi-lo).toNat)=r:=⟨_,rfl⟩;rw[p]at c hl ⊢;clear p;have B:r.take 32=r:=af (by omega)
  have H:((kind=1)=True/\(kind=4)=False)\/((kind=1)=False/\(kind=4)=True)\/((kind=1)=False/\(kind=4)=False/\(kind=3)=True/\(n<=t)=True):=by simp;omega
  clear j h;rcases H with e|e|e
  all_goals
   refine Yg zk ?_;simp[zk,n1,n2,g,e];refine gp.e ((lo,[]):Int×List gd) (λy=>[(2,iw v),(3,.ptr 0 0 0),(4,.ptr 1 0 0),(6,.ptr 2 0 0),(7,.ptr 3 0 0),(8,.i y.1)]) (λy=>.row 149 0 [.i kind,.i pos,.i n,.i uN,.i tE] :: .row 209 0 [.i who,.i t,.i lo,.i hi] :: .row 206 0 (.i 0 :: .i 0 :: .i 0 :: .gg::(cl fU (zs 32) ++ [.b false])) :: .row 72 0 (.i who :: .i lo :: .i hi::(if y.2 = []then .gg else .fZ 4 (y.2.length-1) 2 0 y.2.length)::cl fU (zs 32))::(if y.2 = []then []else [.row 86 (y.2.length-1) (cl fS y.2)])) (λy=>(lo<=y.1/\y.1<=hi)/\y.2=o9 W v lo (y.1-lo).toNat) (λy=>(hi-y.1).toNat) ?_ ?_
   .simp[o9];omega
   rintro⟨i,A⟩ ⟨⟨i0,C⟩,f⟩;dsimp only at i0 C f ⊢;have o:A.length=(i-lo).toNat:=by rw[f,s]
   by_cases k:i<hi
   .have q:A ++ [C9 W v i]=o9 W v lo (i+1-lo).toNat:=by rw[apN W v i0,<-f]
    have u:i<v.length:=by omega
    have l:0<=i:=by omega
    have d:=x i
    by_cases a:A = []
    .subst a;rcases(show(i=pos)=True\/(i=pos)=False by simp;omega)with b|b
     all_goals
      simp[e,b]at d;simp[e,k,b,u,l];refine gf ?_;refine LJ.i (i+1,[C9 W v i]) (by first|rfl|simp[d,iM]) (by first|rfl|simp[d,iM]) rfl rfl ?_;exact⟨by omega,iE,q⟩
    .have D:0<A.length:=aw.2 a;rw[if_neg a,if_neg a];rcases(show(i=pos)=True\/(i=pos)=False by simp;omega)with b|b
     all_goals
      simp[e,b]at d;simp[e,k,b,u,l];refine gf ?_;refine LJ.i (i+1,A ++ [C9 W v i]) (by first|rfl|simp[d,show A.length-1+1=A.length by omega]) (by first|rfl|simp[d,show A.length-1+1=A.length by omega]) rfl rfl ?_;exact⟨by omega,iE,q⟩
   .have z:i=hi:=by omega
    subst z;have a:A≠[]:=λe=>by rw[e]at o;simp at o;omega
    rw[<-f]at c;rw[<-f];rw[if_neg a,if_neg a];simp[k];refine gf ?_;refine gx.r rfl rfl c (by simp) (by simp[flat]) (by simp) ?_;simp[hl,B,Un,QP];rfl
 .rw[decide_eq_false h,if_neg (by simp)];have n1:¬lo<0:=by omega
  have n2:¬hi<lo:=by omega
  have g:¬(v.length:Int)<hi:=by omega
  have m1:¬kind=1:=by omega
  have m2:¬kind=4:=by omega
  by_cases m3:kind=3
  .have m4:¬n<=t:=by omega
   refine Yg zk ?_;simp[zk,n1,n2,g,m1,m2,m3,m4,Un,QP]
  .refine Yg zk ?_;simp[zk,n1,n2,g,m1,m2,m3,Un,QP]
def sx(n:Int):Nat->Int->List gd
 | 0,_=>[]
 | k+1,a=>(a,a+(n-a+k) / (k+1))::sx n k (a+(n-a+k) / (k+1))
def Wx{n a:Int}{k:Nat}(h:((k+1:Nat):Int)<=n-a):1<=(n-a+k) / (k+1)/\(n-a+k) / (k+1)<=n-a-k:=by
 have b:(0:Int)<k+1:=by omega
 refine⟨?_,?_⟩
 .rw[Int.le_ediv_iff_mul_le b];omega
 .have:0<=(n-a-k-1)*(k:Int):=Int.mul_nonneg (by omega) (by omega);have e:(n-a-k+1)*((k:Int)+1)=(n-a-k-1)*k+2*k+(n-a-k+1):=by rw[Int.mul_add,Int.mul_one,show n-a-(k:Int)+1=(n-a-k-1)+2 by omega,Int.add_mul]
  have:=Int.ediv_lt_of_lt_mul b (show n-a+k<(n-a-k+1)*((k:Int)+1)by omega);omega
theorem Bi{n:Int}:∀ {k:Nat} {a:Int},0<=a->(k:Int)<=n-a->∀p∈sx n k a,0<=p.1/\p.1<p.2/\p.2<=n
 | 0,_,_,_,p,hp=>by cases hp
 | k+1,a,h0,h,p,hp=>by
  have b:=Wx h;rcases ao.1 hp with rfl|hp
  .dsimp only;omega
  .exact Bi (by omega) (by omega) p hp
theorem Nj{n:Int}:∀ {k:Nat} {a:Int},(sx n k a).length=k
 | 0,_=>rfl
 | k+1,_=>by rw[sx,aC,Nj]
def aeV(n k:Int)(h0:0<n)(s:n<=4000)(k0:0<=k)(k9:k<=4000):Wf T 91 [.i n,.i k] [] (Is (.sl 2 ((sx n (min k n).toNat 0).map fS))):=by
 by_cases h:k<1
 .have e:(min k n).toNat=0:=by omega
  rw[e];refine Yg Df ?_;simp[Df,h];rfl
 .have n1:¬n<1:=by omega
  have n2:¬ 4000<n:=by omega
  obtain⟨K,i⟩:∃K:Nat,min k n=K:=⟨(min k n).toNat,by omega⟩;rw[i,bB];obtain⟨R,d⟩:∃R,sx n K 0=R:=⟨_,rfl⟩;rw[d];refine Yg Df ?_;simp[Df,h,n1,n2,i];refine gp.e (((0,K),[]):(Int×Nat)×List gd) (λy=>[(0,.i n),(5,.fZ 0 y.2.length 2 0 y.2.length),(6,.i y.1.1),(7,.i y.1.2)]) (λy=>[.row 204 y.2.length (cl fS y.2)]) (λy=>((0<=y.1.1/\y.1.1<=n)/\(y.1.2:Int)<=n-y.1.1)/\y.2++sx n y.1.2 y.1.1=R) (λy=>y.1.2) ?_ ?_
  .simp[d];omega
  rintro⟨⟨a,m⟩,A⟩ ⟨⟨⟨r,p⟩,g⟩,b⟩;dsimp only at r p g b ⊢
  cases m with
  | zero=>
   have f:A=R:=by simpa[sx]using b
   subst f;clear d;simp
  | succ m=>
   have o:=Wx g
   have c:vi (n-a+(m+1)-1) (m+1)=(n-a+m) / (m+1):=by rw[show n-a+((m:Int)+1)-1=n-a+m by omega,vj (by omega) (by omega) (by omega)]
   rw[sx]at b;obtain⟨q,j⟩:∃q,(n-a+(m:Int)) / (m+1)=q:=⟨_,rfl⟩;rw[j]at o c b;have l:(A++(a,a+q)::sx n m (a+q)).length=R.length:=by rw[b]
   have t:R.length=K:=by rw[<-d,Nj]
   simp at l;simp;refine jD c ?_;refine LJ.i ((a+q,m),A ++ [(a,a+q)]) (by first|rfl|simp[c]) (by first|rfl|simp[c]) rfl rfl ?_;dsimp only;exact⟨by omega,⟨iE,by omega⟩,by simpa using b⟩
@[irreducible] noncomputable def rD(w:Wk)(who:Int)(p:gd)(v:List gd):Cw:=⟨⟨who,p.1,p.2,o9 w v p.1 (p.2-p.1).toNat,ku (o9 w v p.1 (p.2-p.1).toNat)⟩,false⟩
noncomputable def vp(ws:List Wk)(v P:List gd)(t:Int):Nat->List Cw
 | 0=>[]
 | n+1=>vp ws v P t n++(if JG (gt ws n) t=true then [rD (gt ws n) n (gt P (n % P.length)) v]else [])
theorem Ue{ws:List Wk}{v P:List gd}{t:Int}:∀n,(vp ws v P t n).length<=n
 | 0=>Nat.le_refl 0
 | n+1=>by
  have:=Ue (ws:=ws) (v:=v) (P:=P) (t:=t) n;rw[vp,aj];split
  .simp;omega
  .simp;omega
def aeI(ws:List Wk)(v:List gd)(k t:Int)(Q:∀w∈ws,w.ok)(W:ws.length<=8)(V:0<v.length)(S:v.length<=64)(k0:0<=k)(k9:k<=4000)
  {R:List Cw} (m:(if k<1 then []else vp ws v (sx v.length (min k v.length).toNat 0) t ws.length)=R) :
  Wf T 44 [.sl 5 (ws.map uS),iw v,.i k,.i t] [] (λd H=>d = .fZ 0 R.length 36 0 R.length/\H = [.row 72 R.length (cl ib R)]):=by
 have E:=aeV v.length k (by omega) (by omega) k0 k9;have J:=Bi (n:=v.length) (k:=(min k v.length).toNat) (a:=0) (by omega) (by omega);have M:=Nj (n:=v.length) (k:=(min k v.length).toNat) (a:=0);obtain⟨P,hP⟩:∃P,sx v.length (min k v.length).toNat 0=P:=⟨_,rfl⟩;rw[hP]at E J M m;clear hP;refine Yg JX ?_;simp[JX];refine Yc (E) ?_;simp;refine gf ?_;refine gp.e ((0,[]):Int×List Cw) (λy=>[(0,.sl 5 (ws.map uS)),(1,iw v),(3,.i t),(9,.sl 2 (P.map fS)),(10,.fZ 0 y.2.length 36 0 y.2.length),(11,.i y.1)]) (λy=>[.row 72 y.2.length (cl ib y.2)]) (λy=>((0<=y.1/\y.1<=ws.length)/\(P = []->y.1=0))/\y.2=vp ws v P t y.1.toNat) (λy=>(ws.length-y.1).toNat) ?_ ?_
 .simp[vp]
 rintro⟨i,A⟩ ⟨⟨⟨i0,O⟩,z⟩,o⟩;dsimp only at i0 O z o ⊢
 have U:A.length<=8:=by have:=Ue (ws:=ws) (v:=v) (P:=P) (t:=t) i.toNat;rw[o];omega
 by_cases l:P = []
 .have N:=z l;subst N l
  have s:A=R:=by rw[<-m,if_pos (by simp at M;omega)];exact o
  subst s;clear m
  by_cases hi:(0:Int)<ws.length
  all_goals
   simp[hi];exact mQ
 .have I:0<P.length:=aw.2 l
  by_cases hi:i<ws.length
  .have j:gD i P.length=i % P.length:=jB i0;have f:0<=i % (P.length:Int):=b9 _ (by omega);have g:i % (P.length:Int)<P.length:=bT _ (by omega);have r:=J _ (gA f g);have c:=aeW (gt ws i) (Q _ (gA i0 hi)) i t (gt P (i % P.length)).1 (gt P (i % P.length)).2 v r.1 r.2.1 r.2.2 S ⟨i0,by omega⟩;rw[show(gt ws i).cells = [.i (gt ws i).kind,.i (gt ws i).pos,.i (gt ws i).n,.i (gt ws i).uN,.i (gt ws i).tE]from rfl]at c
   have b:vp ws v P t (i+1).toNat=A++(if JG (gt ws i) t=true then [rD (gt ws i) i (gt P (i % P.length)) v]else []):=by rw[show(i+1).toNat=i.toNat+1 by omega,vp,<-o,show((i.toNat:Nat):Int)=i by omega]
   by_cases B:JG (gt ws i) t=true
   .rw[if_pos B]at c b;rw[show(⟨⟨i,(gt P (i % P.length)).1,(gt P (i % P.length)).2,o9 (gt ws i) v (gt P (i % P.length)).1 ((gt P (i % P.length)).2-(gt P (i % P.length)).1).toNat,ku (o9 (gt ws i) v (gt P (i % P.length)).1 ((gt P (i % P.length)).2-(gt P (i % P.length)).1).toNat)⟩,false⟩:Cw)=rD (gt ws i) i (gt P (i % P.length)) v by unfold rD;rfl]at c;obtain⟨x,C⟩:∃x,rD (gt ws i) i (gt P (i % P.length)) v=x:=⟨_,rfl⟩;rw[C]at c b;clear C;rw[show ib x=cl ib [x]from(iM _).symm]at c;have q:(cl ib [x]).length=36:=by rw[rN];rfl
    have p:(cl ib [x]).take 36=cl ib [x]:=af (by omega);have K:(cl ib [x] ++ [D.b true])[36]? = some (.b true):=by rw[ai (by omega),q];rfl
    have L:(cl ib [x] ++ [D.b true]).take 37=cl ib [x] ++ [.b true]:=af (by simp[q]);simp[hi,I,j,f,g,i0,DS];(with_reducible repeat' first|refine Xk ?_<;>try simp[j,f,g,DS]|refine Xs ?_ ?_<;>intro h<;>(try intro X)<;>(try simp[h,j,f,g,DS])<;>try omega|refine Xg ?_|omega);refine jh.c rfl rfl c (by simp) (by simp[Wd,Nb]) ?_;simp[q,p,L,K];refine Dz q p L K ?_;refine LJ.i (i+1,A ++ [x]) (by first|rfl|simp[p]) (by first|rfl|simp[p]) rfl rfl ?_;exact⟨by dsimp only;omega,⟨iE,λe=>absurd e l⟩,b.symm⟩
   .rw[if_neg B]at c b;rw[az]at b;have u:(cl fU (zs 32)).length=32:=by simp
    have F:(cl fU (zs 32) ++ [D.b false])[32]? = some (.b false):=by rw[ai (by omega),u];rfl
    have G:(cl fU (zs 32) ++ [D.b false]).take 33=cl fU (zs 32) ++ [.b false]:=af (by simp[u]);simp[hi,I,j,f,g,i0,DS];refine qy j f g ?_;refine jh.c rfl rfl c (by simp) (by simp[Wd,Nb]) ?_;simp[F,G];refine kJ F G ?_;refine LJ.e (i+1,A) ?_;exact⟨by dsimp only;omega,⟨iE,λe=>absurd e l⟩,b.symm⟩
  .have s:A=R:=by rw[<-m,if_neg (by omega),o,show i.toNat=ws.length by omega]
   subst s;clear m;simp[hi]
structure JK(x:Cw):Prop where
 ok:x.ok
 b:∀r∈x.c.es,r.2<=4000
def Qb(n:Nat)(sd:Bool)(L:List Cw):Prop:=L.length<=10/\∀x∈L,JK x/\(sd=true->x.em=false/\0<=x.c.lo/\x.c.lo<x.c.hi/\x.c.hi<=n/\(x.c.es.length:Int)=x.c.hi-x.c.lo/\x.c.root=ku x.c.es)
theorem acr{w:Wk}{v:List gd}{lo:Int}{r:gd}:∀ {n:Nat},r∈o9 w v lo n->0<=lo->lo+n<=v.length->r∈v\/r=(w.uN,w.tE)
 | 0,h,_,_=>by cases h
 | n+1,h,h0,h1=>by
  rcases List.mem_append.1 h with h|h
  .exact acr h h0 (by omega)
  .rw[List.mem_singleton.1 h,C9];split
   .exact .inr rfl
   .exact .inl (gA (by omega) (by omega))
def apB{w:Wk}(b:w.ok){who:Int}{p:gd}{v:List gd}(a:0<=p.1/\p.1<p.2/\p.2<=v.length)(e:v.length<=64)(c:∀r∈v,r.2<=4000) :
  JK (rD w who p v)/\((rD w who p v).em=false/\0<=(rD w who p v).c.lo/\(rD w who p v).c.lo<(rD w who p v).c.hi/\(rD w who p v).c.hi<=v.length/\((rD w who p v).c.es.length:Int)=(rD w who p v).c.hi-(rD w who p v).c.lo/\(rD w who p v).c.root=ku (rD w who p v).c.es):=by
 have hl:=UK w v p.1 (p.2-p.1).toNat;unfold rD;refine⟨⟨⟨(λh=>by cases h),?_,AT _,?_,?_⟩,λr d=>?_⟩,rfl,?_,?_,?_,?_,rfl⟩
 .dsimp only;omega
 .dsimp only;omega
 .dsimp only;omega
 .rcases acr d a.1 (by omega)with h|rfl
  .exact c r h
  .have:=b.tE;dsimp only;omega
 .exact a.1
 .exact a.2.1
 .exact a.2.2
 .dsimp only;omega
theorem abr{ws:List Wk}{v P:List gd}{t:Int}(c:∀w∈ws,w.ok)(hP:∀p∈P,0<=p.1/\p.1<p.2/\p.2<=v.length)(b:0<P.length)(e:v.length<=64)(d:∀r∈v,r.2<=4000) :
  ∀n,n<=ws.length->∀x∈vp ws v P t n,JK x/\(true=true->x.em=false/\0<=x.c.lo/\x.c.lo<x.c.hi/\x.c.hi<=v.length/\(x.c.es.length:Int)=x.c.hi-x.c.lo/\x.c.root=ku x.c.es)
 | 0,_,x,a=>by cases a
 | n+1,hn,x,a=>by
  rcases List.mem_append.1 a with a|a
  .exact abr c hP b e d n (by omega) x a
  .split at a
   .rw[List.mem_singleton.1 a];have:=apB (who:=n) (c (gt ws n) (gA (by omega) (by omega))) (hP (gt P ((n:Int) % P.length)) (gA (b9 _ (by omega)) (bT _ (by omega)))) e d;exact⟨this.1,λ_=>this.2⟩
   .cases a
def On(n:Nat)(sd:Bool):D->U->Prop:=λd H=>∃L g,d = .fZ 0 g 36 0 L.length/\H = [.row 72 g (cl ib L)]/\Qb n sd L
def gx.on{f:FuncId}{args:List D}{dst:Option Nat}{s:St}{K:St->Prop}{fn:jo}{n:Nat}{sd:Bool}(c:T.fn f=some fn)(b:fn.full=false)(h:Wf T f args [] (On n sd))
  (a:gG args=true) (k:∀L g,Qb n sd L->K { s with env:=put s.env dst (.fZ s.H.length g 36 0 L.length),H:=s.H ++ [.row 72 g (cl ib L)] }):gx T f args dst s K .mk:=by
 refine gx.is c b (K0:=On n sd) ?_ ?_
 .have i:args.map (gq (λ_=>none) s.H 40)=args:=by
   conv=>rhs;rw[<-aY args]
   exact aq λd e=>p6 (lT a d e)
  rw[i];exact h
 .rintro d' j ⟨L,g,rfl,rfl,hP⟩;refine⟨_,?_,k L g hP⟩;unfold after;rw[if_pos a,if_pos (by simp)];simp
def aeR(v:List gd)(l:List B5)(k t a b c:Int)(hl:∀x∈l,x.ok)(W:0<v.length)(M:v.length<=64)(Q:∀r∈v,r.2<=4000)(k0:0<=k)(k9:k<=4000)
  (U:0<=a/\a<256) (S:0<=b/\b<256) (Z:0<=c/\c<256) :
  Wf T 73 [iw v,.sl 5 (l.map f5),.i k,.i t,.agg [.val (.int .u8 a),.val (.int .u8 b),.val (.int .u8 c)]] [] (On v.length (decide (a % 8<6))):=by
 have C:=aey l hl
 have J:∀w∈(l.take 8).map B5.wk,w.ok:=λw P=>by obtain⟨x,_,rfl⟩:=List.mem_map.1 P;exact apC _
 have F:((l.take 8).map B5.wk).length<=8:=by simp;omega
 obtain⟨ws,O⟩:∃ws,(l.take 8).map B5.wk=ws:=⟨_,rfl⟩;rw[O]at C J F
 have D:∀x∈(if k<1 then []else vp ws v (sx v.length (min k v.length).toNat 0) t ws.length),JK x/\(true=true->x.em=false/\0<=x.c.lo/\x.c.lo<x.c.hi/\x.c.hi<=v.length/\(x.c.es.length:Int)=x.c.hi-x.c.lo/\x.c.root=ku x.c.es):=by
  intro x d;split at d
  .cases d
  .exact abr J (Bi (by omega) (by omega)) (by rw[Nj];omega) M Q _ (Nat.le_refl _) x d
 have X:(if k<1 then []else vp ws v (sx v.length (min k v.length).toNat 0) t ws.length).length<=8:=by
  split
  .simp
  .exact Nat.le_trans (Ue _) F
 obtain⟨R,I⟩:∃R,(if k<1 then []else vp ws v (sx v.length (min k v.length).toNat 0) t ws.length)=R:=⟨_,rfl⟩;have c2:=aeI ws v k t J F W M k0 k9 I;rw[I]at D X;clear I O;have e:gD a 8=a % 8:=jB U.1
 by_cases L:R = []
 .subst L;refine Yg wQ ?_;simp[wQ];refine Yc (C) ?_;simp;refine gf ?_;refine Go.AL.gx.n rfl rfl c2 (by simp) (by simp) ?_;simp;exact⟨[],0,rfl,by simp,by simp[Qb]⟩
 have g:0<R.length:=aw.2 L;have j:0<=b % (R.length:Int):=b9 _ (by omega);have m:b % (R.length:Int)<R.length:=bT _ (by omega);have o:gD b R.length=b % R.length:=jB S.1;have n:IntKind.i64.wrap b=b:=np iE;have wc:IntKind.i64.wrap c=c:=np iE;have d:=D _ (gA j m);obtain⟨x,N⟩:∃x,gt R (b % R.length)=x:=⟨_,rfl⟩;rw[N]at d;have H:=NF d.1.ok;have G:=d.1.ok.root;obtain⟨⟨who,lo,hi,es,root⟩,em⟩:=x;dsimp only at G
 obtain⟨z,rs,rfl⟩:∃z rs,root=z::rs:=by
  cases root with
  | nil=>cases G
  | cons z rs=>exact⟨z,rs,rfl⟩
 have i:rs.length=31:=by simpa using G
 have u:rs.take 31=rs:=af (by omega);have Y:(cl fU rs).take 31=cl fU rs:=af (by simp[i]);have q:ib (gt R (b % R.length)) = [.i who,.i lo,.i hi,dE em es,.val (.int .u8 z)]++cl fU rs:=by rw[N,H];simp[Cw.cells,mD]
 have K:∀s p E,-1000000<=s/\s<=1000000->-1000000<=p/\p<=1000000->On v.length false (.fZ 0 (R.length+1) 36 0 (R.length+1)) [.row 72 (R.length+1) (cl ib R ++ .i who :: .i s :: .i p::dE em es :: .val (.int .u8 E)::cl fU rs)]:=λs p E q1 q2=>by
  have gi:Cw.ok ⟨⟨who,s,p,es,E::rs⟩,em⟩:=⟨d.1.ok.em,d.1.ok.es,by simp[i],q1,q2⟩;refine⟨R ++ [⟨⟨who,s,p,es,E::rs⟩,em⟩],R.length+1,by simp,?_,by simp;omega,λy f=>⟨?_,λh=>by cases h⟩⟩
  .rw[<-p9,NF gi];simp[Cw.cells,mD]
  .rcases List.mem_append.1 f with f|f
   .exact(D y f).1
   .rw[List.mem_singleton.1 f];exact⟨gi,d.1.b⟩
 have q1:=d.1.ok.lo;have q2:=d.1.ok.hi;have q3:=(d.2 rfl).2;dsimp only at q1 q2 q3
 by_cases A:a % 8=7
 .refine Yg wQ ?_;simp[wQ];refine Yc (C) ?_;simp;refine gf ?_;refine Go.AL.gx.n rfl rfl c2 (by simp) (by simp) ?_;simp[g,e,A,n,o,j,m,q,i,u];(with_reducible repeat' first|refine Xk ?_<;>try simp[g,e,A,n,o,j,m,q,i,u]|refine Xs ?_ ?_<;>intro h<;>(try intro V)<;>(try simp[h,g,e,A,n,o,j,m,q,i,u])<;>try omega|refine Xg ?_|omega);exact K _ _ _ q1 q2
 .by_cases B:a % 8=6
  .refine Yg wQ ?_;simp[wQ];refine Yc (C) ?_;simp;refine gf ?_;refine Go.AL.gx.n rfl rfl c2 (by simp) (by simp) ?_;simp[g,e,B,n,wc,o,j,m,q,i,u];(with_reducible repeat' first|refine Xk ?_<;>try simp[g,e,B,n,wc,o,j,m,q,i,u]|refine Xs ?_ ?_<;>intro h<;>(try intro V)<;>(try simp[h,g,e,B,n,wc,o,j,m,q,i,u])<;>try omega|refine Xg ?_|omega);exact K _ _ _ (by omega) (by omega)
  .refine Yg wQ ?_;simp[wQ];refine Yc (C) ?_;simp;refine gf ?_;refine Go.AL.gx.n rfl rfl c2 (by simp) (by simp) ?_;simp[g,e,B,A];refine Dz g e B A ?_;exact⟨R,R.length,rfl,rfl,by omega,λy f=>⟨(D y f).1,λ_=>(D y f).2 rfl⟩⟩
def W1(v:List gd)(d:v.length<=64):Wf T 28 [iw v] [] (Is (.agg (ib ⟨sU v,false⟩))):=by have c:=Q0 (v:=v) (.inl rfl) d;have hl:=AT v;rw[GY];unfold sU;dsimp only;rw[T5 hl];obtain⟨r,a⟩:∃r,ku v=r:=⟨_,rfl⟩;rw[a]at c hl ⊢;clear a;have b:r.take 32=r:=af (by omega);refine Yg JU ?_;simp[JU];refine Yc (c) ?_;simp;refine gf ?_;simp[hl,b];rfl
def aeC(v:List gd)(l:List B5)(K d a b c:Int)(hl:∀x∈l,x.ok)(p:0<v.length)(o:v.length<=64)(h:∀r∈v,r.2<=4000)(n:0<=K/\K<256)(m:0<=d/\d<256)
  (k:0<=a/\a<256) (j:0<=b/\b<256) (i:0<=c/\c<256) :
  Wf T 26 [iw v,.agg [.sl 5 (l.map f5),.val (.int .u8 K),.val (.int .u8 d),.val (.int .u8 a),.val (.int .u8 b),.val (.int .u8 c)]] [] (On v.length (decide (a % 8<6))):=by
 have f:gD (IntKind.i64.wrap K) 5=K % 5:=by rw[np iE];exact jB n.1
 have rt:gD (IntKind.i64.wrap d) 6=d % 6:=by rw[np iE];exact jB m.1
 have e:=aeR v l (K % 5) (d % 6) a b c hl p o h (by omega) (by omega) k j i;refine Yg JS ?_;simp[JS,f,rt];refine kJ f rt ?_;refine gx.on rfl rfl e (by simp) λL g hP=>?_;simp;exact⟨L,g,rfl,rfl,hP⟩
set_option maxHeartbeats 4000000
structure B2 where
 a:Int
 b:Int
 deriving Inhabited
structure B2.ok(x:B2):Prop where
 a:0<=x.a/\x.a<256
 b:0<=x.b/\x.b<256
@[irreducible] def zP(x:B2):List D:=[.val (.int .u8 x.a),.val (.int .u8 x.b)]
@[simp] theorem auB(x:B2):zP x = [.val (.int .u8 x.a),.val (.int .u8 x.b)]:=by unfold zP;rfl
instance:Fl zP 2:=⟨λ_=>by simp,λ_=>by simp[gG]⟩
def B2.xL(x:B2):gd:=(1+x.a % 3,if x.a % 3=1 then 0 else x.b)
def aeD(l:List B2)(hl:∀x∈l,x.ok)(n:Int)(n0:0<=n)(v:n<=4000):Wf T 27 [.sl 2 (l.map zP),.i n] [] (Is (iw ((l.take n.toNat).map B2.xL))):=by
 obtain⟨R,o⟩:∃R,(l.take n.toNat).map B2.xL=R:=⟨_,rfl⟩;rw[o];refine Yg JT ?_;simp[JT];refine gp.e ((0,[]):Int×List gd) (λy=>[(0,.sl 2 (l.map zP)),(1,.i n),(5,.fZ 0 y.2.length 2 0 y.2.length),(6,.i y.1)]) (λy=>[.row 86 y.2.length (cl fS y.2)]) (λy=>(0<=y.1/\y.1<=l.length/\y.1<=n)/\y.2=(l.take y.1.toNat).map B2.xL) (λy=>(l.length-y.1).toNat) ?_ ?_
 .simp[n0]
 rintro⟨i,A⟩ ⟨⟨i0,r,p⟩,f⟩;dsimp only at i0 r p f ⊢;have u:A.length=i.toNat:=by rw[f];simp;omega
 by_cases hi:i<l.length/\i<n
 .have e:=Fw (l:=l) i0 hi.1;have j:=hl _ (gA i0 hi.1);have c:gD (gt l i).a 3=(gt l i).a % 3:=jB j.a.1;have w:=j.a;have t:=j.b;have b:IntKind.i64.wrap ((gt l i).a % 3)=(gt l i).a % 3:=np iE;have w1:IntKind.i64.wrap 1=1:=rfl;have a:IntKind.i64.wrap (gt l i).b=(gt l i).b:=np iE;have g:A ++ [(gt l i).xL]=(l.take (i+1).toNat).map B2.xL:=by rw[e,List.map_append,<-f];rfl
  obtain⟨q,m⟩:∃q,(gt l i).xL=q:=⟨_,rfl⟩;have d:=m;rw[m]at g;unfold B2.xL at d
  by_cases h1:(gt l i).a % 3=1
  .rw[if_pos h1,h1]at d;simp[hi.1,hi.2,c,b,a,h1,w1];(with_reducible repeat' first|refine Xk ?_<;>try simp[c,b,a,h1,w1]|refine Xs ?_ ?_<;>intro h<;>(try intro s)<;>(try simp[h,c,b,a,h1,w1])<;>try omega|refine Xg ?_|omega);subst d;refine LJ.i (i+1,A ++ [(2,0)]) (by first|rfl|simp) (by first|rfl|simp) (by first|rfl|simp) (by first|rfl|simp) ?_;exact⟨by omega,mj,g⟩
  .rw[if_neg h1]at d;have k:¬ 1+(gt l i).a % 3=2:=by omega
   simp[hi.1,hi.2,c,b,a,h1,k];(with_reducible repeat' first|refine Xk ?_<;>try simp[c,b,a,h1,k]|refine Xs ?_ ?_<;>intro h<;>(try intro s)<;>(try simp[h,c,b,a,h1,k])<;>try omega|refine Xg ?_|omega);subst d;refine LJ.i (i+1,A ++ [(1+(gt l i).a % 3,(gt l i).b)]) (by first|rfl|simp) (by first|rfl|simp) (by first|rfl|simp) (by first|rfl|simp) ?_;exact⟨by omega,mj,g⟩
 .have:(l.take i.toNat)=l.take n.toNat:=by
   by_cases h:i<l.length
   .rw[show i=n by omega]
   .rw[af (by omega),af (by omega)]
  rw[this,o]at f;subst f
  by_cases h:i<l.length
  .simp[h,show¬i<n by omega]
  .simp[h]
set_option maxHeartbeats 32000000
structure MK(V:List gd):Prop where
 len:V.length<=64
 bd:∀r∈V,r.2<=4000
theorem MK.ok{V:List gd}(h:MK V):(⟨sU V,false⟩:Cw).ok:=by have:=h.len;exact⟨(λh=>by cases h),this,AT V,by unfold sU;dsimp only;omega,by unfold sU;dsimp only;omega⟩
def aiM{l:List B2}(hl:∀y∈l,y.ok){n:Nat}(c:n<=64):MK ((l.take (n:Int).toNat).map B2.xL):=by
 refine⟨by simp;omega,λr b=>?_⟩;obtain⟨y,a,rfl⟩:=List.mem_map.1 b;have:=(hl y (aN a)).b;unfold B2.xL;dsimp only;split
 .omega
 .omega
end Go.Proofs.YtmehofoficaelaaGreatDoor
namespace Go.Proofs.YtmehofoficaelaaGreatDoor
open Go Go.AL Classical
set_option maxRecDepth 10000
set_option maxHeartbeats 4000000
section
variable{g:gj}{l:List Pos}
theorem XD(hg:gU g)(a:ox g l):xR g l (gw g l) (upto l.length) 1:=
 ⟨hg,a.ok,a.len,by simp[gw],λi i0 b=>⟨(pC a i0 b).2,by rw[(pC a i0 b).1,List.length_map];have:=yT hg (a.ok _ (gA i0 b));omega⟩,λi hi=>jd.1 hi,
  et.2 (List.nodup_range.imp λh e=>h (Int.ofNat.inj e)),by simp[upto];exact a.len,by omega⟩
theorem FI.congr{v0 v v':List gd}{b x:List Bool}{n:Int}(F:ox g l)(h:FI g l (gw g l) (upto l.length) v0 n v b)(E:v'.length=l.length)(G:x.length=l.length)
  (u:∀k:Int,0<=k->k<l.length->gt x k=gt b k) (z:∀k:Int,0<=k->k<l.length->gt b k=false->gt v' k=gt v k):FI g l (gw g l) (upto l.length) v0 n v' x:=by
 have gF:=λ(i:Int) (hi:i∈upto l.length)=>(pC F (jd.1 hi).1 (jd.1 hi).2).2;have t:=λ(i:Int) (hi:i∈upto l.length) k d=>u k (gF i hi k d).1 (gF i hi k d).2;have r:=λ(i:Int) (hi:i∈upto l.length) k d=>z k (gF i hi k d).1 (gF i hi k d).2;refine⟨E,G,λk k0 k1 d=>absurd (jd.2 ⟨k0,k1⟩) d,λi hi e=>?_,λi hi e n0=>?_⟩
 .have p:=jd.1 hi;rw[u i p.1 p.2]at e;obtain⟨a,c⟩:=h.dec i hi e;rw[z i p.1 p.2 e];refine⟨a,?_⟩;rcases c with c|⟨A,⟨m,m1,c2,⟨k,d,s,w⟩,J⟩|⟨m,m1,c2,s,k,d,w⟩⟩
  .exact .inl c
  .refine .inr ⟨A,.inl ⟨m,m1,c2,⟨k,d,by rw[t i hi k d];exact s,by rw[r i hi k d s];exact w⟩,λq j f o=>?_⟩⟩;rw[t i hi q j]at f;rw[r i hi q j f]at o ⊢;exact J q j f o
  .refine .inr ⟨A,.inr ⟨m,m1,c2,λq j=>?_,k,d,by rw[r i hi k d (s k d).1];exact w⟩⟩;rw[t i hi q j,r i hi q j (s q j).1];exact s q j
 .have p:=jd.1 hi;rw[u i p.1 p.2]at e;obtain⟨D,C,B⟩:=h.CL i hi e n0;refine⟨D,λk d f o=>?_,λI H=>?_⟩
  .rw[t i hi k d]at f;rw[r i hi k d f]at o ⊢;exact C k d f o
  .have y:∀k∈gt (gw g l) i,gt b k=false/\(gt v k).1=1:=λk d=>by obtain⟨f,o⟩:=H k d;rw[t i hi k d]at f;rw[r i hi k d f]at o;exact⟨f,o⟩
   obtain⟨k,d,h1⟩:=B I y;exact⟨k,d,by rw[r i hi k d (y k d).1];exact h1⟩
structure KI(g:gj)(l:List Pos)(n:Int)(v:List Kn):Prop where
 len:v.length=l.length
 fi:FI g l (gw g l) (upto l.length) [] n (kV v) (kB v)
theorem ZK(v:List Kn):(kV v).length=v.length:=by simp[kV]
theorem ZJ(v:List Kn):(kB v).length=v.length:=by simp[kB]
theorem KI.start(h:ox g l):KI g l 1 (l.map (s0 g)):=by
 have hl:(l.map (s0 g)).length=l.length:=by simp
 have f:∀k:Int,0<=k->k<l.length->gt (l.map (s0 g)) k=s0 g (gt l k):=λk k0 k1=>by rw[iZ k0 (by rw[hl];exact k1),iZ k0 k1,List.getElem_map]
 have hV:∀k:Int,0<=k->k<l.length->gt (kV (l.map (s0 g))) k=((stat g (gt l k)).1,0):=λk k0 k1=>by rw[BB k0 (by rw[hl];exact k1),f k k0 k1];rfl
 have d:∀k:Int,0<=k->k<l.length->gt (kB (l.map (s0 g))) k = !(stat g (gt l k)).2:=λk k0 k1=>by rw[xg k0 (by rw[hl];exact k1),f k k0 k1];rfl
 have gF:=λ(i:Int) (hi:i∈upto l.length)=>(pC h (jd.1 hi).1 (jd.1 hi).2).2;refine⟨hl,by rw[ZK,hl],by rw[ZJ,hl],λk k0 k1 b=>absurd (jd.2 ⟨k0,k1⟩) b,λi hi e=>?_,λi hi e _=>?_⟩
 .have a:=jd.1 hi;rw[d i a.1 a.2]at e;rw[hV i a.1 a.2];exact⟨by simp,.inl ⟨by simpa using e,rfl⟩⟩
 .have a:=jd.1 hi;rw[d i a.1 a.2]at e;refine⟨by simpa using e,λk b _ _=>by rw[hV k (gF i hi k b).1 (gF i hi k b).2];simp,λj _=>?_⟩;have m:=aw.2 j;have c:=gA (l:=gt (gw g l) i) (n:=0) (by omega) (by omega);exact⟨_,c,by rw[hV _ (gF i hi _ c).1 (gF i hi _ c).2];simp⟩
theorem KI.nn{n:Int}{v:List Kn}(h:KI g l n v){k:Int}(k0:0<=k)(k1:k<l.length)(e:(gt v k).2.2=true):0<=(gt v k).2.1:=by
 have k2:k<v.length:=by rw[h.len];exact k1
 have:=(h.fi.dec k (jd.2 ⟨k0,k1⟩) (by rw[xg k0 k2,e];rfl)).1.1;rwa [BB k0 k2]at this
theorem KI.ne{n:Int}{v:List Kn}(b:ox g l)(h:KI g l n v)(n0:0<n){k:Int}(k0:0<=k)(k1:k<l.length)(e:(gt v k).2.2=false):gt (gw g l) k≠[]:=λa=>by
 have k2:k<v.length:=by rw[h.len];exact k1
 have:=(h.fi.CL k (jd.2 ⟨k0,k1⟩) (by rw[xg k0 k2,e];rfl) n0).1;rw[(pC b k0 k1).1,List.map_eq_nil_iff]at a;unfold stat at this;simp[a]at this
theorem KI.step(hg:gU g)(m:ox g l){n:Int}{v now:List Kn}(h:KI g l n v)(n1:1<=n)(hl:now.length=l.length)
  (q:∀k:Int,0<=k->k<l.length->gt now k=if (gt v k).2.2=false then pJ v (gt (gw g l) k) n else gt v k):KI g l (n+1) now:=by
 have o:=XD hg m;have s:=h.fi.vl;have p:=h.fi.bl;have hs:=h.fi.step (v0:=[]) o (λk k0 k1=>(dw 0:0<=(gt ([]:List gd) k).2)) (by omega:0<=n)
 have d:∀k:Int,0<=k->k<l.length->(k∈sy g l (gw g l) (upto l.length) (kV v) (kB v) n↔(gt v k).2.2=false/\(pe g (gt l k) (kV v) (kB v) (gt (gw g l) k) n).2=true):=λk k0 k1=>by
  have k2:k<v.length:=by rw[h.len];exact k1
  unfold sy TQ;rw[aL,Bool.and_eq_true,xg k0 k2,jd];simp only[dy];exact⟨λa=>⟨a.2.2,a.2.1⟩,λa=>⟨⟨k0,k1⟩,a.2,a.1⟩⟩
 have j:∀k:Int,0<=k->k<l.length->(gt v k).2.2=false->((pe g (gt l k) (kV v) (kB v) (gt (gw g l) k) n).2=true->pJ v (gt (gw g l) k) n=((pe g (gt l k) (kV v) (kB v) (gt (gw g l) k) n).1.1,(pe g (gt l k) (kV v) (kB v) (gt (gw g l) k) n).1.2,true))/\((pe g (gt l k) (kV v) (kB v) (gt (gw g l) k) n).2=false->pJ v (gt (gw g l) k) n=(0,0,false)):=λk k0 k1 e=>by
  have r:=aw.2 (h.ne m (by omega) k0 k1 e);unfold pe pJ;rw[if_neg (by omega)]
  by_cases i:Cv (kV v) (kB v) (gt (gw g l) k) n
  .rw[if_pos i,if_pos i];exact⟨λ_=>rfl,λe=>by cases e⟩
  .rw[if_neg i,if_neg i];simp only[decide_eq_true_eq,decide_eq_false_iff_not];exact⟨λa=>by rw[if_pos ⟨a.2.1,a.2.2⟩],λa=>by rw[if_neg λb=>a ⟨r,b⟩]⟩
 refine⟨hl,hs.congr m (by rw[ZK,hl]) (by rw[ZJ,hl]) (λk k0 k1=>?_) λk k0 k1 e=>?_⟩
 .have k2:k<now.length:=by rw[hl];exact k1
  have k3:k<v.length:=by rw[h.len];exact k1
  rw[xg k0 k2,Rt o p k0 k1,q k k0 k1,xg k0 k3]
  by_cases e:(gt v k).2.2=false
  .rw[if_pos e]
   by_cases c:(pe g (gt l k) (kV v) (kB v) (gt (gw g l) k) n).2=true
   .rw[(j k k0 k1 e).1 c,if_pos ((d k k0 k1).2 ⟨e,c⟩)];rfl
   .rw[(j k k0 k1 e).2 (by simpa using c),if_neg λa=>c ((d k k0 k1).1 a).2,e]
  .rw[if_neg e,if_neg λa=>e ((d k k0 k1).1 a).1]
 .have k2:k<now.length:=by rw[hl];exact k1
  have k3:k<v.length:=by rw[h.len];exact k1
  rw[Rt o p k0 k1,xg k0 k3]at e;rw[BB k0 k2,X1 o s p k0 k1,q k k0 k1,BB k0 k3]
  by_cases f:(gt v k).2.2=false
  .rw[if_pos f]
   by_cases c:(pe g (gt l k) (kV v) (kB v) (gt (gw g l) k) n).2=true
   .rw[(j k k0 k1 f).1 c,if_pos ((d k k0 k1).2 ⟨f,c⟩)];rfl
   .rw[if_neg λa=>c ((d k k0 k1).1 a).2,f]at e;cases e
  .rw[if_neg f,if_neg λa=>f ((d k k0 k1).1 a).1]
theorem KI.done(hg:gU g)(q:ox g l){v:List Kn}(h:KI g l (l.length+1) v){out:List gd}(hl:out.length=l.length)
  (r:∀k:Int,0<=k->k<l.length->gt out k=if (gt v k).2.2=true then((gt v k).1,(gt v k).2.1)else(2,0)):∀k:Int,0<=k->k<l.length->ke (ji g l (gw g l)) out k:=by
 have o:=XD hg q;have gF:=λ(i:Int) (hi:i∈upto l.length)=>(pC q (jd.1 hi).1 (jd.1 hi).2).2
 have t:=VW (n:=l.length) (N:=λi=>(gt (kV v) i).2) (K:=λi=>i∈upto l.length/\gt (kB v) i=false) (λi hi=>⟨jd.1 hi.1,(h.fi.dec i hi.1 hi.2).1.1⟩) (λi hi=>by
  rcases(h.fi.dec i hi.1 hi.2).2 with⟨_,c⟩|⟨_,⟨m,m1,c2,⟨k,b,j,f⟩,_⟩|⟨m,m1,c2,j,k,b,f⟩⟩
  .left;show(gt (kV v) i).2=0;rw[c]
  .right;exact⟨k,⟨jd.2 (gF i hi.1 k b),j⟩,by show(gt (kV v) k).2=(gt (kV v) i).2-1;rw[c2,f]⟩
  .right;exact⟨k,⟨jd.2 (gF i hi.1 k b),(j k b).1⟩,by show(gt (kV v) k).2=(gt (kV v) i).2-1;rw[c2,f]⟩)
 have s:=afW o (by omega) h.fi (λk k0 k1 e _=>by have:=t k ⟨jd.2 ⟨k0,k1⟩,e⟩;omega);obtain⟨_,f2⟩:=Xp o h.fi.vl h.fi.bl
 have p:∀k:Int,0<=k->k<l.length->gt out k=gt (xe (upto l.length) (kV v) (kB v)).1 k:=λk k0 k1=>by
  have k2:k<v.length:=by rw[h.len];exact k1
  rw[r k k0 k1,(f2 k k0 k1).1,xg k0 k2,BB k0 k2]
  by_cases e:(gt v k).2.2=true
  .rw[if_pos e,if_neg λa=>by rw[e]at a;exact absurd a.2 (by simp)]
  .rw[if_neg e,if_pos ⟨jd.2 ⟨k0,k1⟩,by simpa using e⟩]
 exactλi i0 d=>(s i (jd.2 ⟨i0,d⟩)).congr (p i i0 d) λk b=>p k (gF i (jd.2 ⟨i0,d⟩) k b).1 (gF i (jd.2 ⟨i0,d⟩) k b).2
end
end Go.Proofs.YtmehofoficaelaaGreatDoor
namespace Go.Proofs.YtmehofoficaelaaGreatDoor
open Go Go.AL Classical
set_option maxRecDepth 10000
set_option maxHeartbeats 4000000
def agl{α:Type}[Inhabited α]{l:List α}{x:α}{n:Int}(h:n.toNat=l.length):gt (l ++ [x]) n=x:=by unfold gt;rw[List.getD_eq_getElem?_getD,ai (by omega),h,b6];rfl
def afL(g:gj)(hg:gU g)(l:List Pos)(hl:ox g l)(O:0<l.length):Wf T 71 [dG g,gZ l,.sl 1 ((gw g l).map fI)] [] (Ey iw λr=>r.length=l.length/\∀k:Int,0<=k->k<l.length->ke (ji g l (gw g l)) r k):=by
 have E:=hl.len;have N:(gw g l).length=l.length:=by simp[gw]
 refine Yg Me ?_;simp[Me];refine Yn (afQ g hg l hl) ?_;simp;have P:(l.map (s0 g)).length=l.length:=by simp
 have M:=KI.start hl;generalize Q:l.map (s0 g)=v0 at *;refine gp.e ((1,true,l.length,v0):Int×Bool×Nat×List Kn) (λy=>[(1,gZ l),(2,.sl 1 ((gw g l).map fI)),(7,.fZ (if y.2.1 then 1 else 2) y.2.2.1 3 0 l.length),(8,.i y.1)]) (λy=>.row 43 0 g.cells :: .row 245 l.length (cl fK v0)::(if y.2.1 then []else [.row 245 y.2.2.1 (cl fK y.2.2.2)])) (λy=>1<=y.1/\y.1<=l.length+1/\KI g l y.1 y.2.2.2/\(y.2.1=true->y.2.2.1=l.length/\y.2.2.2=v0/\y.1=1)) (λy=>l.length+1-y.1.toNat) ?_ ?_
 .exact⟨by simp,by simp;omega,M,λ_=>⟨rfl,rfl,rfl⟩⟩
 rintro⟨n,b,p,v⟩ ⟨n0,n1,m,B⟩;dsimp only at n0 n1 m B ⊢;have n2:=m.len
 have H:∀i:Int,0<=i->i<l.length->∀k∈gt (gw g l) i,0<=k/\k<v.length:=λi a c k o=>by have:=(pC hl a c).2 k o;omega
 have D:∀i:Int,0<=i->i<l.length->(gt (gw g l) i).length<2 ^ 40:=λi a c=>by rw[(pC hl a c).1,List.length_map];have:=yT hg (hl.ok _ (gA a c));omega
 have z:∀i:Int,0<=i->i<l.length->∀k∈gt (gw g l) i,(gt v k).2.2=true->0<=(gt v k).2.1:=λi a c k o e=>m.nn ((pC hl a c).2 k o).1 ((pC hl a c).2 k o).2 e;have u:∀i:Int,0<=i->i<l.length->(gt v i).2.2=false->0<(gt (gw g l) i).length:=λi a c e=>aw.2 (m.ne hl (by omega) a c e);cases b
 .simp;refine jT ?_ ?_<;>intro h
  .refine gp.e ((0,v):Int×List Kn) (λy=>[(1,gZ l),(2,.sl 1 ((gw g l).map fI)),(7,.fZ 2 p 3 0 l.length),(8,.i n),(9,.fZ 3 1 3 0 l.length),(10,.i y.1)]) (λy=>[.row 43 0 g.cells,.row 245 l.length (cl fK v0),.row 245 p (cl fK v),.row 245 1 (cl fK y.2)]) (λy=>0<=y.1/\y.1<=l.length/\y.2.length=l.length/\∀k:Int,0<=k->k<l.length->gt y.2 k=if k<y.1/\(gt v k).2.2=false then pJ v (gt (gw g l) k) n else gt v k) (λy=>l.length-y.1.toNat) ?_ ?_
   .exact⟨by simp,by simp,n2,λk k0 k1=>by rw[if_neg (by dsimp only;omega)]⟩
   rintro⟨j,now⟩ ⟨j0,j1,j2,j3⟩;dsimp only at j0 j1 j2 j3 ⊢;simp;(with_reducible repeat' first|refine Xk ?_<;>try simp|refine Xs ?_ ?_<;>intro h<;>(try intro F)<;>(try simp[h])<;>try omega|refine Xg ?_|omega)
   .refine LJ.e (j+1,now) ?_;refine gJ ⟨j2,λk k0 k1=>?_⟩;dsimp only;rw[j3 k k0 k1]
    by_cases e:k=j
    .subst e;rw[if_neg (by omega),if_neg (by simp[*])]
    .simp only[show k<j+1↔k<j by omega]
   .refine gx.r rfl rfl (Xl v _ n (by omega) (u j j0 ‹_› ‹_›) (D j j0 ‹_›) (H j j0 ‹_›) (z j j0 ‹_›)) (by simp[n2]) (by simp[flat,tL]) (by simp) ?_;simp;refine gf ?_;have d:=Na (f:=fK) now j (by omega) (pJ v (gt (gw g l) j) n);rw[DR]at d;refine LJ.i (j+1,pt now j (pJ v (gt (gw g l) j) n)) (by first|rfl|simp[<-d]) (by first|rfl|simp[<-d]) rfl rfl ?_;have L:=iC (l:=now) (n:=j) (v:=pJ v (gt (gw g l) j) n) j0 (by omega);refine AM (λk k0 k1=>?_);dsimp only;rw[lK j0 (by omega) k0,j3 k k0 k1]
    by_cases e:k=j
    .subst e;rw[if_pos rfl,if_pos ⟨by omega,‹_›⟩]
    .rw[if_neg e];simp only[show k<j+1↔k<j by omega]
   .refine LJ.e (n+1,false,1,now) ?_;refine gJ ⟨?_,λh=>by cases h⟩;refine m.step hg hl n0 j2 λk k0 k1=>?_;rw[j3 k k0 k1];simp only[show k<j by omega,true_and]
  .have t:n=l.length+1:=by omega
   subst t;refine gp.e ((0,v,[]):Int×List Kn×List gd) (λy=>[(1,gZ l),(7,.fZ 2 p 3 0 l.length),(11,.fZ 3 y.2.2.length 2 0 y.2.2.length),(12,.i y.1)]) (λy=>[.row 43 0 g.cells,.row 245 l.length (cl fK v0),.row 245 p (cl fK y.2.1),.row 86 y.2.2.length (cl fS y.2.2)]) (λy=>0<=y.1/\y.1<=l.length/\y.2.1.length=l.length/\y.2.2.length=y.1.toNat/\(∀k:Int,0<=k->k<y.1->gt y.2.2 k=if (gt v k).2.2=true then((gt v k).1,(gt v k).2.1)else(2,0))/\(∀k:Int,y.1<=k->k<l.length->gt y.2.1 k=gt v k)) (λy=>l.length-y.1.toNat) ?_ ?_
   .exact⟨by simp,by simp,n2,by simp,λk k0 k1=>by dsimp only at k1;omega,λk k0 k1=>rfl⟩
   rintro⟨j,w,out⟩ ⟨j0,j1,j2,j3,j4,j5⟩;dsimp only at j0 j1 j2 j3 j4 j5 ⊢
   by_cases s:j<l.length
   .have d:=adt (l:=w) (n:=j) (by omega) 2 0;have C:∀v,(pt w j v).length=w.length:=λv=>iC j0 (by omega);have I:∀v,gt (pt w j v) j=v:=λv=>BC j0 (by omega);have G:=j5 j (by omega) s
    have A:∀(x:gd),((gt v j).2.2=true->x=((gt v j).1,(gt v j).2.1))->((gt v j).2.2=false->x=(2,0))->∀k:Int,0<=k->k<j+1->gt (out ++ [x]) k=if (gt v k).2.2=true then((gt v k).1,(gt v k).2.1)else(2,0):=λx K J k k0 k1=>by
     by_cases e:k=j
     .subst e;rw[agl (by omega)]
      by_cases q:(gt v k).2.2=true
      .rw[if_pos q];exact K q
      .rw[if_neg q];exact J (by simpa using q)
     .rw[agi (by omega) (by omega)];exact j4 k k0 (by omega)
    simp[s,d];refine acC d C I ?_ ?_<;>intro h
    .refine LJ.e (j+1,w,out ++ [((gt w j).1,(gt w j).2.1)]) ?_;rw[G]at *;refine⟨by dsimp only;omega,by dsimp only;omega,by dsimp only;omega,by dsimp only;omega,by simp;omega,A _ (λ_=>rfl) (λe=>by simp[*]at e),λk k0 k1=>j5 k (by dsimp only at k0;omega) k1⟩
    .refine LJ.e (j+1,pt w j (2,0,false),out ++ [(2,0)]) ?_;rw[G]at *;refine⟨by dsimp only;omega,by dsimp only;omega,by dsimp only;omega,by dsimp only;rw[C];omega,by simp;omega,A _ (λe=>by simp[*]at e) (λ_=>rfl),λk k0 k1=>?_⟩;dsimp only at k0 ⊢;rw[lK j0 (by omega) (by omega),if_neg (by omega)];exact j5 k (by omega) k1
   .simp[s];exact Ey.i out rfl rfl ⟨by omega,m.done hg hl (by omega) λk k0 k1=>j4 k k0 (by omega)⟩
 .obtain⟨rfl,rfl,rfl⟩:=B rfl;simp;(with_reducible repeat' first|refine Xk ?_<;>try simp|refine Xs ?_ ?_<;>intro h<;>(try intro F)<;>(try simp[h])<;>try omega|refine Xg ?_|omega)
  .refine gp.e ((0,v):Int×List Kn) (λy=>[(1,gZ l),(2,.sl 1 ((gw g l).map fI)),(7,.fZ 1 l.length 3 0 l.length),(8,.i 1),(9,.fZ 2 1 3 0 l.length),(10,.i y.1)]) (λy=>[.row 43 0 g.cells,.row 245 l.length (cl fK v),.row 245 1 (cl fK y.2)]) (λy=>0<=y.1/\y.1<=l.length/\y.2.length=l.length/\∀k:Int,0<=k->k<l.length->gt y.2 k=if k<y.1/\(gt v k).2.2=false then pJ v (gt (gw g l) k) 1 else gt v k) (λy=>l.length-y.1.toNat) ?_ ?_
   .exact⟨by simp,by simp,n2,λk k0 k1=>by rw[if_neg (by dsimp only;omega)]⟩
   rintro⟨j,now⟩ ⟨j0,j1,j2,j3⟩;dsimp only at j0 j1 j2 j3 ⊢;simp;(with_reducible repeat' first|refine Xk ?_<;>try simp|refine Xs ?_ ?_<;>intro h<;>(try intro F)<;>(try simp[h])<;>try omega|refine Xg ?_|omega)
   .refine LJ.e (j+1,now) ?_;refine gJ ⟨j2,λk k0 k1=>?_⟩;dsimp only;rw[j3 k k0 k1]
    by_cases e:k=j
    .subst e;rw[if_neg (by omega),if_neg (by simp[*])]
    .simp only[show k<j+1↔k<j by omega]
   .refine gx.r rfl rfl (Xl v _ 1 (by omega) (u j j0 ‹_› ‹_›) (D j j0 ‹_›) (H j j0 ‹_›) (z j j0 ‹_›)) (by simp[n2]) (by simp[flat,tL]) (by simp) ?_;simp;refine gf ?_;have d:=Na (f:=fK) now j (by omega) (pJ v (gt (gw g l) j) 1);rw[DR]at d;refine LJ.i (j+1,pt now j (pJ v (gt (gw g l) j) 1)) (by first|rfl|simp[<-d]) (by first|rfl|simp[<-d]) rfl rfl ?_;have L:=iC (l:=now) (n:=j) (v:=pJ v (gt (gw g l) j) 1) j0 (by omega);refine AM (λk k0 k1=>?_);dsimp only;rw[lK j0 (by omega) k0,j3 k k0 k1]
    by_cases e:k=j
    .subst e;rw[if_pos rfl,if_pos ⟨by omega,‹_›⟩]
    .rw[if_neg e];simp only[show k<j+1↔k<j by omega]
   .refine LJ.e (1+1,false,1,now) ?_;refine gJ ⟨?_,λh=>by cases h⟩;refine m.step hg hl (by omega) j2 λk k0 k1=>?_;rw[j3 k k0 k1];simp only[show k<j by omega,true_and]
def afC(g:gj)(hg:gU g)(l:List Pos)(hl:ox g l)(b:0<l.length):Wf T 25 [dG g,gZ l] [] (Ey (λx:List gd×List Int=>.agg [iw x.1,dI x.2,.i 0]) λx=>x.1.length=l.length/\∀k:Int,0<=k->k<l.length->ke (ji g l (gw g l)) x.1 k):=by refine Yg KW ?_;simp[KW];refine Yc (f37 g hg l hl) ?_;simp;refine Yq (afL g hg l hl b) λv a=>?_;simp;refine Yq (f39 g hg l hl v a.1) λf c=>?_;simp;exact Ey.i (v,f) rfl rfl a
