/- Part 46 of DisputeMatchesReference. -/
import Derived.Test.YtmehofoficaelaaGreatDoorM45
set_option linter.all false
open List renaming mem_singleton→aE,map_append→cj,length→List.l
open Bool renaming false→bb,true→b4
open And renaming intro→bs
open Int renaming toNat→Int.n
namespace Go.Proofs.YtmehofoficaelaaGreatDoor
open Go Go.AL Classical
structure Wk where
 kind:Int
 pos:Int
 n:Int
 vU:Int
 uS:Int
 deriving Inhabited
def Wk.cells(w:Wk):List D:=[.i w.kind,.i w.pos,.i w.n,.i w.vU,.i w.uS]
structure Wk.ok(w:Wk):Prop where
 kind:1<=w.kind/\w.kind<=4
 pos:0<=w.pos/\w.pos<=31
 n:0<=w.n/\w.n<=5
 vU:1<=w.vU/\w.vU<=3
 uS:0<=w.uS/\w.uS<=8
def yN(x:List Int):Wk:=⟨1+gt x 0 % 4,gt x 1 % 32,gt x 2 % 6,1+gt x 3 % 3,gt x 4 % 9⟩
def aqh(x:List Int):(yN x).ok:=⟨by unfold yN;dsimp only;omega,by unfold yN;dsimp only;omega,by unfold yN;dsimp only;omega,by unfold yN;dsimp only;omega,by unfold yN;dsimp only;omega⟩
def D1(w:Wk)(v:List gj)(i:Int):gj:=if w.kind=4/\i=w.pos then(w.vU,w.uS)else gt v i
def qb(w:Wk)(v:List gj)(lo:Int):Nat->List gj
 | 0=>[]
 | n+1=>qb w v lo n ++ [D1 w v (lo+n)]
theorem Vm(w:Wk)(v:List gj)(lo:Int):∀n,(qb w v lo n).l=n
 | 0=>rfl
 | n+1=>by rw[qb,ar,Vm w v lo n];rfl
def Ke(w:Wk)(t:Int):Bool:=decide (w.kind=1\/w.kind=4\/(w.kind=3/\w.n<=t))
set_option maxRecDepth 10000
set_option maxHeartbeats 4000000
def afv(a b c d e:Int)(r:0<=a/\a<256)(q:0<=b/\b<256)(p:0<=c/\c<256)(o:0<=d/\d<256)(n:0<=e/\e<256):Wf T 60 [.agg [.val (.int .u8 a),.val (.int .u8 b),.val (.int .u8 c),.val (.int .u8 d),.val (.int .u8 e)]] [] (Is (.agg (yN [a,b,c,d,e]).cells)):=by have h:(yN [a,b,c,d,e]).cells = [.i (1+a % 4),.i (b % 32),.i (c % 6),.i (1+d % 3),.i (e % 9)]:=rfl;have m:gJ a 4=a % 4:=jO r.1;have l:gJ b 32=b % 32:=jO q.1;have rc:gJ c 6=c % 6:=jO p.1;have rd:gJ d 3=d % 3:=jO o.1;have k:gJ e 9=e % 9:=jO n.1;have j:IntKind.i64.wrap (a % 4)=a % 4:=nH gU;have i:IntKind.i64.wrap (b % 32)=b % 32:=nH gU;have wc:IntKind.i64.wrap (c % 6)=c % 6:=nH gU;have g:IntKind.i64.wrap (d % 3)=d % 3:=nH gU;have f:IntKind.i64.wrap (e % 9)=e % 9:=nH gU;refine Yg KD ?_;simp[KD,m,l,rc,rd,k,j,i,wc,g,f,h];omega
structure B5 where
 a:Int
 b:Int
 c:Int
 d:Int
 e:Int
 deriving Inhabited
structure B5.ok(x:B5):Prop where
 a:0<=x.a/\x.a<256
 b:0<=x.b/\x.b<256
 c:0<=x.c/\x.c<256
 d:0<=x.d/\x.d<256
 e:0<=x.e/\x.e<256
@[irreducible] def f5(x:B5):List D:=[.val (.int .u8 x.a),.val (.int .u8 x.b),.val (.int .u8 x.c),.val (.int .u8 x.d),.val (.int .u8 x.e)]
@[simp] theorem avg(x:B5):f5 x = [.val (.int .u8 x.a),.val (.int .u8 x.b),.val (.int .u8 x.c),.val (.int .u8 x.d),.val (.int .u8 x.e)]:=by unfold f5;rfl
instance:Fl f5 5:=⟨λ_=>gf,λ_=>by simp[gN]⟩
@[irreducible] def v7(w:Wk):List D:=w.cells
theorem EP(w:Wk):v7 w = [.i w.kind,.i w.pos,.i w.n,.i w.vU,.i w.uS]:=by unfold v7;rfl
instance:Fl v7 5:=⟨λ_=>by rw[EP];rfl,λ_=>by rw[EP];simp[gN]⟩
def B5.wk(x:B5):Wk:=yN [x.a,x.b,x.c,x.d,x.e]
def afb(l:List B5)(hl:∀x∈l,x.ok):Wf T 18 [.sl 5 (l.map f5)] [] (Is (.sl 5 (((l.take 8).map B5.wk).map v7))):=by
 obtain⟨R,f⟩:∃R,(l.take 8).map B5.wk=R:=⟨_,rfl⟩;rw[f];refine Yg Ko ?_;simp[Ko];refine gx.e ((0,[]):Int×List Wk) (λy=>[(0,.sl 5 (l.map f5)),(3,.gh 0 y.2.l 5 0 y.2.l),(4,.i y.1)]) (λy=>[.row 149 y.2.l (cl v7 y.2)]) (λy=>(0<=y.1/\y.1<=l.l/\y.1<=8)/\y.2=(l.take y.1.n).map B5.wk) (λy=>(l.l-y.1).n) ?_ ?_
 .simp
 rintro⟨i,A⟩ ⟨⟨i0,k,j⟩,b⟩;dsimp only at i0 k j b ⊢;have p:A.l=i.n:=by rw[b];simp;omega
 by_cases hi:i<l.l/\i<8
 .have e:=BS (l:=l) i0 hi.1;have a:=hl _ (gF i0 hi.1);have c:=afv (gt l i).a (gt l i).b (gt l i).c (gt l i).d (gt l i).e a.a a.b a.c a.d a.e;have g:A ++ [(gt l i).wk]=(l.take (i+1).n).map B5.wk:=by rw[e,cj,<-b];rfl
  rw[show yN [(gt l i).a,(gt l i).b,(gt l i).c,(gt l i).d,(gt l i).e]=(gt l i).wk from rfl]at c;obtain⟨w,m⟩:∃w,(gt l i).wk=w:=⟨_,rfl⟩;rw[m]at c g;rw[show w.cells=cl v7 [w]by rw[iY];unfold v7;rfl]at c;have o:(cl v7 [w]).l=5:=by rw[rJ];rfl
  have d:(cl v7 [w]).take 5=cl v7 [w]:=af U;simp[hi.1,hi.2];refine gi ?_;refine Yc (c) ?_;simp[d];refine iU d ?_;refine LJ.i (i+1,A ++ [w]) (by first|rfl|simp[d]) (by first|rfl|simp[d]) rfl rfl ?_;exact sk g
 .have e:l.take i.n=l.take 8:=by
   by_cases h:i=8
   .rw[h];rfl
   .rw[af U,af U]
  rw[e,f]at b;subst b;clear f e
  by_cases h:i<l.l
  .have n:i=8:=by omega
   subst n;simp[h]
  .simp[h]
set_option maxHeartbeats 8000000
def aqs(w:Wk)(v:List gj){lo i:Int}(h:lo<=i):qb w v lo (i+1-lo).n=qb w v lo (i-lo).n ++ [D1 w v i]:=by rw[(U:(i+1-lo).n=(i-lo).n+1),qb,(U:lo+((i-lo).n:Int)=i)]
def AE(l:List Int):cl fU l=l.map λx=>.val (.int .u8 x):=by
 unfold cl
 induction l with
 | nil=>rfl
 | cons a l b=>simp[b,fU]
def UZ(ρ:Nat->Option Nat)(H:gg)(k:Nat)(l:List Int):(cl fU l).map (gA ρ H (k+1))=cl fU l:=by rw[AE,b6];rfl
def Rt(l:List Int)(h:l.l=32)(b:D):(cl fU l ++ [b]).drop 33 = []:=by rw[List.drop_eq_nil_iff];simp[h,rJ]
def afH(w:Wk)(D:w.ok)(who t lo hi:Int)(v:List gj)(h0:0<=lo)(h1:lo<hi)(J:hi<=v.l)(I:v.l<=64)(H:0<=who/\who<=1000) :
  Wf T 92 [.agg w.cells,.agg [.i who,.i t,.i lo,.i hi],iu v] [] (Is (if Ke w t=b4 then .agg (gK ⟨⟨who,lo,hi,qb w v lo (hi-lo).n,kZ (qb w v lo (hi-lo).n)⟩,bb⟩ ++ [.b b4])else .agg ([.i 0,.i 0,.i 0,.gp]++cl fU (zs 32) ++ [.b bb]))):=by
 obtain⟨kind,pos,n,vU,uS⟩:=w;have E:=D.kind;unfold Wk.cells Ke;dsimp only at E ⊢
 by_cases h:kind=1\/kind=4\/(kind=3/\n<=t)
 .rw[decide_eq_true h,if_pos rfl];have n1:¬lo<0:=U;have n2:¬hi<lo:=U;have g:¬(v.l:Int)<hi:=U;obtain⟨W,j⟩:∃W,(⟨kind,pos,n,vU,uS⟩:Wk)=W:=⟨_,rfl⟩;have x:∀i,D1 W v i=if kind=4/\i=pos then(vU,uS)else gt v i:=λi=>by rw[<-j];rfl
  have q:∀m,(qb W v lo m).l=m:=Vm W v lo;have F:(qb W v lo (hi-lo).n).l<=64:=by rw[q];omega
  have c:=RD (v:=qb W v lo (hi-lo).n) (.inl rfl) F;have hl:=BK (qb W v lo (hi-lo).n);rw[j,HX,UF hl];obtain⟨r,o⟩:∃r,kZ (qb W v lo (hi-lo).n)=r:=⟨_,rfl⟩;rw[o]at c hl ⊢;clear o;have z:r.take 32=r:=af U
  have G:((kind=1)=True/\(kind=4)=False)\/((kind=1)=False/\(kind=4)=True)\/((kind=1)=False/\(kind=4)=False/\(kind=3)=True/\(n<=t)=True):=by simp;omega
  clear j h;rcases G with e|e|e
  all_goals
   refine Yg Am ?_;simp[Am,n1,n2,g,e];refine gx.e ((lo,[]):Int×List gj) (λy=>[(2,iu v),(3,.ptr 0 0 0),(4,.ptr 1 0 0),(6,.ptr 2 0 0),(7,.ptr 3 0 0),(8,.i y.1)]) (λy=>.row 149 0 [.i kind,.i pos,.i n,.i vU,.i uS] :: .row 209 0 [.i who,.i t,.i lo,.i hi] :: .row 206 0 (.i 0 :: .i 0 :: .i 0 :: .gp::(cl fU (zs 32) ++ [.b bb])) :: .row 72 0 (.i who :: .i lo :: .i hi::(if y.2 = []then .gp else .gh 4 (y.2.l-1) 2 0 y.2.l)::cl fU (zs 32))::(if y.2 = []then []else [.row 86 (y.2.l-1) (cl fS y.2)])) (λy=>(lo<=y.1/\y.1<=hi)/\y.2=qb W v lo (y.1-lo).n) (λy=>(hi-y.1).n) ?_ ?_
   .simp[qb];omega
   rintro⟨i,A⟩ ⟨⟨i0,C⟩,f⟩;dsimp only at i0 C f ⊢;have l:A.l=(i-lo).n:=by rw[f,q]
   by_cases k:i<hi
   .have p:A ++ [D1 W v i]=qb W v lo (i+1-lo).n:=by rw[aqs W v i0,<-f]
    have s:i<v.l:=U;have u:0<=i:=U;have d:=x i
    by_cases a:A = []
    .subst a;rcases(gO:(i=pos)=True\/(i=pos)=False)with b|b
     all_goals
      simp[e,b]at d;simp[e,k,b,s,u];refine gi ?_;refine LJ.i (i+1,[D1 W v i]) (by first|rfl|simp[d,iY]) (by first|rfl|simp[d,iY]) rfl rfl ?_;exact⟨U,gU,p⟩
    .have K:0<A.l:=ao.2 a;rw[if_neg a,if_neg a];rcases(gO:(i=pos)=True\/(i=pos)=False)with b|b
     all_goals
      simp[e,b]at d;simp[e,k,b,s,u];refine gi ?_;refine LJ.i (i+1,A ++ [D1 W v i]) (by first|rfl|simp[d,(U:A.l-1+1=A.l)]) (by first|rfl|simp[d,(U:A.l-1+1=A.l)]) rfl rfl ?_;exact⟨U,gU,p⟩
   .have B:i=hi:=by omega
    subst B;have a:A≠[]:=λe=>by rw[e]at l;simp at l;omega
    rw[<-f]at c;rw[<-f];rw[if_neg a,if_neg a];simp[k];refine gi ?_;refine gE.r rfl rfl c gf (by simp[flat]) gf ?_;simp[hl,z,UZ,Rt];rfl
 .rw[decide_eq_false h,if_neg gf];have n1:¬lo<0:=U;have n2:¬hi<lo:=U;have g:¬(v.l:Int)<hi:=U;have m1:¬kind=1:=U;have m2:¬kind=4:=U
  by_cases m3:kind=3
  .have m4:¬n<=t:=by omega
   refine Yg Am ?_;simp[Am,n1,n2,g,m1,m2,m3,m4,UZ,Rt]
  .refine Yg Am ?_;simp[Am,n1,n2,g,m1,m2,m3,UZ,Rt]
def tH(n:Int):Nat->Int->List gj
 | 0,_=>[]
 | k+1,a=>(a,a+(n-a+k) / (k+1))::tH n k (a+(n-a+k) / (k+1))
def W7{n a:Int}{k:Nat}(h:((k+1:Nat):Int)<=n-a):1<=(n-a+k) / (k+1)/\(n-a+k) / (k+1)<=n-a-k:=by
 have b:(0:Int)<k+1:=U;refine⟨?_,?_⟩
 .rw[Int.le_ediv_iff_mul_le b];omega
 .have:0<=(n-a-k-1)*(k:Int):=Int.mul_nonneg U U;have e:(n-a-k+1)*((k:Int)+1)=(n-a-k-1)*k+2*k+(n-a-k+1):=by rw[Int.mul_add,Int.mul_one,(U:n-a-(k:Int)+1=(n-a-k-1)+2),Int.add_mul]
  have:=Int.ediv_lt_of_lt_mul b (U:n-a+k<(n-a-k+1)*((k:Int)+1));omega
theorem Cj{n:Int}:∀ {k:Nat} {a:Int},0<=a->(k:Int)<=n-a->∀p∈tH n k a,0<=p.1/\p.1<p.2/\p.2<=n
 | 0,_,_,_,p,hp=>by cases hp
 | k+1,a,h0,h,p,hp=>by
  have b:=W7 h;rcases ay.1 hp with rfl|hp
  .dsimp only;omega
  .exact Cj U U p hp
theorem NZ{n:Int}:∀ {k:Nat} {a:Int},(tH n k a).l=k
 | 0,_=>rfl
 | k+1,_=>by rw[tH,aL,NZ]
def afG(n k:Int)(h0:0<n)(s:n<=4000)(k0:0<=k)(k9:k<=4000):Wf T 91 [.i n,.i k] [] (Is (.sl 2 ((tH n (min k n).n 0).map fS))):=by
 by_cases h:k<1
 .have e:(min k n).n=0:=by omega
  rw[e];refine Yg D8 ?_;simp[D8,h];rfl
 .have n1:¬n<1:=by omega
  have n2:¬ 4000<n:=U;obtain⟨K,i⟩:∃K:Nat,min k n=K:=⟨(min k n).n,U⟩;rw[i,Int.toNat_natCast];obtain⟨R,d⟩:∃R,tH n K 0=R:=⟨_,rfl⟩;rw[d];refine Yg D8 ?_;simp[D8,h,n1,n2,i];refine gx.e (((0,K),[]):(Int×Nat)×List gj) (λy=>[(0,.i n),(5,.gh 0 y.2.l 2 0 y.2.l),(6,.i y.1.1),(7,.i y.1.2)]) (λy=>[.row 204 y.2.l (cl fS y.2)]) (λy=>((0<=y.1.1/\y.1.1<=n)/\(y.1.2:Int)<=n-y.1.1)/\y.2++tH n y.1.2 y.1.1=R) (λy=>y.1.2) ?_ ?_
  .simp[d];omega
  rintro⟨⟨a,m⟩,A⟩ ⟨⟨⟨r,p⟩,g⟩,b⟩;dsimp only at r p g b ⊢
  cases m with
  | zero=>
   have f:A=R:=by simpa[tH]using b
   subst f;clear d;simp
  | succ m=>
   have o:=W7 g
   have c:wI (n-a+(m+1)-1) (m+1)=(n-a+m) / (m+1):=by rw[(U:n-a+((m:Int)+1)-1=n-a+m),wJ U U U]
   rw[tH]at b;obtain⟨q,j⟩:∃q,(n-a+(m:Int)) / (m+1)=q:=⟨_,rfl⟩;rw[j]at o c b;have l:(A++(a,a+q)::tH n m (a+q)).l=R.l:=by rw[b]
   have t:R.l=K:=by rw[<-d,NZ]
   simp at l;simp;refine iU c ?_;refine LJ.i ((a+q,m),A ++ [(a,a+q)]) (by first|rfl|simp[c]) (by first|rfl|simp[c]) rfl rfl ?_;dsimp only;exact⟨U,⟨gU,U⟩,by simpa using b⟩
@[irreducible] noncomputable def sY(w:Wk)(who:Int)(p:gj)(v:List gj):Cw:=⟨⟨who,p.1,p.2,qb w v p.1 (p.2-p.1).n,kZ (qb w v p.1 (p.2-p.1).n)⟩,bb⟩
noncomputable def wM(ws:List Wk)(v P:List gj)(t:Int):Nat->List Cw
 | 0=>[]
 | n+1=>wM ws v P t n++(if Ke (gt ws n) t=b4 then [sY (gt ws n) n (gt P (n % P.l)) v]else [])
theorem UP{ws:List Wk}{v P:List gj}{t:Int}:∀n,(wM ws v P t n).l<=n
 | 0=>Nat.le_refl 0
 | n+1=>by
  have:=UP (ws:=ws) (v:=v) (P:=P) (t:=t) n;rw[wM,ar];split
  .simp;omega
  .simp;omega
def afp(ws:List Wk)(v:List gj)(k t:Int)(O:∀w∈ws,w.ok)(X:ws.l<=8)(W:0<v.l)(Q:v.l<=64)(k0:0<=k)(k9:k<=4000)
  {R:List Cw} (p:(if k<1 then []else wM ws v (tH v.l (min k v.l).n 0) t ws.l)=R) :
  Wf T 44 [.sl 5 (ws.map v7),iu v,.i k,.i t] [] (λd H=>d = .gh 0 R.l 36 0 R.l/\H = [.row 72 R.l (cl gK R)]):=by
 have G:=afG v.l k U U k0 k9;have J:=Cj (n:=v.l) (k:=(min k v.l).n) (a:=0) U U;have M:=NZ (n:=v.l) (k:=(min k v.l).n) (a:=0);obtain⟨P,hP⟩:∃P,tH v.l (min k v.l).n 0=P:=⟨_,rfl⟩;rw[hP]at G J M p;clear hP;refine Yg KA ?_;simp[KA];refine Yc (G) ?_;simp;refine gi ?_;refine gx.e ((0,[]):Int×List Cw) (λy=>[(0,.sl 5 (ws.map v7)),(1,iu v),(3,.i t),(9,.sl 2 (P.map fS)),(10,.gh 0 y.2.l 36 0 y.2.l),(11,.i y.1)]) (λy=>[.row 72 y.2.l (cl gK y.2)]) (λy=>((0<=y.1/\y.1<=ws.l)/\(P = []->y.1=0))/\y.2=wM ws v P t y.1.n) (λy=>(ws.l-y.1).n) ?_ ?_
 .simp[wM]
 rintro⟨i,A⟩ ⟨⟨⟨i0,N⟩,E⟩,q⟩;dsimp only at i0 N E q ⊢
 have V:A.l<=8:=by have:=UP (ws:=ws) (v:=v) (P:=P) (t:=t) i.n;rw[q];omega
 by_cases o:P = []
 .have S:=E o;subst S o
  have z:A=R:=by rw[<-p,if_pos (by simp at M;omega)];exact q
  subst z;clear p
  by_cases hi:(0:Int)<ws.l
  all_goals
   simp[hi];exact nb
 .have I:0<P.l:=ao.2 o
  by_cases hi:i<ws.l
  .have m:gJ i P.l=i % P.l:=jO i0;have b:0<=i % (P.l:Int):=bS _ U;have f:i % (P.l:Int)<P.l:=bM _ U;have u:=J _ (gF b f);have c:=afH (gt ws i) (O _ (gF i0 hi)) i t (gt P (i % P.l)).1 (gt P (i % P.l)).2 v u.1 u.2.1 u.2.2 Q ⟨i0,U⟩;rw[show(gt ws i).cells = [.i (gt ws i).kind,.i (gt ws i).pos,.i (gt ws i).n,.i (gt ws i).vU,.i (gt ws i).uS]from rfl]at c
   have g:wM ws v P t (i+1).n=A++(if Ke (gt ws i) t=b4 then [sY (gt ws i) i (gt P (i % P.l)) v]else []):=by rw[(U:(i+1).n=i.n+1),wM,<-q,(U:((i.n:Nat):Int)=i)]
   by_cases C:Ke (gt ws i) t=b4
   .rw[if_pos C]at c g;rw[show(⟨⟨i,(gt P (i % P.l)).1,(gt P (i % P.l)).2,qb (gt ws i) v (gt P (i % P.l)).1 ((gt P (i % P.l)).2-(gt P (i % P.l)).1).n,kZ (qb (gt ws i) v (gt P (i % P.l)).1 ((gt P (i % P.l)).2-(gt P (i % P.l)).1).n)⟩,bb⟩:Cw)=sY (gt ws i) i (gt P (i % P.l)) v by unfold sY;rfl]at c;obtain⟨x,F⟩:∃x,sY (gt ws i) i (gt P (i % P.l)) v=x:=⟨_,rfl⟩;rw[F]at c g;clear F;rw[show gK x=cl gK [x]from(iY _).symm]at c;have r:(cl gK [x]).l=36:=by rw[rJ];rfl
    have s:(cl gK [x]).take 36=cl gK [x]:=af U;have L:(cl gK [x] ++ [D.b b4])[36]? = some (.b b4):=by rw[ak U,r];rfl
    have K:(cl gK [x] ++ [D.b b4]).take 37=cl gK [x] ++ [.b b4]:=af (by simp[r]);simp[hi,I,m,b,f,i0,EP];(with_reducible repeat' first|refine Xk ?_<;>try simp[m,b,f,EP]|refine Xs ?_ ?_<;>intro h<;>(try intro Y)<;>(try simp[h,m,b,f,EP])<;>try omega|refine Xg ?_|omega);refine ji.c rfl rfl c gf (by simp[WQ,NS]) ?_;simp[r,s,K,L];refine o5 r s K L ?_;refine LJ.i (i+1,A ++ [x]) (by first|rfl|simp[s]) (by first|rfl|simp[s]) rfl rfl ?_;exact⟨gI,⟨gU,λe=>absurd e o⟩,g.symm⟩
   .rw[if_neg C]at c g;rw[aD]at g;have B:(cl fU (zs 32)).l=32:=gf;have l:(cl fU (zs 32) ++ [D.b bb])[32]? = some (.b bb):=by rw[ak U,B];rfl
    have j:(cl fU (zs 32) ++ [D.b bb]).take 33=cl fU (zs 32) ++ [.b bb]:=af (by simp[B]);simp[hi,I,m,b,f,i0,EP];refine kG m b f ?_;refine ji.c rfl rfl c gf (by simp[WQ,NS]) ?_;simp[l,j];refine jT l j ?_;refine LJ.e (i+1,A) ?_;exact⟨gI,⟨gU,λe=>absurd e o⟩,g.symm⟩
  .have z:A=R:=by rw[<-p,if_neg U,q,(U:i.n=ws.l)]
   subst z;clear p;simp[hi]
structure Ki(x:Cw):Prop where
 ok:x.ok
 b:∀r∈x.c.es,r.2<=4000
def QT(n:Nat)(sd:Bool)(L:List Cw):Prop:=L.l<=10/\∀x∈L,Ki x/\(sd=b4->x.em=bb/\0<=x.c.lo/\x.c.lo<x.c.hi/\x.c.hi<=n/\(x.c.es.l:Int)=x.c.hi-x.c.lo/\x.c.root=kZ x.c.es)
theorem adf{w:Wk}{v:List gj}{lo:Int}{r:gj}:∀ {n:Nat},r∈qb w v lo n->0<=lo->lo+n<=v.l->r∈v\/r=(w.vU,w.uS)
 | 0,h,_,_=>by cases h
 | n+1,h,h0,h1=>by
  rcases aj.1 h with h|h
  .exact adf h h0 U
  .rw[aE.1 h,D1];split
   .exact .inr rfl
   .exact .inl (gF U U)
def aqg{w:Wk}(b:w.ok){who:Int}{p:gj}{v:List gj}(a:0<=p.1/\p.1<p.2/\p.2<=v.l)(e:v.l<=64)(c:∀r∈v,r.2<=4000) :
  Ki (sY w who p v)/\((sY w who p v).em=bb/\0<=(sY w who p v).c.lo/\(sY w who p v).c.lo<(sY w who p v).c.hi/\(sY w who p v).c.hi<=v.l/\((sY w who p v).c.es.l:Int)=(sY w who p v).c.hi-(sY w who p v).c.lo/\(sY w who p v).c.root=kZ (sY w who p v).c.es):=by
 have hl:=Vm w v p.1 (p.2-p.1).n;unfold sY;refine⟨⟨⟨(λh=>by cases h),?_,BK _,?_,?_⟩,λr d=>?_⟩,rfl,?_,?_,?_,?_,rfl⟩
 .dsimp only;omega
 .dsimp only;omega
 .dsimp only;omega
 .rcases adf d a.1 U with h|rfl
  .exact c r h
  .have:=b.uS;dsimp only;omega
 .exact a.1
 .exact a.2.1
 .exact a.2.2
 .dsimp only;omega
theorem acm{ws:List Wk}{v P:List gj}{t:Int}(c:∀w∈ws,w.ok)(hP:∀p∈P,0<=p.1/\p.1<p.2/\p.2<=v.l)(b:0<P.l)(e:v.l<=64)(d:∀r∈v,r.2<=4000) :
  ∀n,n<=ws.l->∀x∈wM ws v P t n,Ki x/\(b4=b4->x.em=bb/\0<=x.c.lo/\x.c.lo<x.c.hi/\x.c.hi<=v.l/\(x.c.es.l:Int)=x.c.hi-x.c.lo/\x.c.root=kZ x.c.es)
 | 0,_,x,a=>by cases a
 | n+1,hn,x,a=>by
  rcases aj.1 a with a|a
  .exact acm c hP b e d n U x a
  .split at a
   .rw[aE.1 a];have:=aqg (who:=n) (c (gt ws n) (gF U U)) (hP (gt P ((n:Int) % P.l)) (gF (bS _ U) (bM _ U))) e d;exact⟨this.1,λ_=>this.2⟩
   .cases a
def On(n:Nat)(sd:Bool):D->gg->Prop:=λd H=>∃L g,d = .gh 0 g 36 0 L.l/\H = [.row 72 g (cl gK L)]/\QT n sd L
def gE.on{f:FuncId}{args:List D}{dst:Option Nat}{s:St}{K:St->Prop}{fn:jK}{n:Nat}{sd:Bool}(c:T.fn f=some fn)(b:fn.full=bb)(h:Wf T f args [] (On n sd))
  (a:gN args=b4) (k:∀L g,QT n sd L->K { s with env:=put s.env dst (.gh s.H.l g 36 0 L.l),H:=s.H ++ [.row 72 g (cl gK L)] }):gE T f args dst s K .mk:=by
 refine gE.is c b (K0:=On n sd) ?_ ?_
 .have i:args.map (gA (λ_=>none) s.H 40)=args:=by
   conv=>rhs;rw[<-bf args]
   exact aw λd e=>sq (mL a d e)
  rw[i];exact h
 .rintro d' j ⟨L,g,rfl,rfl,hP⟩;refine⟨_,?_,k L g hP⟩;unfold after;rw[if_pos a,if_pos gf];simp
def afy(v:List gj)(l:List B5)(k t a b c:Int)(hl:∀x∈l,x.ok)(X:0<v.l)(M:v.l<=64)(Q:∀r∈v,r.2<=4000)(k0:0<=k)(k9:k<=4000)
  (V:0<=a/\a<256) (S:0<=b/\b<256) (hc:0<=c/\c<256) :
  Wf T 73 [iu v,.sl 5 (l.map f5),.i k,.i t,.agg [.val (.int .u8 a),.val (.int .u8 b),.val (.int .u8 c)]] [] (On v.l (decide (a % 8<6))):=by
 have C:=afb l hl
 have J:∀w∈(l.take 8).map B5.wk,w.ok:=λw P=>by obtain⟨x,_,rfl⟩:=au.1 P;exact aqh _
 have F:((l.take 8).map B5.wk).l<=8:=gO;obtain⟨ws,O⟩:∃ws,(l.take 8).map B5.wk=ws:=⟨_,rfl⟩;rw[O]at C J F
 have D:∀x∈(if k<1 then []else wM ws v (tH v.l (min k v.l).n 0) t ws.l),Ki x/\(b4=b4->x.em=bb/\0<=x.c.lo/\x.c.lo<x.c.hi/\x.c.hi<=v.l/\(x.c.es.l:Int)=x.c.hi-x.c.lo/\x.c.root=kZ x.c.es):=by
  intro x d;split at d
  .cases d
  .exact acm J (Cj U U) (by rw[NZ];omega) M Q _ (Nat.le_refl _) x d
 have Y:(if k<1 then []else wM ws v (tH v.l (min k v.l).n 0) t ws.l).l<=8:=by
  split
  .simp
  .exact Nat.le_trans (UP _) F
 obtain⟨R,I⟩:∃R,(if k<1 then []else wM ws v (tH v.l (min k v.l).n 0) t ws.l)=R:=⟨_,rfl⟩;have c2:=afp ws v k t J F X M k0 k9 I;rw[I]at D Y;clear I O;have e:gJ a 8=a % 8:=jO V.1
 by_cases L:R = []
 .subst L;refine Yg xU ?_;simp[xU];refine Yc (C) ?_;simp;refine gi ?_;refine Go.AL.gE.n rfl rfl c2 gf gf ?_;simp;exact⟨[],0,rfl,gf,by simp[QT]⟩
 have g:0<R.l:=ao.2 L;have j:0<=b % (R.l:Int):=bS _ U;have m:b % (R.l:Int)<R.l:=bM _ U;have p:gJ b R.l=b % R.l:=jO S.1;have n:IntKind.i64.wrap b=b:=nH gU;have wc:IntKind.i64.wrap c=c:=nH gU;have d:=D _ (gF j m);obtain⟨x,N⟩:∃x,gt R (b % R.l)=x:=⟨_,rfl⟩;rw[N]at d;have H:=AN d.1.ok;have G:=d.1.ok.root;obtain⟨⟨who,lo,hi,es,root⟩,em⟩:=x;dsimp only at G
 obtain⟨z,rs,rfl⟩:∃z rs,root=z::rs:=by
  cases root with
  | nil=>cases G
  | cons z rs=>exact⟨z,rs,rfl⟩
 have i:rs.l=31:=by simpa using G
 have u:rs.take 31=rs:=af U;have Z:(cl fU rs).take 31=cl fU rs:=af (by simp[i]);have q:gK (gt R (b % R.l)) = [.i who,.i lo,.i hi,dE em es,.val (.int .u8 z)]++cl fU rs:=by rw[N,H];simp[Cw.cells,nS]
 have K:∀s o E,-1000000<=s/\s<=1000000->-1000000<=o/\o<=1000000->On v.l bb (.gh 0 (R.l+1) 36 0 (R.l+1)) [.row 72 (R.l+1) (cl gK R ++ .i who :: .i s :: .i o::dE em es :: .val (.int .u8 E)::cl fU rs)]:=λs o E q1 q2=>by
  have gu:Cw.ok ⟨⟨who,s,o,es,E::rs⟩,em⟩:=⟨d.1.ok.em,d.1.ok.es,by simp[i],q1,q2⟩;refine⟨R ++ [⟨⟨who,s,o,es,E::rs⟩,em⟩],R.l+1,gf,?_,gO,λy f=>⟨?_,λh=>by cases h⟩⟩
  .rw[<-rK,AN gu];simp[Cw.cells,nS]
  .rcases aj.1 f with f|f
   .exact(D y f).1
   .rw[aE.1 f];exact⟨gu,d.1.b⟩
 have q1:=d.1.ok.lo;have q2:=d.1.ok.hi;have q3:=(d.2 rfl).2;dsimp only at q1 q2 q3
 by_cases A:a % 8=7
 .refine Yg xU ?_;simp[xU];refine Yc (C) ?_;simp;refine gi ?_;refine Go.AL.gE.n rfl rfl c2 gf gf ?_;simp[g,e,A,n,p,j,m,q,i,u];(with_reducible repeat' first|refine Xk ?_<;>try simp[g,e,A,n,p,j,m,q,i,u]|refine Xs ?_ ?_<;>intro h<;>(try intro W)<;>(try simp[h,g,e,A,n,p,j,m,q,i,u])<;>try omega|refine Xg ?_|omega);exact K _ _ _ q1 q2
 .by_cases B:a % 8=6
  .refine Yg xU ?_;simp[xU];refine Yc (C) ?_;simp;refine gi ?_;refine Go.AL.gE.n rfl rfl c2 gf gf ?_;simp[g,e,B,n,wc,p,j,m,q,i,u];(with_reducible repeat' first|refine Xk ?_<;>try simp[g,e,B,n,wc,p,j,m,q,i,u]|refine Xs ?_ ?_<;>intro h<;>(try intro W)<;>(try simp[h,g,e,B,n,wc,p,j,m,q,i,u])<;>try omega|refine Xg ?_|omega);exact K _ _ _ U U
  .refine Yg xU ?_;simp[xU];refine Yc (C) ?_;simp;refine gi ?_;refine Go.AL.gE.n rfl rfl c2 gf gf ?_;simp[g,e,B,A];refine o5 g e B A ?_;exact⟨R,R.l,rfl,rfl,U,λy f=>⟨(D y f).1,λ_=>(D y f).2 rfl⟩⟩
def XL(v:List gj)(d:v.l<=64):Wf T 28 [iu v] [] (Is (.agg (gK ⟨yV v,bb⟩))):=by have c:=RD (v:=v) (.inl rfl) d;have hl:=BK v;rw[HX];unfold yV;dsimp only;rw[UF hl];obtain⟨r,a⟩:∃r,kZ v=r:=⟨_,rfl⟩;rw[a]at c hl ⊢;clear a;have b:r.take 32=r:=af U;refine Yg Ku ?_;simp[Ku];refine Yc (c) ?_;simp;refine gi ?_;simp[hl,b];rfl
def afe(v:List gj)(l:List B5)(K d a b c:Int)(hl:∀x∈l,x.ok)(p:0<v.l)(o:v.l<=64)(h:∀r∈v,r.2<=4000)(n:0<=K/\K<256)(m:0<=d/\d<256)
  (k:0<=a/\a<256) (j:0<=b/\b<256) (i:0<=c/\c<256) :
  Wf T 26 [iu v,.agg [.sl 5 (l.map f5),.val (.int .u8 K),.val (.int .u8 d),.val (.int .u8 a),.val (.int .u8 b),.val (.int .u8 c)]] [] (On v.l (decide (a % 8<6))):=by
 have f:gJ (IntKind.i64.wrap K) 5=K % 5:=by rw[nH gU];exact jO n.1
 have rt:gJ (IntKind.i64.wrap d) 6=d % 6:=by rw[nH gU];exact jO m.1
 have e:=afy v l (K % 5) (d % 6) a b c hl p o h U U k j i;refine Yg Kr ?_;simp[Kr,f,rt];refine jT f rt ?_;refine gE.on rfl rfl e gf λL g hP=>?_;simp;exact⟨L,g,rfl,rfl,hP⟩
def jdA:Jd->List D
 | .v a ls=>[.i a,dN 1 f1 ls,.i 0]
 | .none=>[.i 0,.gp,.i 270]
 | .vY=>[.i 0,.gp,.i 180]
def afh(g:gv)(hg:gZ g)(l:List Pos)(d:mY g l)(h0:0<l.l)(h:l.l<=1000){L:List Cw}
  (f:∀x∈L,x.ok) (e:∀x∈L,∀r∈x.c.es,r.2<=4000) (i:L.l<=100000) :
  Wf T 30 [dG g,gT l,.sl 36 (L.map gK)] [] (Is (.agg (jdA (nj (iv g l (gy g l)) l.l (iT l.l) (cs L))))):=by
 have c:=afz g hg l d h0 h (L:=L) (.inl rfl) f e i;obtain⟨J,b⟩:∃J,nj (iv g l (gy g l)) l.l (iT l.l) (cs L)=J:=⟨_,rfl⟩;rw[b]at c ⊢;clear b
 cases J with
 | v a ls=>
  unfold BV at c;refine Yg Ac ?_;simp[Ac];refine Yc (c) ?_;simp;refine gi ?_;rfl
 | none=>
  unfold BV at c;refine Yg Ac ?_;simp[Ac];refine Yc (c) ?_;simp;refine gi ?_;rfl
 | vY=>
  unfold BV at c;refine Yg Ac ?_;simp[Ac];refine Yc (c) ?_;simp;refine gi ?_;rfl
set_option maxHeartbeats 4000000
structure B2 where
 a:Int
 b:Int
 deriving Inhabited
structure B2.ok(x:B2):Prop where
 a:0<=x.a/\x.a<256
 b:0<=x.b/\x.b<256
@[irreducible] def AM(x:B2):List D:=[.val (.int .u8 x.a),.val (.int .u8 x.b)]
@[simp] theorem avh(x:B2):AM x = [.val (.int .u8 x.a),.val (.int .u8 x.b)]:=by unfold AM;rfl
instance:Fl AM 2:=⟨λ_=>gf,λ_=>by simp[gN]⟩
def B2.vJ(x:B2):gj:=(1+x.a % 3,if x.a % 3=1 then 0 else x.b)
def aff(l:List B2)(hl:∀x∈l,x.ok)(n:Int)(n0:0<=n)(v:n<=4000):Wf T 27 [.sl 2 (l.map AM),.i n] [] (Is (iu ((l.take n.n).map B2.vJ))):=by
 obtain⟨R,o⟩:∃R,(l.take n.n).map B2.vJ=R:=⟨_,rfl⟩;rw[o];refine Yg Kt ?_;simp[Kt];refine gx.e ((0,[]):Int×List gj) (λy=>[(0,.sl 2 (l.map AM)),(1,.i n),(5,.gh 0 y.2.l 2 0 y.2.l),(6,.i y.1)]) (λy=>[.row 86 y.2.l (cl fS y.2)]) (λy=>(0<=y.1/\y.1<=l.l/\y.1<=n)/\y.2=(l.take y.1.n).map B2.vJ) (λy=>(l.l-y.1).n) ?_ ?_
 .simp[n0]
 rintro⟨i,A⟩ ⟨⟨i0,r,p⟩,f⟩;dsimp only at i0 r p f ⊢;have u:A.l=i.n:=by rw[f];simp;omega
 by_cases hi:i<l.l/\i<n
 .have e:=BS (l:=l) i0 hi.1;have j:=hl _ (gF i0 hi.1);have c:gJ (gt l i).a 3=(gt l i).a % 3:=jO j.a.1;have w:=j.a;have t:=j.b;have b:IntKind.i64.wrap ((gt l i).a % 3)=(gt l i).a % 3:=nH gU;have w1:IntKind.i64.wrap 1=1:=rfl;have a:IntKind.i64.wrap (gt l i).b=(gt l i).b:=nH gU;have g:A ++ [(gt l i).vJ]=(l.take (i+1).n).map B2.vJ:=by rw[e,cj,<-f];rfl
  obtain⟨q,m⟩:∃q,(gt l i).vJ=q:=⟨_,rfl⟩;have d:=m;rw[m]at g;unfold B2.vJ at d
  by_cases h1:(gt l i).a % 3=1
  .rw[if_pos h1,h1]at d;simp[hi.1,hi.2,c,b,a,h1,w1];(with_reducible repeat' first|refine Xk ?_<;>try simp[c,b,a,h1,w1]|refine Xs ?_ ?_<;>intro h<;>(try intro s)<;>(try simp[h,c,b,a,h1,w1])<;>try omega|refine Xg ?_|omega);subst d;refine LJ.i (i+1,A ++ [(2,0)]) sw sw sw sw ?_;exact⟨U,mw,g⟩
  .rw[if_neg h1]at d;have k:¬ 1+(gt l i).a % 3=2:=U;simp[hi.1,hi.2,c,b,a,h1,k];(with_reducible repeat' first|refine Xk ?_<;>try simp[c,b,a,h1,k]|refine Xs ?_ ?_<;>intro h<;>(try intro s)<;>(try simp[h,c,b,a,h1,k])<;>try omega|refine Xg ?_|omega);subst d;refine LJ.i (i+1,A ++ [(1+(gt l i).a % 3,(gt l i).b)]) sw sw sw sw ?_;exact⟨U,mw,g⟩
 .have:(l.take i.n)=l.take n.n:=by
   by_cases h:i<l.l
   .rw[(U:i=n)]
   .rw[af U,af U]
  rw[this,o]at f;subst f
  by_cases h:i<l.l
  .simp[h,(U:¬i<n)]
  .simp[h]
set_option maxHeartbeats 32000000
structure Nu(V:List gj):Prop where
 len:V.l<=64
 bd:∀r∈V,r.2<=4000
theorem Nu.ok{V:List gj}(h:Nu V):(⟨yV V,bb⟩:Cw).ok:=by have:=h.len;exact⟨(λh=>by cases h),this,BK V,by unfold yV;dsimp only;omega,by unfold yV;dsimp only;omega⟩
def ajl{l:List B2}(hl:∀y∈l,y.ok){n:Nat}(c:n<=64):Nu ((l.take (n:Int).n).map B2.vJ):=by
 refine⟨gO,λr b=>?_⟩;obtain⟨y,a,rfl⟩:=au.1 b;have:=(hl y (aS a)).b;unfold B2.vJ;dsimp only;split
 .omega
 .omega
end Go.Proofs.YtmehofoficaelaaGreatDoor
namespace Go.Proofs.YtmehofoficaelaaGreatDoor
open Go Go.AL Classical
set_option maxRecDepth 10000
set_option maxHeartbeats 32000000
attribute [-simp] uU
def aij{J:Jd}{N:Nat}(h:∀a ls,J = .v a ls->ls.l<=N):∃a ls e x y,jdA J = [.i a,x,.i e]/\x9 J = .agg [.i a,y,.i e]/\nQ ls x/\nQ ls y/\ls.l<=N:=by
 cases J with
 | v a ls=>exact⟨a,ls,0,_,_,rfl,rfl,nQ.N ls,nQ.I ls,h a ls rfl⟩
 | none=>exact⟨0,[],270,_,_,rfl,rfl,nQ.e,nQ.e,ew _⟩
 | vY=>exact⟨0,[],180,_,_,rfl,rfl,nQ.e,nQ.e,ew _⟩
def ap2{A:mf}{n:Nat}{ad:gR->Bool}{cl:List gR}:∃v o e r x,vI (tC A n ad cl) = [r,x,.i e]/\wT v r/\nQ o x/\v.l<=n/\o.l<=cl.l:=by
 unfold tC;split
 .exact⟨_,_,_,_,_,rfl,wT.I _,nQ.N _,Nat.le_of_eq (Qx _ _ _),abT _ _⟩
 .exact⟨[],_,_,_,_,rfl,wT.e,nQ.N _,ew _,abT _ _⟩
def aaK{A:mf}{n:Nat}{v:List gj}{i:Int}:∃p q,FR A n v i = [.b p,.i q]:=by
 unfold FR;split
 .exact⟨_,_,rfl⟩
 .split
  .exact⟨_,_,rfl⟩
  .exact⟨_,_,rfl⟩
structure Nt(V:List gj):Prop where
 len:V.l<=64
 bd:∀k:Int,0<=k->k<V.l->-4000<=(gt V k).2/\(gt V k).2<=4000
def Nt.PY{V:List gj}(h:Nt V):Nu V:=⟨h.len,λr a=>by
 obtain⟨k,k0,k1,rfl⟩:=xJ.1 a
 exact(h.bd k k0 k1).2⟩
def ajm{l:List B2}(hl:∀y∈l,y.ok){n:Nat}(b:n<=64):Nt ((l.take (n:Int).n).map B2.vJ):=by
 have h:=ajl hl b;refine⟨h.len,λk k0 k1=>⟨?_,h.bd _ (gF k0 k1)⟩⟩;obtain⟨y,a,e⟩:=au.1 (gF k0 k1);rw[<-e];have:=(hl y (aS a)).b;unfold B2.vJ;dsimp only;split
 .omega
 .omega
structure Kk(L:List Cw):Prop where
 ok:∀x∈L,x.ok
 b:∀x∈L,∀r∈x.c.es,r.2<=4000
 len:L.l<=20
def Kk.snoc{L:List Cw}{x:Cw}(h:Kk L)(h1:x.ok)(b:∀r∈x.c.es,r.2<=4000)(c:L.l<20):Kk (L ++ [x]):=by
 refine⟨λy a=>?_,λy a=>?_,gO⟩
 .rcases aj.1 a with a|a
  .exact h.ok y a
  .rw[aE.1 a];exact h1
 .rcases aj.1 a with a|a
  .exact h.b y a
  .rw[aE.1 a];exact b
def afa(x:sy)(hx:Kh x)(ws:List B5)(FJ:∀y∈ws,y.ok)(K T' a b c:Int)(hK:0<=K/\K<256)(hT:0<=T'/\T'<256)(ha:0<=a/\a<256)(hb:0<=b/\b<256)(hc:0<=c/\c<256)
  (C:List B2) (uF:∀y∈C,y.ok) :
  Wf T 4 [.agg x.cells,.agg [.sl 5 (ws.map f5),.val (.int .u8 K),.val (.int .u8 T'),.val (.int .u8 a),.val (.int .u8 b),.val (.int .u8 c)],.sl 2 (C.map AM)] [] (Is (.b b4)):=by
 have oz:x.cells.l=31:=by simp[sy.cells,Raw.cells,hx.len]
 have TG:gN x.cells=true:=by have:=WR x;simpa using this
 have oF:=agn x hx;generalize x.cells=xs at *;obtain⟨X,rfl⟩:=XI TG;rw[rJ,eZ]at oz;have xx:X.take 31=X:=af U;refine Yz GC (jm 70 [5] (jm 75 [3] GC.body)) ?_;simp[GC,jm,kS,nR,nU,oo,mm,oz,xx];refine Yc (afd) ?_;simp;refine jT oz xx ?_;simp[oz,xx];refine gE.q rfl rfl oF gf (λy=>by obtain⟨g,p,b,l⟩:=y;cases b<;>simp[gN]) ?_;rintro⟨g,p,b',l⟩ ⟨hg,hp,gP⟩;cases b'
 .simp
 dsimp only at hg hp gP;have mR:=(gP rfl).1;have Se:=(gP rfl).2;have B:=mR.c2;have h0:=mR.len.1;have l0:=mR.len.2;have gQ:=λi i0 i1=>(oN B (i:=i) i0 i1).2;simp;refine Yq (agp g hg l B h0) λy S=>?_;obtain⟨V,W⟩:=y;obtain⟨zj,Zi⟩:=S;dsimp only at zj Zi
 have A5:∀k:Int,0<=k->k<V.l->0<=(gt V k).2/\(gt V k).2<=4000:=λk k0 k1=>by have:=aiO (A:=iv g l (gy g l)) (v:=V) (n:=l.l) gQ Zi (i:=k) k0 U;omega
 have c':∀r∈V,r.2<=4000:=λr hr=>by obtain⟨k,k0,k1,rfl⟩:=xJ.1 hr;exact(A5 k k0 k1).2
 have c1:0<V.l:=U;have EV:V.l<=64:=U;simp;refine gi ?_;refine gE.on rfl rfl (afe V ws K T' a b c FJ c1 EV c' hK hT ha hb hc) gf λu g0 hP=>?_;have zh:=hP.1;have E:=ajm uF EV;have c0:=aff C uF V.l U U
 have L:(C.take (V.l:Int).n).map B2.vJ = []↔C = []:=by rw[List.map_eq_nil_iff,List.take_eq_nil_iff];refine⟨λh=>h.resolve_left U,.inr⟩
 obtain⟨O,Y⟩:∃O,(C.take (V.l:Int).n).map B2.vJ=O:=⟨_,rfl⟩;rw[Y]at E c0 L;have M:gJ a 4=a % 4:=jO ha.1;simp;refine gi ?_;refine Yc c0 ?_
 have J:(C.l=0/\O.l=0)\/(0<C.l/\0<O.l/\a % 4≠1)\/(0<C.l/\0<O.l/\a % 4=1):=by
  by_cases h:C = []
  .exact .inl ⟨by rw[h];rfl,by rw[L.2 h];rfl⟩
  .have h2:O≠[]:=λe=>h (L.1 e)
   by_cases h1:a % 4=1
   .exact .inr (.inr ⟨ao.2 h,ao.2 h2,h1⟩)
   .exact .inr (.inl ⟨ao.2 h,ao.2 h2,h1⟩)
 have Sk:Kk u:=⟨λy S=>(hP.2 y S).1.ok,λy S=>(hP.2 y S).1.b,U⟩;have c2:=XL O E.len;have a':=E.PY.ok;have Q:∀r∈(⟨yV O,bb⟩:Cw).c.es,r.2<=4000:=E.PY.bd;obtain⟨q,ly⟩:∃q:Cw,(⟨yV O,bb⟩:Cw)=q:=⟨_,rfl⟩;rw[ly]at c2 a' Q;rw[show gK q=cl gK [q]from(iY _).symm]at c2;have q0:(cl gK [q]).l=36:=by rw[rJ];rfl
 have t0:(cl gK [q]).take 36=cl gK [q]:=af U;have f:gJ (IntKind.i64.wrap b) ((V.l:Int)+2)=b % (V.l+2):=by rw[nH gU];exact jO hb.1
 have tK:=bS b (U:(V.l:Int)+2≠0);have zk:=bM b (U:(0:Int)<V.l+2);obtain⟨H,tO⟩:∃H,b % ((V.l:Int)+2)=H:=⟨_,rfl⟩;rw[tO]at f tK zk;have R:gJ (IntKind.i64.wrap b) 5=b % 5:=by rw[nH gU];exact jO hb.1
 have rc:IntKind.i64.wrap c=c:=nH gU;have OI:=Sk.snoc a' Q U;obtain⟨F,I⟩:∃F:List gj,(b % 5,c-9)::O.tail=F:=⟨_,rfl⟩
 have Iq:0<O.l->D.i (b % 5)::D.i (c-9)::(cl fS O).drop 2=cl fS F/\F.l=O.l/\Nt F:=λh=>by
  cases O with
  | nil=>cases h
  | cons o t=>
   refine⟨by rw[<-I];simp[nS,Cv],by rw[<-I];simp,by rw[<-I];exact E.len,λk k0 k1=>?_⟩;rw[<-I]at k1 ⊢
   by_cases e:k=0
   .subst e;show -4000<=c-9/\c-9<=4000;omega
   .have:=E.bd k k0 k1
    have h1:gt ((b % 5,c-9)::t) k=gt (o::t) k:=by obtain⟨m,rfl⟩:∃m:Nat,k=m+1:=⟨k.n-1,U⟩;unfold gt;rw[(U:((m:Int)+1).n=m+1)];rfl
    show -4000<=(gt ((b % 5,c-9)::t) k).2/\(gt ((b % 5,c-9)::t) k).2<=4000;rw[h1];exact this
 rcases J with J|J|J;obtain⟨n1,n2⟩:=J
 by_cases G:a % 4=1
 simp[n1];(with_reducible repeat' first|refine Xk ?_<;>try simp[M,n1,n2,G,f]|refine Xs ?_ ?_<;>intro h<;>(try intro h')<;>(try simp[h,M,n1,n2,G,f])<;>try omega|refine Xg ?_|omega);have w:=Sk;have N:=E;have d:(0:Nat)+0=0:=rfl;have w1:=d;have s:=d;have j:=d;clear hP zh OI Y I L Iq c2;generalize u=L1 at *;generalize O=t at *
 rotate_left
 simp[n1];refine kG (bs M n1) (bs n2 G) f ?_;have w:=Sk;have N:=E;have d:(0:Nat)+0=0:=rfl;have w1:=d;have s:=d;have j:=d;clear hP zh OI Y I L Iq c2;generalize u=L1 at *;generalize O=t at *
 rotate_left
 obtain⟨n1,n2,G⟩:=J;simp[n1];refine iU n1 ?_;refine Yc c2 ?_;simp[q0,t0];refine kG (bs q0 t0) (bs M G) f ?_;have j:List.map gK u ++ [gK q]=(u ++ [q]).map gK:=gf;rw[j];have w:=OI;have N:=E;have d:u.l+1=(u ++ [q]).l:=gf;have w1:(0:Nat)+0=0:=rfl;have s:=w1;generalize u ++ [q]=L1 at *;clear Y I L Iq;generalize O=t at *
 rotate_left
 obtain⟨n1,n2,G⟩:=J;obtain⟨w1,w2,w3⟩:=Iq n2;have c3:=XL F w3.len;have Z:=w3.PY.ok;have P:∀r∈(⟨yV F,bb⟩:Cw).c.es,r.2<=4000:=w3.PY.bd;obtain⟨z,l9⟩:∃z:Cw,(⟨yV F,bb⟩:Cw)=z:=⟨_,rfl⟩;rw[l9]at c3 Z P;rw[show gK z=cl gK [z]from(iY _).symm]at c3;have q1:(cl gK [z]).l=36:=by rw[rJ];rfl
 have t1:(cl gK [z]).take 36=cl gK [z]:=af U;have AY:=OI.snoc Z P gO;have b1:=E.len;simp[n1];refine iU n1 ?_;refine Yc c2 ?_;simp[q0,t0];(with_reducible repeat' first|refine Xk ?_<;>try simp[q0,t0,M,G,n2,f,R,rc,w1,<-w2]|refine Xs ?_ ?_<;>intro h<;>(try intro h')<;>(try simp[h,q0,t0,M,G,n2,f,R,rc,w1,<-w2])<;>try omega|refine Xg ?_|omega);refine Yc c3 ?_;simp[q1,t1];refine kG (bs q0 t0) (bs q1 t1) f ?_;have j:List.map gK u ++ [gK q,gK z]=(u ++ [q] ++ [z]).map gK:=gf;rw[j];have w:=AY;have N:=w3;have d:u.l+2=(u ++ [q] ++ [z]).l:=gf;have s:=w2.symm;generalize u ++ [q] ++ [z]=L1 at *;clear Y I L Iq;generalize F=t at *
 rotate_left
 all_goals
  have l1:=w.len;have b1:=N.len;have Ws:=afh g hg l B h0 U w.ok w.b U;have Wu:=XM g hg l B L1 w.ok U (λx hx r hr=>by have:=w.b x hx r hr;omega)
  have kM:∀a ls,nj (iv g l (gy g l)) l.l (iT l.l) (cs L1) = .v a ls->ls.l<=20:=λa ls h=>by have:=(ail h).2.1;rw[rN]at this;omega
  obtain⟨ja,jl,je,jx,jy,j1,j2,j3,j4,j5⟩:=aij kM;rw[j1]at Ws;rw[j2]at Wu;have Wr:=afg j3 j4 U ja ja je je;rw[decide_eq_true ⟨rfl,rfl,rfl⟩]at Wr;obtain⟨sv,so,se,sr,sx,s1,s2,s3,s4,s5⟩:=ap2 (A:=iv g l (gy g l)) (n:=l.l) (ad:=iT l.l) (cl:=cs L1);rw[rN]at s5;have Ww:=afj g hg l B h0 U (.inl rfl) w.ok w.b U;have Wx:=afk g hg l B h0 U w.ok w.b U;rw[s1]at Ww Wx;have Wv:=afi s2 s2 s3 s3 U U se se;rw[decide_eq_true ⟨rfl,rfl,rfl⟩]at Wv;have c6:=afl V t U U rfl;have c5:=afm V t U U rfl;have Zh:∀k:Int,0<=k->k<V.l->-4000<=(gt V k).2/\(gt V k).2<=4000:=λk k0 k1=>by have:=A5 k k0 k1;omega
  have ca:=XP g hg l B h0 V U Zh (H-1);have cb:=XQ g hg l B V U Zh (H-1);have cc:=XP g hg l B h0 t U N.bd (H-1);have cd:=XQ g hg l B t U N.bd (H-1);obtain⟨p1,p2,e1⟩:=aaK (A:=iv g l (gy g l)) (n:=l.l) (v:=V) (i:=H-1);obtain⟨p3,p4,e2⟩:=aaK (A:=iv g l (gy g l)) (n:=l.l) (v:=t) (i:=H-1);rw[e1]at ca cb;rw[e2]at cc cd;have k1:=j3.cl;have k2:=j4.cl;have k3:=s2.cl;have k4:=s3.cl;refine vQ.c rfl rfl Ws gf (by simp[k1]) ?_;simp[k1,d,w1,s,j,f];refine Yt Wu ?_ rfl rfl gf (by simp[k2]);simp[k1,k2,d,w1,s,j,f];refine Yt Wr ?_ rfl rfl (by simp[k1,k2]) gf;simp[k1,k2,d,w1,s,j,f];refine vQ.c rfl rfl Ww gf (by simp[k3,k4]) ?_;simp[k1,k2,k3,k4,d,w1,s,j,f];refine Yt Wx ?_ rfl rfl gf (by simp[k3,k4]);simp[k1,k2,k3,k4,d,w1,s,j,f];refine Yt Wv ?_ rfl rfl (by simp[k3,k4]) gf;simp[k1,k2,k3,k4,d,w1,s,j,f];refine Yt c6 ?_;simp[k1,k2,k3,k4,d,w1,s,j,f];refine Yt c5 ?_;simp[k1,k2,k3,k4,d,w1,s,j,f];refine Yt ca ?_;simp[k1,k2,k3,k4,d,w1,s,j,f];refine Yt cb ?_;simp[k1,k2,k3,k4,d,w1,s,j,f];refine Yt cc ?_;simp[k1,k2,k3,k4,d,w1,s,j,f];refine Yt cd ?_;simp[k1,k2,k3,k4,d,w1,s,j,f]
