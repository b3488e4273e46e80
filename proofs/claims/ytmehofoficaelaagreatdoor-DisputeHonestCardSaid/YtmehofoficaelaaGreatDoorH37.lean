/- Part 37 of DisputeHonest. -/
import Derived.Test.YtmehofoficaelaaGreatDoorH36
set_option linter.all false
namespace Go.Proofs.YtmehofoficaelaaGreatDoor
open Go Go.AL Classical
structure Wk where
 kind:Int
 pos:Int
 n:Int
 sZ:Int
 rY:Int
 deriving Inhabited
def Wk.cells(w:Wk):List D:=[.i w.kind,.i w.pos,.i w.n,.i w.sZ,.i w.rY]
structure Wk.ok(w:Wk):Prop where
 kind:1<=w.kind/\w.kind<=4
 pos:0<=w.pos/\w.pos<=31
 n:0<=w.n/\w.n<=5
 sZ:1<=w.sZ/\w.sZ<=3
 rY:0<=w.rY/\w.rY<=8
def vK(x:List Int):Wk:=⟨1+gt x 0 % 4,gt x 1 % 32,gt x 2 % 6,1+gt x 3 % 3,gt x 4 % 9⟩
theorem akX(x:List Int):(vK x).ok:=⟨by unfold vK;dsimp only;omega,by unfold vK;dsimp only;omega,by unfold vK;dsimp only;omega,by unfold vK;dsimp only;omega,by unfold vK;dsimp only;omega⟩
def A2(w:Wk)(v:List fq)(i:Int):fq:=if w.kind=4/\i=w.pos then(w.sZ,w.rY)else gt v i
def nV(w:Wk)(v:List fq)(lo:Int):Nat->List fq
 | 0=>[]
 | n+1=>nV w v lo n ++ [A2 w v (lo+n)]
theorem Q8(w:Wk)(v:List fq)(lo:Int):∀n,(nV w v lo n).length=n
 | 0=>rfl
 | n+1=>by rw[nV,ar,Q8 w v lo n];rfl
def Gy(w:Wk)(t:Int):Bool:=decide (w.kind=1\/w.kind=4\/(w.kind=3/\w.n<=t))
set_option maxRecDepth 10000
set_option maxHeartbeats 4000000
theorem aaK(a b c d e:Int)(r:0<=a/\a<256)(q:0<=b/\b<256)(p:0<=c/\c<256)(o:0<=d/\d<256)(n:0<=e/\e<256):Wf T 60 [.agg [.val (.int .u8 a),.val (.int .u8 b),.val (.int .u8 c),.val (.int .u8 d),.val (.int .u8 e)]] [] (Is (.agg (vK [a,b,c,d,e]).cells)):=by have h:(vK [a,b,c,d,e]).cells = [.i (1+a % 4),.i (b % 32),.i (c % 6),.i (1+d % 3),.i (e % 9)]:=rfl;have m:fJ a 4=a % 4:=iV r.1;have l:fJ b 32=b % 32:=iV q.1;have rc:fJ c 6=c % 6:=iV p.1;have rd:fJ d 3=d % 3:=iV o.1;have k:fJ e 9=e % 9:=iV n.1;have j:IntKind.i64.wrap (a % 4)=a % 4:=mL ie;have i:IntKind.i64.wrap (b % 32)=b % 32:=mL ie;have wc:IntKind.i64.wrap (c % 6)=c % 6:=mL ie;have g:IntKind.i64.wrap (d % 3)=d % 3:=mL ie;have f:IntKind.i64.wrap (e % 9)=e % 9:=mL ie;refine Yg GX ?_;simp[GX,m,l,rc,rd,k,j,i,wc,g,f,h];omega
structure B5 where
 a:Int
 b:Int
 c:Int
 d:Int
 e:Int
 deriving Inhabited
structure B5.ok(x:B5):Prop where
 a:0<=x.a/\x.a<256
 b:0<=x.b/\x.b<256
 c:0<=x.c/\x.c<256
 d:0<=x.d/\x.d<256
 e:0<=x.e/\x.e<256
@[irreducible] def f5(x:B5):List D:=[.val (.int .u8 x.a),.val (.int .u8 x.b),.val (.int .u8 x.c),.val (.int .u8 x.d),.val (.int .u8 x.e)]
@[simp] theorem apN(x:B5):f5 x = [.val (.int .u8 x.a),.val (.int .u8 x.b),.val (.int .u8 x.c),.val (.int .u8 x.d),.val (.int .u8 x.e)]:=by unfold f5;rfl
instance:Fl f5 5:=⟨λ_=>by simp,λ_=>by simp[fR]⟩
@[irreducible] def s7(w:Wk):List D:=w.cells
theorem BI(w:Wk):s7 w = [.i w.kind,.i w.pos,.i w.n,.i w.sZ,.i w.rY]:=by unfold s7;rfl
instance:Fl s7 5:=⟨λ_=>by rw[BI];rfl,λ_=>by rw[BI];simp[fR]⟩
def B5.wk(x:B5):Wk:=vK [x.a,x.b,x.c,x.d,x.e]
theorem aay(l:List B5)(hl:∀x∈l,x.ok):Wf T 18 [.sl 5 (l.map f5)] [] (Is (.sl 5 (((l.take 8).map B5.wk).map s7))):=by
 obtain⟨R,f⟩:∃R,(l.take 8).map B5.wk=R:=⟨_,rfl⟩;rw[f];refine Yg GL ?_;simp[GL];refine fE.e ((0,[]):Int×List Wk) (λy=>[(0,.sl 5 (l.map f5)),(3,.fm 0 y.2.length 5 0 y.2.length),(4,.i y.1)]) (λy=>[.row 149 y.2.length (cl s7 y.2)]) (λy=>(0<=y.1/\y.1<=l.length/\y.1<=8)/\y.2=(l.take y.1.toNat).map B5.wk) (λy=>(l.length-y.1).toNat) ?_ ?_
 .simp
 rintro⟨i,A⟩ ⟨⟨i0,k,j⟩,b⟩;dsimp only at i0 k j b ⊢;have p:A.length=i.toNat:=by rw[b];simp;omega
 by_cases hi:i<l.length/\i<8
 .have e:=Gn (l:=l) i0 hi.1;have a:=hl _ (fM i0 hi.1);have c:=aaK (gt l i).a (gt l i).b (gt l i).c (gt l i).d (gt l i).e a.a a.b a.c a.d a.e;have g:A ++ [(gt l i).wk]=(l.take (i+1).toNat).map B5.wk:=by rw[e,List.map_append,<-b];rfl
  rw[show vK [(gt l i).a,(gt l i).b,(gt l i).c,(gt l i).d,(gt l i).e]=(gt l i).wk from rfl]at c;obtain⟨w,m⟩:∃w,(gt l i).wk=w:=⟨_,rfl⟩;rw[m]at c g;rw[show w.cells=cl s7 [w]by rw[iF];unfold s7;rfl]at c;have o:(cl s7 [w]).length=5:=by rw[s5];rfl
  have d:(cl s7 [w]).take 5=cl s7 [w]:=af (by omega);simp[hi.1,hi.2];refine fo ?_;refine Yc (c) ?_;simp[d];refine ja d ?_;refine LJ.i (i+1,A ++ [w]) (by first|rfl|simp[d]) (by first|rfl|simp[d]) rfl rfl ?_;exact qe g
 .have e:l.take i.toNat=l.take 8:=by
   by_cases h:i=8
   .rw[h];rfl
   .rw[af (by omega),af (by omega)]
  rw[e,f]at b;subst b;clear f e
  by_cases h:i<l.length
  .have n:i=8:=by omega
   subst n;simp[h]
  .simp[h]
@[irreducible] def CG(l:List Int):List Int:=(l++zs 32).take 32
theorem ajr(l:List Int):(CG l).length=32:=by unfold CG;simp
theorem Qs{l:List Int}(h:l.length=32):CG l=l:=by unfold CG;rw[aT (by omega),af (by omega)]
@[irreducible] def gS(x:Cw):List D:=[.i x.c.who,.i x.c.lo,.i x.c.hi,dE x.em x.c.es]++cl fU (CG x.c.root)
theorem D7(x:Cw):gS x = [.i x.c.who,.i x.c.lo,.i x.c.hi,dE x.em x.c.es]++cl fU (CG x.c.root):=by unfold gS;rfl
theorem D8{x:Cw}(h:x.ok):gS x=x.cells:=by rw[D7,Qs h.root];rfl
instance:Fl gS 36:=⟨λx=>by rw[D7];simp[ajr],λx=>by rw[D7];simp[fR]⟩
set_option maxHeartbeats 8000000
theorem ak9(w:Wk)(v:List fq){lo i:Int}(h:lo<=i):nV w v lo (i+1-lo).toNat=nV w v lo (i-lo).toNat ++ [A2 w v i]:=by rw[show(i+1-lo).toNat=(i-lo).toNat+1 by omega,nV,show lo+((i-lo).toNat:Int)=i by omega]
theorem xL(l:List Int):cl fU l=l.map λx=>.val (.int .u8 x):=by
 unfold cl
 induction l with
 | nil=>rfl
 | cons a l b=>simp[b,fU]
theorem QL(ρ:Nat->Option Nat)(H:U)(k:Nat)(l:List Int):(cl fU l).map (fy ρ H (k+1))=cl fU l:=by rw[xL,cD];rfl
theorem Nt(l:List Int)(h:l.length=32)(b:D):(cl fU l ++ [b]).drop 33 = []:=by rw[List.drop_eq_nil_iff];simp[h,s5]
theorem aaR(w:Wk)(E:w.ok)(who t lo hi:Int)(v:List fq)(h0:0<=lo)(h1:lo<hi)(K:hi<=v.length)(J:v.length<=64)(I:0<=who/\who<=1000) :
  Wf T 92 [.agg w.cells,.agg [.i who,.i t,.i lo,.i hi],gQ v] [] (Is (if Gy w t=true then .agg (gS ⟨⟨who,lo,hi,nV w v lo (hi-lo).toNat,jI (nV w v lo (hi-lo).toNat)⟩,false⟩ ++ [.b true])else .agg ([.i 0,.i 0,.i 0,.fw]++cl fU (zs 32) ++ [.b false]))):=by
 obtain⟨kind,pos,n,sZ,rY⟩:=w;have F:=E.kind;unfold Wk.cells Gy;dsimp only at F ⊢
 by_cases h:kind=1\/kind=4\/(kind=3/\n<=t)
 .rw[decide_eq_true h,if_pos rfl];have n1:¬lo<0:=by omega
  have n2:¬hi<lo:=by omega
  have g:¬(v.length:Int)<hi:=by omega
  obtain⟨W,j⟩:∃W,(⟨kind,pos,n,sZ,rY⟩:Wk)=W:=⟨_,rfl⟩;have x:∀i,A2 W v i=if kind=4/\i=pos then(sZ,rY)else gt v i:=λi=>by rw[<-j];rfl
  have q:∀m,(nV W v lo m).length=m:=Q8 W v lo;have G:(nV W v lo (hi-lo).toNat).length<=64:=by rw[q];omega
  have c:=NF (v:=nV W v lo (hi-lo).toNat) (.inl rfl) G;have hl:=yL (nV W v lo (hi-lo).toNat);rw[j,D7,Qs hl];obtain⟨r,o⟩:∃r,jI (nV W v lo (hi-lo).toNat)=r:=⟨_,rfl⟩;rw[o]at c hl ⊢;clear o;have z:r.take 32=r:=af (by omega)
  have H:((kind=1)=True/\(kind=4)=False)\/((kind=1)=False/\(kind=4)=True)\/((kind=1)=False/\(kind=4)=False/\(kind=3)=True/\(n<=t)=True):=by simp;omega
  clear j h;rcases H with e|e|e
  all_goals
   refine Yg xq ?_;simp[xq,n1,n2,g,e];refine fE.e ((lo,[]):Int×List fq) (λy=>[(2,gQ v),(3,.ptr 0 0 0),(4,.ptr 1 0 0),(6,.ptr 2 0 0),(7,.ptr 3 0 0),(8,.i y.1)]) (λy=>.row 149 0 [.i kind,.i pos,.i n,.i sZ,.i rY] :: .row 209 0 [.i who,.i t,.i lo,.i hi] :: .row 206 0 (.i 0 :: .i 0 :: .i 0 :: .fw::(cl fU (zs 32) ++ [.b false])) :: .row 72 0 (.i who :: .i lo :: .i hi::(if y.2 = []then .fw else .fm 4 (y.2.length-1) 2 0 y.2.length)::cl fU (zs 32))::(if y.2 = []then []else [.row 86 (y.2.length-1) (cl fS y.2)])) (λy=>(lo<=y.1/\y.1<=hi)/\y.2=nV W v lo (y.1-lo).toNat) (λy=>(hi-y.1).toNat) ?_ ?_
   .simp[nV];omega
   rintro⟨i,A⟩ ⟨⟨i0,C⟩,f⟩;dsimp only at i0 C f ⊢;have l:A.length=(i-lo).toNat:=by rw[f,q]
   by_cases k:i<hi
   .have p:A ++ [A2 W v i]=nV W v lo (i+1-lo).toNat:=by rw[ak9 W v i0,<-f]
    have s:i<v.length:=by omega
    have u:0<=i:=by omega
    have d:=x i
    by_cases a:A = []
    .subst a;rcases(show(i=pos)=True\/(i=pos)=False by simp;omega)with b|b
     all_goals
      simp[e,b]at d;simp[e,k,b,s,u];refine fo ?_;refine LJ.i (i+1,[A2 W v i]) (by first|rfl|simp[d,iF]) (by first|rfl|simp[d,iF]) rfl rfl ?_;exact⟨by omega,ie,p⟩
    .have D:0<A.length:=av.2 a;rw[if_neg a,if_neg a];rcases(show(i=pos)=True\/(i=pos)=False by simp;omega)with b|b
     all_goals
      simp[e,b]at d;simp[e,k,b,s,u];refine fo ?_;refine LJ.i (i+1,A ++ [A2 W v i]) (by first|rfl|simp[d,show A.length-1+1=A.length by omega]) (by first|rfl|simp[d,show A.length-1+1=A.length by omega]) rfl rfl ?_;exact⟨by omega,ie,p⟩
   .have B:i=hi:=by omega
    subst B;have a:A≠[]:=λe=>by rw[e]at l;simp at l;omega
    rw[<-f]at c;rw[<-f];rw[if_neg a,if_neg a];simp[k];refine fo ?_;refine fL.r rfl rfl c (by simp) (by simp[flat]) (by simp) ?_;simp[hl,z,QL,Nt];rfl
 .rw[decide_eq_false h,if_neg (by simp)];have n1:¬lo<0:=by omega
  have n2:¬hi<lo:=by omega
  have g:¬(v.length:Int)<hi:=by omega
  have m1:¬kind=1:=by omega
  have m2:¬kind=4:=by omega
  by_cases m3:kind=3
  .have m4:¬n<=t:=by omega
   refine Yg xq ?_;simp[xq,n1,n2,g,m1,m2,m3,m4,QL,Nt]
  .refine Yg xq ?_;simp[xq,n1,n2,g,m1,m2,m3,QL,Nt]
def qm(n:Int):Nat->Int->List fq
 | 0,_=>[]
 | k+1,a=>(a,a+(n-a+k) / (k+1))::qm n k (a+(n-a+k) / (k+1))
theorem S0{n a:Int}{k:Nat}(h:((k+1:Nat):Int)<=n-a):1<=(n-a+k) / (k+1)/\(n-a+k) / (k+1)<=n-a-k:=by
 have b:(0:Int)<k+1:=by omega
 refine⟨?_,?_⟩
 .rw[Int.le_ediv_iff_mul_le b];omega
 .have:0<=(n-a-k-1)*(k:Int):=Int.mul_nonneg (by omega) (by omega);have e:(n-a-k+1)*((k:Int)+1)=(n-a-k-1)*k+2*k+(n-a-k+1):=by rw[Int.mul_add,Int.mul_one,show n-a-(k:Int)+1=(n-a-k-1)+2 by omega,Int.add_mul]
  have:=Int.ediv_lt_of_lt_mul b (show n-a+k<(n-a-k+1)*((k:Int)+1)by omega);omega
theorem zg{n:Int}:∀ {k:Nat} {a:Int},0<=a->(k:Int)<=n-a->∀p∈qm n k a,0<=p.1/\p.1<p.2/\p.2<=n
 | 0,_,_,_,p,hp=>by cases hp
 | k+1,a,h0,h,p,hp=>by
  have b:=S0 h;rcases aw.1 hp with rfl|hp
  .dsimp only;omega
  .exact zg (by omega) (by omega) p hp
theorem J7{n:Int}:∀ {k:Nat} {a:Int},(qm n k a).length=k
 | 0,_=>rfl
 | k+1,_=>by rw[qm,aG,J7]
theorem aaQ(n k:Int)(h0:0<n)(s:n<=4000)(k0:0<=k)(k9:k<=4000):Wf T 91 [.i n,.i k] [] (Is (.sl 2 ((qm n (min k n).toNat 0).map fS))):=by
 by_cases h:k<1
 .have e:(min k n).toNat=0:=by omega
  rw[e];refine Yg A6 ?_;simp[A6,h];rfl
 .have n1:¬n<1:=by omega
  have n2:¬ 4000<n:=by omega
  obtain⟨K,i⟩:∃K:Nat,min k n=K:=⟨(min k n).toNat,by omega⟩;rw[i,b9];obtain⟨R,d⟩:∃R,qm n K 0=R:=⟨_,rfl⟩;rw[d];refine Yg A6 ?_;simp[A6,h,n1,n2,i];refine fE.e (((0,K),[]):(Int×Nat)×List fq) (λy=>[(0,.i n),(5,.fm 0 y.2.length 2 0 y.2.length),(6,.i y.1.1),(7,.i y.1.2)]) (λy=>[.row 204 y.2.length (cl fS y.2)]) (λy=>((0<=y.1.1/\y.1.1<=n)/\(y.1.2:Int)<=n-y.1.1)/\y.2++qm n y.1.2 y.1.1=R) (λy=>y.1.2) ?_ ?_
  .simp[d];omega
  rintro⟨⟨a,m⟩,A⟩ ⟨⟨⟨p,o⟩,g⟩,b⟩;dsimp only at p o g b ⊢
  cases m with
  | zero=>
   have f:A=R:=by simpa[qm]using b
   subst f;clear d;simp
  | succ m=>
   have l:=S0 g
   have c:tt (n-a+(m+1)-1) (m+1)=(n-a+m) / (m+1):=by rw[show n-a+((m:Int)+1)-1=n-a+m by omega,tu (by omega) (by omega) (by omega)]
   rw[qm]at b;obtain⟨q,r⟩:∃q,(n-a+(m:Int)) / (m+1)=q:=⟨_,rfl⟩;rw[r]at l c b;have j:(A++(a,a+q)::qm n m (a+q)).length=R.length:=by rw[b]
   have t:R.length=K:=by rw[<-d,J7]
   simp at j;simp;refine ja c ?_;refine LJ.i ((a+q,m),A ++ [(a,a+q)]) (by first|rfl|simp[c]) (by first|rfl|simp[c]) rfl rfl ?_;dsimp only;exact⟨by omega,⟨ie,by omega⟩,by simpa using b⟩
@[irreducible] noncomputable def pM(w:Wk)(who:Int)(p:fq)(v:List fq):Cw:=⟨⟨who,p.1,p.2,nV w v p.1 (p.2-p.1).toNat,jI (nV w v p.1 (p.2-p.1).toNat)⟩,false⟩
noncomputable def tz(ws:List Wk)(v P:List fq)(t:Int):Nat->List Cw
 | 0=>[]
 | n+1=>tz ws v P t n++(if Gy (gt ws n) t=true then [pM (gt ws n) n (gt P (n % P.length)) v]else [])
theorem QD{ws:List Wk}{v P:List fq}{t:Int}:∀n,(tz ws v P t n).length<=n
 | 0=>Nat.le_refl 0
 | n+1=>by
  have:=QD (ws:=ws) (v:=v) (P:=P) (t:=t) n;rw[tz,ar];split
  .simp;omega
  .simp;omega
theorem aaF(ws:List Wk)(v:List fq)(k t:Int)(O:∀w∈ws,w.ok)(W:ws.length<=8)(V:0<v.length)(Q:v.length<=64)(k0:0<=k)(k9:k<=4000)
  {R:List Cw} (m:(if k<1 then []else tz ws v (qm v.length (min k v.length).toNat 0) t ws.length)=R) :
  Wf T 44 [.sl 5 (ws.map s7),gQ v,.i k,.i t] [] (λd H=>d = .fm 0 R.length 36 0 R.length/\H = [.row 72 R.length (cl gS R)]):=by
 have C:=aaQ v.length k (by omega) (by omega) k0 k9;have I:=zg (n:=v.length) (k:=(min k v.length).toNat) (a:=0) (by omega) (by omega);have M:=J7 (n:=v.length) (k:=(min k v.length).toNat) (a:=0);obtain⟨P,hP⟩:∃P,qm v.length (min k v.length).toNat 0=P:=⟨_,rfl⟩;rw[hP]at C I M m;clear hP;refine Yg GU ?_;simp[GU];refine Yc (C) ?_;simp;refine fo ?_;refine fE.e ((0,[]):Int×List Cw) (λy=>[(0,.sl 5 (ws.map s7)),(1,gQ v),(3,.i t),(9,.sl 2 (P.map fS)),(10,.fm 0 y.2.length 36 0 y.2.length),(11,.i y.1)]) (λy=>[.row 72 y.2.length (cl gS y.2)]) (λy=>((0<=y.1/\y.1<=ws.length)/\(P = []->y.1=0))/\y.2=tz ws v P t y.1.toNat) (λy=>(ws.length-y.1).toNat) ?_ ?_
 .simp[tz]
 rintro⟨i,A⟩ ⟨⟨⟨i0,N⟩,L⟩,o⟩;dsimp only at i0 N L o ⊢
 have U:A.length<=8:=by have:=QD (ws:=ws) (v:=v) (P:=P) (t:=t) i.toNat;rw[o];omega
 by_cases l:P = []
 .have S:=L l;subst S l
  have s:A=R:=by rw[<-m,if_pos (by simp at M;omega)];exact o
  subst s;clear m
  by_cases hi:(0:Int)<ws.length
  all_goals
   simp[hi];exact lZ
 .have G:0<P.length:=av.2 l
  by_cases hi:i<ws.length
  .have j:fJ i P.length=i % P.length:=iV i0;have g:0<=i % (P.length:Int):=bO _ (by omega);have f:i % (P.length:Int)<P.length:=bH _ (by omega);have r:=I _ (fM g f);have c:=aaR (gt ws i) (O _ (fM i0 hi)) i t (gt P (i % P.length)).1 (gt P (i % P.length)).2 v r.1 r.2.1 r.2.2 Q ⟨i0,by omega⟩;rw[show(gt ws i).cells = [.i (gt ws i).kind,.i (gt ws i).pos,.i (gt ws i).n,.i (gt ws i).sZ,.i (gt ws i).rY]from rfl]at c
   have b:tz ws v P t (i+1).toNat=A++(if Gy (gt ws i) t=true then [pM (gt ws i) i (gt P (i % P.length)) v]else []):=by rw[show(i+1).toNat=i.toNat+1 by omega,tz,<-o,show((i.toNat:Nat):Int)=i by omega]
   by_cases z:Gy (gt ws i) t=true
   .rw[if_pos z]at c b;rw[show(⟨⟨i,(gt P (i % P.length)).1,(gt P (i % P.length)).2,nV (gt ws i) v (gt P (i % P.length)).1 ((gt P (i % P.length)).2-(gt P (i % P.length)).1).toNat,jI (nV (gt ws i) v (gt P (i % P.length)).1 ((gt P (i % P.length)).2-(gt P (i % P.length)).1).toNat)⟩,false⟩:Cw)=pM (gt ws i) i (gt P (i % P.length)) v by unfold pM;rfl]at c;obtain⟨x,B⟩:∃x,pM (gt ws i) i (gt P (i % P.length)) v=x:=⟨_,rfl⟩;rw[B]at c b;clear B;rw[show gS x=cl gS [x]from(iF _).symm]at c;have q:(cl gS [x]).length=36:=by rw[s5];rfl
    have p:(cl gS [x]).take 36=cl gS [x]:=af (by omega);have K:(cl gS [x] ++ [D.b true])[36]? = some (.b true):=by rw[ai (by omega),q];rfl
    have J:(cl gS [x] ++ [D.b true]).take 37=cl gS [x] ++ [.b true]:=af (by simp[q]);simp[hi,G,j,g,f,i0,BI];(with_reducible repeat' first|refine Xk ?_<;>try simp[j,g,f,BI]|refine Xs ?_ ?_<;>intro h<;>(try intro X)<;>(try simp[h,j,g,f,BI])<;>try omega|refine Xg ?_|omega);refine iy.c rfl rfl c (by simp) (by simp[SI,J1]) ?_;simp[q,p,J,K];refine Bl q p J K ?_;refine LJ.i (i+1,A ++ [x]) (by first|rfl|simp[p]) (by first|rfl|simp[p]) rfl rfl ?_;exact⟨by dsimp only;omega,⟨ie,λe=>absurd e l⟩,b.symm⟩
   .rw[if_neg z]at c b;rw[ay]at b;have u:(cl fU (zs 32)).length=32:=by simp
    have F:(cl fU (zs 32) ++ [D.b false])[32]? = some (.b false):=by rw[ai (by omega),u];rfl
    have E:(cl fU (zs 32) ++ [D.b false]).take 33=cl fU (zs 32) ++ [.b false]:=af (by simp[u]);simp[hi,G,j,g,f,i0,BI];refine pR j g f ?_;refine iy.c rfl rfl c (by simp) (by simp[SI,J1]) ?_;simp[F,E];refine kl F E ?_;refine LJ.e (i+1,A) ?_;exact⟨by dsimp only;omega,⟨ie,λe=>absurd e l⟩,b.symm⟩
  .have s:A=R:=by rw[<-m,if_neg (by omega),o,show i.toNat=ws.length by omega]
   subst s;clear m;simp[hi]
structure GF(x:Cw):Prop where
 ok:x.ok
 b:∀r∈x.c.es,r.2<=4000
def MS(n:Nat)(sd:Bool)(L:List Cw):Prop:=L.length<=10/\∀x∈L,GF x/\(sd=true->x.em=false/\0<=x.c.lo/\x.c.lo<x.c.hi/\x.c.hi<=n/\(x.c.es.length:Int)=x.c.hi-x.c.lo/\x.c.root=jI x.c.es)
theorem Yy{w:Wk}{v:List fq}{lo:Int}{r:fq}:∀ {n:Nat},r∈nV w v lo n->0<=lo->lo+n<=v.length->r∈v\/r=(w.sZ,w.rY)
 | 0,h,_,_=>by cases h
 | n+1,h,h0,h1=>by
  rcases List.mem_append.1 h with h|h
  .exact Yy h h0 (by omega)
  .rw[List.mem_singleton.1 h,A2];split
   .exact .inr rfl
   .exact .inl (fM (by omega) (by omega))
theorem akW{w:Wk}(b:w.ok){who:Int}{p:fq}{v:List fq}(a:0<=p.1/\p.1<p.2/\p.2<=v.length)(e:v.length<=64)(c:∀r∈v,r.2<=4000) :
  GF (pM w who p v)/\((pM w who p v).em=false/\0<=(pM w who p v).c.lo/\(pM w who p v).c.lo<(pM w who p v).c.hi/\(pM w who p v).c.hi<=v.length/\((pM w who p v).c.es.length:Int)=(pM w who p v).c.hi-(pM w who p v).c.lo/\(pM w who p v).c.root=jI (pM w who p v).c.es):=by
 have hl:=Q8 w v p.1 (p.2-p.1).toNat;unfold pM;refine⟨⟨⟨(λh=>by cases h),?_,yL _,?_,?_⟩,λr d=>?_⟩,rfl,?_,?_,?_,?_,rfl⟩
 .dsimp only;omega
 .dsimp only;omega
 .dsimp only;omega
 .rcases Yy d a.1 (by omega)with h|rfl
  .exact c r h
  .have:=b.rY;dsimp only;omega
 .exact a.1
 .exact a.2.1
 .exact a.2.2
 .dsimp only;omega
theorem Xw{ws:List Wk}{v P:List fq}{t:Int}(c:∀w∈ws,w.ok)(hP:∀p∈P,0<=p.1/\p.1<p.2/\p.2<=v.length)(b:0<P.length)(e:v.length<=64)(d:∀r∈v,r.2<=4000) :
  ∀n,n<=ws.length->∀x∈tz ws v P t n,GF x/\(true=true->x.em=false/\0<=x.c.lo/\x.c.lo<x.c.hi/\x.c.hi<=v.length/\(x.c.es.length:Int)=x.c.hi-x.c.lo/\x.c.root=jI x.c.es)
 | 0,_,x,a=>by cases a
 | n+1,hn,x,a=>by
  rcases List.mem_append.1 a with a|a
  .exact Xw c hP b e d n (by omega) x a
  .split at a
   .rw[List.mem_singleton.1 a];have:=akW (who:=n) (c (gt ws n) (fM (by omega) (by omega))) (hP (gt P ((n:Int) % P.length)) (fM (bO _ (by omega)) (bH _ (by omega)))) e d;exact⟨this.1,λ_=>this.2⟩
   .cases a
def On(n:Nat)(sd:Bool):D->U->Prop:=λd H=>∃L g,d = .fm 0 g 36 0 L.length/\H = [.row 72 g (cl gS L)]/\MS n sd L
theorem fL.on{f:FuncId}{args:List D}{dst:Option Nat}{s:St}{K:St->Prop}{fn:iE}{n:Nat}{sd:Bool}(c:T.fn f=some fn)(b:fn.full=false)(h:Wf T f args [] (On n sd))
  (a:fR args=true) (k:∀L g,MS n sd L->K { s with env:=put s.env dst (.fm s.H.length g 36 0 L.length),H:=s.H ++ [.row 72 g (cl gS L)] }):fL T f args dst s K .mk:=by
 refine fL.is c b (K0:=On n sd) ?_ ?_
 .have i:args.map (fy (λ_=>none) s.H 40)=args:=by
   conv=>rhs;rw[<-aS args]
   exact ao λd e=>pj (lD a d e)
  rw[i];exact h
 .rintro d' j ⟨L,g,rfl,rfl,hP⟩;refine⟨_,?_,k L g hP⟩;unfold after;rw[if_pos a,if_pos (by simp)];simp
theorem aaN(v:List fq)(l:List B5)(k t a b c:Int)(hl:∀x∈l,x.ok)(W:0<v.length)(M:v.length<=64)(Q:∀r∈v,r.2<=4000)(k0:0<=k)(k9:k<=4000)
  (U:0<=a/\a<256) (S:0<=b/\b<256) (Z:0<=c/\c<256) :
  Wf T 73 [gQ v,.sl 5 (l.map f5),.i k,.i t,.agg [.val (.int .u8 a),.val (.int .u8 b),.val (.int .u8 c)]] [] (On v.length (decide (a % 8<6))):=by
 have D:=aay l hl
 have J:∀w∈(l.take 8).map B5.wk,w.ok:=λw P=>by obtain⟨x,_,rfl⟩:=au.1 P;exact akX _
 have F:((l.take 8).map B5.wk).length<=8:=by simp;omega
 obtain⟨ws,O⟩:∃ws,(l.take 8).map B5.wk=ws:=⟨_,rfl⟩;rw[O]at D J F
 have z:∀x∈(if k<1 then []else tz ws v (qm v.length (min k v.length).toNat 0) t ws.length),GF x/\(true=true->x.em=false/\0<=x.c.lo/\x.c.lo<x.c.hi/\x.c.hi<=v.length/\(x.c.es.length:Int)=x.c.hi-x.c.lo/\x.c.root=jI x.c.es):=by
  intro x d;split at d
  .cases d
  .exact Xw J (zg (by omega) (by omega)) (by rw[J7];omega) M Q _ (Nat.le_refl _) x d
 have X:(if k<1 then []else tz ws v (qm v.length (min k v.length).toNat 0) t ws.length).length<=8:=by
  split
  .simp
  .exact Nat.le_trans (QD _) F
 obtain⟨R,H⟩:∃R,(if k<1 then []else tz ws v (qm v.length (min k v.length).toNat 0) t ws.length)=R:=⟨_,rfl⟩;have c2:=aaF ws v k t J F W M k0 k9 H;rw[H]at z X;clear H O;have g:fJ a 8=a % 8:=iV U.1
 by_cases L:R = []
 .subst L;refine Yg uN ?_;simp[uN];refine Yc (D) ?_;simp;refine fo ?_;refine Go.AL.fL.n rfl rfl c2 (by simp) (by simp) ?_;simp;exact⟨[],0,rfl,by simp,by simp[MS]⟩
 have e:0<R.length:=av.2 L;have m:0<=b % (R.length:Int):=bO _ (by omega);have j:b % (R.length:Int)<R.length:=bH _ (by omega);have p:fJ b R.length=b % R.length:=iV S.1;have n:IntKind.i64.wrap b=b:=mL ie;have wc:IntKind.i64.wrap c=c:=mL ie;have d:=z _ (fM m j);obtain⟨x,N⟩:∃x,gt R (b % R.length)=x:=⟨_,rfl⟩;rw[N]at d;have G:=D8 d.1.ok;have I:=d.1.ok.root;obtain⟨⟨who,lo,hi,es,root⟩,em⟩:=x;dsimp only at I
 obtain⟨A,rs,rfl⟩:∃A rs,root=A::rs:=by
  cases root with
  | nil=>cases I
  | cons A rs=>exact⟨A,rs,rfl⟩
 have f:rs.length=31:=by simpa using I
 have u:rs.take 31=rs:=af (by omega);have Y:(cl fU rs).take 31=cl fU rs:=af (by simp[f]);have q:gS (gt R (b % R.length)) = [.i who,.i lo,.i hi,dE em es,.val (.int .u8 A)]++cl fU rs:=by rw[N,G];simp[Cw.cells,mm]
 have K:∀s o E,-1000000<=s/\s<=1000000->-1000000<=o/\o<=1000000->On v.length false (.fm 0 (R.length+1) 36 0 (R.length+1)) [.row 72 (R.length+1) (cl gS R ++ .i who :: .i s :: .i o::dE em es :: .val (.int .u8 E)::cl fU rs)]:=λs o E q1 q2=>by
  have ft:Cw.ok ⟨⟨who,s,o,es,E::rs⟩,em⟩:=⟨d.1.ok.em,d.1.ok.es,by simp[f],q1,q2⟩;refine⟨R ++ [⟨⟨who,s,o,es,E::rs⟩,em⟩],R.length+1,by simp,?_,by simp;omega,λy i=>⟨?_,λh=>by cases h⟩⟩
  .rw[<-oZ,D8 ft];simp[Cw.cells,mm]
  .rcases List.mem_append.1 i with i|i
   .exact(z y i).1
   .rw[List.mem_singleton.1 i];exact⟨ft,d.1.b⟩
 have q1:=d.1.ok.lo;have q2:=d.1.ok.hi;have q3:=(d.2 rfl).2;dsimp only at q1 q2 q3
 by_cases B:a % 8=7
 .refine Yg uN ?_;simp[uN];refine Yc (D) ?_;simp;refine fo ?_;refine Go.AL.fL.n rfl rfl c2 (by simp) (by simp) ?_;simp[e,g,B,n,p,m,j,q,f,u];(with_reducible repeat' first|refine Xk ?_<;>try simp[e,g,B,n,p,m,j,q,f,u]|refine Xs ?_ ?_<;>intro h<;>(try intro V)<;>(try simp[h,e,g,B,n,p,m,j,q,f,u])<;>try omega|refine Xg ?_|omega);exact K _ _ _ q1 q2
 .by_cases C:a % 8=6
  .refine Yg uN ?_;simp[uN];refine Yc (D) ?_;simp;refine fo ?_;refine Go.AL.fL.n rfl rfl c2 (by simp) (by simp) ?_;simp[e,g,C,n,wc,p,m,j,q,f,u];(with_reducible repeat' first|refine Xk ?_<;>try simp[e,g,C,n,wc,p,m,j,q,f,u]|refine Xs ?_ ?_<;>intro h<;>(try intro V)<;>(try simp[h,e,g,C,n,wc,p,m,j,q,f,u])<;>try omega|refine Xg ?_|omega);exact K _ _ _ (by omega) (by omega)
  .refine Yg uN ?_;simp[uN];refine Yc (D) ?_;simp;refine fo ?_;refine Go.AL.fL.n rfl rfl c2 (by simp) (by simp) ?_;simp[e,g,C,B];refine Bl e g C B ?_;exact⟨R,R.length,rfl,rfl,by omega,λy i=>⟨(z y i).1,λ_=>(z y i).2 rfl⟩⟩
set_option maxHeartbeats 4000000
def iP(n:Int)(c:gx):Bool:=snd c&&decide (c.hi<=n)
noncomputable def wI(V:List fq)(c:gx):Bool:=iP V.length c&&decide (∀i:Int,c.lo<=i->i<c.hi->kb c i=gt V i)
theorem Ms{c:gx}(h:snd c=true):0<=c.lo/\c.lo<=c.hi/\(c.es.length:Int)=c.hi-c.lo:=by unfold snd at h;have:=of_decide_eq_true h;exact⟨this.1,this.2.1,this.2.2.1⟩
theorem aaM(x:Cw)(d:x.ok)(n:Int):Wf T 69 [.agg x.cells,.i n] [] (Is (.b (iP n x.c))):=by
 have c:=aaZ x d;have a:=d.root;have g:(x.cells).length=36:=by unfold Cw.cells;simp[a]
 have f:x.cells.take 36=x.cells:=af (by omega);unfold iP;obtain⟨b,e⟩:∃b,snd x.c=b:=⟨_,rfl⟩;rw[e]at c ⊢;obtain⟨⟨who,lo,hi,es,root⟩,em⟩:=x;unfold Cw.cells at *;dsimp only at *;simp only[bP,br]at c;refine Yg GZ ?_;simp[GZ,a];refine Yc (c) ?_;simp;cases b
 .exact lZ
 .exact lZ
theorem Ts(x:Cw)(a:x.ok)(V:List fq)(w:V.length<=64):Wf T 22 [.agg x.cells,gQ V] [] (Is (.b (wI V x.c))):=by
 have c:=aaM x a V.length;have k:=a.root;have q:=a.em;have s:=a.lo;have r:=a.hi;unfold wI
 have l:iP V.length x.c=true->0<=x.c.lo/\x.c.lo<=x.c.hi/\(x.c.es.length:Int)=x.c.hi-x.c.lo/\x.c.hi<=V.length:=λh=>by unfold iP at h;rw[Bool.and_eq_true,decide_eq_true_iff]at h;have:=Ms h.1;exact⟨this.1,this.2.1,this.2.2,h.2⟩
 have g:∀i,kb x.c i=gt x.c.es (i-x.c.lo):=λ_=>rfl;obtain⟨b,o⟩:∃b,iP V.length x.c=b:=⟨_,rfl⟩;rw[o]at c l ⊢;simp only[g];obtain⟨⟨who,lo,hi,es,root⟩,em⟩:=x;unfold Cw.cells at *;dsimp only at *;simp only[bP,br]at c;cases b
 .refine Yg A5 ?_;simp[A5,k];refine Yc (c) ?_;simp
 .obtain⟨v,u,l2,t⟩:=l rfl;rw[dH];refine Yg A5 ?_;simp[A5,k];refine Yc (c) ?_;simp;refine fE.e lo (λy=>[(1,gQ V),(2,.ptr 0 0 0),(5,.i y)]) (λy=>[.row 72 0 (D.i who::D.i lo::D.i hi::dE em es::cl fU root)]) (λy=>(lo<=y/\y<=hi)/\∀j:Int,lo<=j->j<y->gt es (j-lo)=gt V j) (λy=>(hi-y).toNat) ?_ ?_
  .exact⟨by simp;omega,λj j0 j1=>by omega⟩
  rintro i ⟨⟨i0,n⟩,f⟩;dsimp only at i0 n f ⊢
  by_cases d:i<hi
  .have p:em=false:=by
    cases em
    .rfl
    .have:=q rfl;rw[this]at l2;simp at l2;omega
   subst p
   have hP:(∀j:Int,lo<=j->j<hi->gt es (j-lo)=gt V j)->(gt es (i-lo)).1=(gt V i).1/\(gt es (i-lo)).2=(gt V i).2:=λh=>by rw[h i i0 d];exact⟨rfl,rfl⟩
   simp[d,dE];(with_reducible repeat' first|refine Xk ?_<;>try simp|refine Xs ?_ ?_<;>intro h<;>(try intro z)<;>(try simp[h])<;>try omega|refine Xg ?_|omega)
   .refine LJ.e (i+1) ?_;refine⟨by omega,ie,λj j0 j1=>?_⟩
    by_cases e:j=i
    .rw[e];exact eN (by assumption) (by assumption)
    .exact f j j0 (by omega)
   .exact⟨i,i0,d,λe=>h ⟨by rw[e],by rw[e]⟩⟩
  .have m:i=hi:=by omega
   subst m;simp;exact f
structure ISl(l:List Int)(d:D):Prop where
 cl:closed d=true
 len:∀H,mB .slice d H=some (.i l.length)
 idx:∀(n:Int) (k:IntKind) (P:D->Prop),oA (lV 1 d (.val (.int k n))) P .mk=((0<=n/\n<l.length)/\P (.fH [.i (gt l n)]))
structure RSl(l:List fq)(d:D):Prop where
 cl:closed d=true
 len:∀H,mB .slice d H=some (.i l.length)
 idx:∀(n:Int) (k:IntKind) (P:D->Prop),oA (lV 2 d (.val (.int k n))) P .mk=((0<=n/\n<l.length)/\P (.fH [.i (gt l n).1,.i (gt l n).2]))
set_option maxHeartbeats 8000000
def uz(m:Int)(r:fq):Int:=if r.1≠2/\(m<0\/r.2<m)then r.2 else m
def vB(l:List fq):Int:=l.foldl uz (-1)
theorem ad7(l:List fq)(r:fq):vB (l ++ [r])=uz (vB l) r:=by unfold vB;rw[List.foldl_append];rfl
theorem dd(a b:Int)(q:fq):(!decide (a=q.1) || !decide (b=q.2)) = !decide ((a,b)=q):=by obtain⟨x,y⟩:=q;rw[<-Bool.not_and,<-dp];congr 1;exact decide_eq_decide.2 (by simp)
def Cw.full(x:Cw):Prop:=x.ok/\(x.c.lo<x.c.hi->(x.c.es.length:Int)=x.c.hi-x.c.lo)
theorem Cw.ab3{x:Cw}(h:x.full){i:Int}(a:jZ x.c i=true):x.em=false/\x.c.lo<=i/\i-x.c.lo<x.c.es.length:=by
 unfold jZ at a;rw[decide_eq_true_iff]at a;have b:=h.2 (by omega);refine⟨?_,a.1,by omega⟩
 cases e:x.em with
 | false=>rfl
 | true=>
  have:=h.1.em e;rw[this]at b;simp at b;omega
def cs(L:List Cw):List gx:=L.map Cw.c
def jx(p:gx->Bool):List gx->Nat->List Int
 | _,0=>[]
 | cl,n+1=>if p (gt cl (n:Int))=true then jx p cl n ++ [(n:Int)]else jx p cl n
end Go.Proofs.YtmehofoficaelaaGreatDoor
namespace Go.Proofs.YtmehofoficaelaaGreatDoor
open Go Go.AL Classical
def idx(p:gx->Bool)(cl:List gx):List Int:=(upto cl.length).filter λk=>p (gt cl k)
theorem Cu{p:gx->Bool}{cl:List gx}{k:Int}:k∈idx p cl↔(0<=k/\k<cl.length)/\p (gt cl k)=true:=by unfold idx;rw[aV,js]
theorem Cn{p:gx->Bool}{cl:List gx}:idx p cl≠[]↔∃c∈cl,p c=true:=by
 constructor
 .intro h;obtain⟨k,a⟩:=eI _ h;rw[Cu]at a;exact⟨_,fM a.1.1 a.1.2,a.2⟩
 .rintro⟨c,d,b⟩ h;obtain⟨k,k0,k1,rfl⟩:=w6.1 d;have:k∈idx p cl:=Cu.2 ⟨⟨k0,k1⟩,b⟩;rw[h]at this;cases this
inductive Jd where
 | v (a:Int) (l:List Int)
 | none
 | tP
 deriving DecidableEq
def DC(cl:List gx)(a i:Int):Int:=if l4 (sd cl i)=true/\(a<0\/lx (sd cl i)<lx (sd cl a))then i else a
def lR(cl:List gx)(n:Nat):Int:=(upto n).foldl (DC cl) (-1)
noncomputable def mA(A:nu)(n:Nat)(ad:gx->Bool)(cl:List gx):Jd:=
 if idx (λc => !ad c) cl≠[]then .v (-1) (idx (λc => !ad c) cl)
 else if∃i∈upto n,sd cl i = []then .tP
 else match (upto n).find? λi=>decide (idx (λc=>jZ c i && !lW (kb c i)) cl≠[])with
  | some i=>.v i (idx (λc=>jZ c i && !lW (kb c i)) cl)
  | Option.none=>if lR cl n<0 then .none else .v (lR cl n) (idx (pN A cl (lR cl n)) cl)
theorem MJ(n:Nat):upto (n+1)=upto n ++ [(n:Int)]:=by simp[upto,List.range_succ]
theorem JH(cl:List gx):∀n:Nat,(lR cl n = -1/\∀j:Int,0<=j->j<n->l4 (sd cl j)=false) \/
  ((0<=lR cl n/\lR cl n<n)/\l4 (sd cl (lR cl n))=true/\∀j:Int,0<=j->j<n->l4 (sd cl j)=true->lx (sd cl (lR cl n))<=lx (sd cl j))
 | 0=>.inl ⟨rfl,λj h0 h1=>by omega⟩
 | n+1=>by
  have e:lR cl (n+1)=DC cl (lR cl n) n:=by unfold lR;rw[MJ,List.foldl_append];rfl
  rw[e];generalize c:lR cl n=a;have b:=JH cl n;rw[c]at b;unfold DC
  by_cases d:l4 (sd cl n)=true
  .grind
  .grind
def Jz(V:List fq)(ad:gx->Bool)(c:gx):Prop:=ad c=true/\∀i,jZ c i=true->kb c i=gt V i
section
variable{A:nu}{V:List fq}{cl:List gx}{n:Nat}{ad:gx->Bool}
theorem adD(fZ:∀i:Int,0<=i->i<n->∀k∈gt A.nx i,0<=k/\k<n)(hV:∀i:Int,0<=i->i<n->oX A V i)(sB:∀i:Int,0<=i->i<n->lW (gt V i)=true)
  (w:∀i:Int,0<=i->i<n->∃c∈cl,Jz V ad c/\jZ c i=true) (z:∀c,ad c=true->∀i,jZ c i=true->0<=i/\i<n) {a:Int} {l:List Int} (h:mA A n ad cl = .v a l) :
  l≠[]/\(-1<=a/\a<n)/\∀k∈l,¬Jz V ad (gt cl k):=by
 unfold mA at h;split at h
 .rename_i v;cases h;exact⟨v,by omega,λk f g=>by have:=(Cu.1 f).2;rw[g.1]at this;cases this⟩
 rename_i m;split at h
 .cases h
 have m:∀c∈cl,ad c=true:=λc u=>by
  cases e:ad c with
  | true=>rfl
  | false=>exact absurd (Cn.2 ⟨c,u,by simp[e]⟩) m
 split at h
 .rename_i i hi;cases h;have h1:=List.find?_some hi;have b:=List.mem_of_find?_eq_some hi;rw[js]at b;refine⟨by simpa using h1,by omega,λk f g=>?_⟩;have d:=(Cu.1 f).2;simp only[Bool.and_eq_true,Bool.not_eq_true']at d;rw[g.2 _ d.1,sB _ b.1 b.2]at d;cases d.2
 .rename_i q;split at h
  .cases h
  rename_i y;cases h
  have s:∀i:Int,0<=i->i<n->∀r∈sd cl i,lW r=true:=λi i0 j r t=>by
   rw[eA]at q;have:=q i (js.2 ⟨i0,j⟩);obtain⟨c,h1,b,rfl⟩:=uA.1 t
   cases e:lW (kb c i)with
   | true=>rfl
   | false=>exact absurd (Cn (p:=λc=>jZ c i && !lW (kb c i)) |>.2 ⟨c,h1,by simp[b,e]⟩) (by simpa using this)
  rcases JH cl n with⟨e,_⟩|⟨h1,b,d⟩
  .omega
  refine⟨Cn.2 (ak7 (s _ h1.1 h1.2) b),by omega,λk f g=>?_⟩;have o:=Cu.1 f;have x:jZ (gt cl k) (lR cl n)=true:=by have:=o.2;unfold pN at this;rw[Bool.and_eq_true]at this;exact this.1
  have:=ak6 (cl:=cl) (N:=(n:Int)) fZ hV (λi i0 j=>by
   obtain⟨c,q1,q2,q3⟩:=w i i0 j
   exact uA.2 ⟨c,q1,q3,q2.2 i q3⟩) h1.1 h1.2 d (c:=gt cl k) (g.2 _ x)
  rw[o.2]at this;cases this
theorem adB(h:mA A n ad cl = .none):(∀c∈cl,ad c=true)/\∀i:Int,0<=i->i<n->sd cl i≠[]/\l4 (sd cl i)=false:=by
 unfold mA at h;split at h
 .cases h
 rename_i d;split at h
 .cases h
 rename_i a
 refine⟨λc a=>by
  cases e:ad c with
  | true=>rfl
  | false=>exact absurd (Cn.2 ⟨c,a,(by show(!ad c)=true;rw[e];rfl)⟩) d,?_⟩
 split at h
 .cases h
 split at h
 .rename_i f;rcases JH cl n with⟨_,e⟩|⟨h1,_,_⟩
  .exact λi i0 b=>⟨λh0=>a ⟨i,js.2 ⟨i0,b⟩,h0⟩,e i i0 b⟩
  .omega
 .cases h
theorem ady(h:mA A n ad cl = .tP):∃i:Int,(0<=i/\i<n)/\sd cl i = []:=by
 unfold mA at h;split at h
 .cases h
 split at h
 .rename_i a;obtain⟨i,hi,e⟩:=a;exact⟨i,js.1 hi,e⟩
 split at h
 .cases h
 split at h<;>cases h
end
end Go.Proofs.YtmehofoficaelaaGreatDoor
namespace Go.Proofs.YtmehofoficaelaaGreatDoor
open Go Go.AL Classical
@[simp] theorem asp(o:Int):jH [] o = []:=rfl
@[simp] theorem asj:uB [] = -1:=rfl
@[simp] theorem asi:Ct [] = -1:=rfl
theorem aek(l:List Int)(x:Int):uB (l ++ [x])=if l = []then x else min (uB l) x:=by
 cases l with
 | nil=>rfl
 | cons a r=>simp[uB,List.foldl_append]
theorem ad6{l:List fq}(h:∀r∈l,r.1≠2->0<=r.2):vB l=lx l:=by
 suffices ∀(l m:List fq),(∀r∈m++l,r.1≠2->0<=r.2)->l.foldl uz (lx m)=lx (m++l)from by have:=this l [] (by simpa using h);rw[br]at this;exact this
 intro l
 induction l with
 | nil=>intro m _;simp
 | cons a r i=>
  intro m c;rw[bT]
  have e:uz (lx m) a=lx (m ++ [a]):=by
   unfold uz;have g:=c a (by simp);unfold lx;rw[ew,List.map_append]
   by_cases d:a.1=2
   .grind
   .have g:=g d;have hs:((([a]:List fq).filter λr=>decide (r.1≠2)).map λr=>r.2) = [a.2]:=by simp[d]
    rw[hs,aek]
    by_cases b:((m.filter λr=>decide (r.1≠2)).map λr=>r.2) = []
    .rw[if_pos b,b];rw[if_pos ⟨d,.inl (by decide)⟩]
    .rw[if_neg b];have j:=Cv b;obtain⟨q,f,n⟩:=au.1 j;rw[aV]at f;have k:=c q (by simp[f.1]) (by simpa using f.2)
     by_cases hl:a.2<uB ((m.filter λr=>decide (r.1≠2)).map λr=>r.2)
     .grind
     .grind
  rw[e,i (m ++ [a]) (by simpa using c)];simp
def wg(cl:List gx)(n j:Int):fq:=if l4 (sd cl j)=false/\(pv (sd cl j)).2<n then pv (sd cl j)else(2,0)
theorem Wr(A:nu)(cl:List gx)(i n:Int):FD A cl i n=(gt A.nx i).map (wg cl n):=rfl
theorem VC{p q:gx->Bool}{cl:List gx}:∀ {n:Nat},n<=cl.length->(∀c∈cl,p c=q c)->jx p cl n=jx q cl n
 | 0,_,_=>rfl
 | n+1,h,hp=>by rw[jx,jx,VC (by omega) hp,hp _ (fM (by omega) (by omega))]
theorem ti(p:gx->Bool)(cl:List gx):jx p cl cl.length=idx p cl:=by
 unfold idx
 suffices ∀n:Nat,jx p cl n=(upto n).filter λk=>p (gt cl k)from this _
 intro n
 induction n with
 | zero=>rfl
 | succ n a=>
  rw[jx,a,MJ,ew]
  by_cases h:p (gt cl (n:Int))=true
  .grind
  .grind
end Go.Proofs.YtmehofoficaelaaGreatDoor
namespace Go.Proofs.YtmehofoficaelaaGreatDoor
open Go Go.AL Classical
theorem TS{p:Int->Bool}:∀ {n:Nat} {i:Int},0<=i->i<n->p i=true->(∀j:Int,0<=j->j<i->p j=false)->(upto n).find? p=some i
 | 0,i,h0,h1,_,_=>by omega
 | n+1,i,h0,h1,hp,hn=>by
  rw[MJ,List.find?_append]
  by_cases e:i=n
  .have:(upto n).find? p=none:=eA.2 λj a=>by rw[js]at a;rw[hn j a.1 (by omega)];simp
   rw[this,e];rw[e]at hp;simp[hp]
  .rw[TS h0 (by omega) hp hn];rfl
theorem abU{p:Int->Bool}{n:Nat}(h:∀j:Int,0<=j->j<n->p j=false):(upto n).find? p=none:=
 eA.2 λj a=>by rw[js]at a;rw[h j a.1 a.2];simp
section
variable{A:nu}{n:Nat}{ad:gx->Bool}{cl:List gx}
def imp(cl:List gx)(i:Int):List Int:=jx (λc=>jZ c i && !lW (kb c i)) cl cl.length
theorem adw(h:jx (λc => !ad c) cl cl.length≠[]):mA A n ad cl = .v (-1) (jx (λc => !ad c) cl cl.length):=by unfold mA;rw[ti]at h ⊢;rw[if_pos h]
theorem adz(h:jx (λc => !ad c) cl cl.length = []){i:Int}(i0:0<=i)(a:i<n)(hi:sd cl i = []):mA A n ad cl = .tP:=by unfold mA;rw[ti]at h;rw[if_neg (λq=>q h),if_pos ⟨i,js.2 ⟨i0,a⟩,hi⟩]
theorem adA(h:jx (λc => !ad c) cl cl.length = [])(hs:∀j:Int,0<=j->j<n->sd cl j≠[]){i:Int}(i0:0<=i)(b:i<n)(hi:imp cl i≠[])(a:∀j:Int,0<=j->j<i->imp cl j = []):mA A n ad cl = .v i (imp cl i):=by
 unfold mA;rw[ti]at h;rw[if_neg (λq=>q h),if_neg]
 .rw[TS i0 b]
  .show Jd.v i _=_;unfold imp;rw[ti]
  .rw[decide_eq_true_iff,<-ti];exact hi
  .intro j j0 j1;rw[decide_eq_false_iff_not,<-ti];exactλq=>q (a j j0 j1)
 .rintro⟨j,a,e⟩;rw[js]at a;exact hs j a.1 a.2 e
theorem adx(h:jx (λc => !ad c) cl cl.length = [])(hs:∀j:Int,0<=j->j<n->sd cl j≠[])(a:∀j:Int,0<=j->j<n->imp cl j = []):mA A n ad cl=if lR cl n<0 then .none else .v (lR cl n) (jx (pN A cl (lR cl n)) cl cl.length):=by
 unfold mA;rw[ti]at h;rw[if_neg (λq=>q h),if_neg]
 .rw[abU λj j0 j1=>by
   rw[decide_eq_false_iff_not,<-ti]
   exactλq=>q (a j j0 j1)]
  rw[ti]
 .rintro⟨j,a,e⟩;rw[js]at a;exact hs j a.1 a.2 e
theorem imp_nil{i:Int}(h:imp cl i = []):∀r∈sd cl i,lW r=true:=λr a=>by
 obtain⟨c,b,h1,rfl⟩:=uA.1 a;unfold imp at h;rw[ti]at h
 cases e:lW (kb c i)with
 | true=>rfl
 | false=>exact absurd h (Cn.2 ⟨c,b,by simp[h1,e]⟩)
end
end Go.Proofs.YtmehofoficaelaaGreatDoor
namespace Go.Proofs.YtmehofoficaelaaGreatDoor
open Go Go.AL Classical
abbrev jz:=List (fq×List Int)
def mR(r:fq)(k:Int):jz->jz
 | []=>[(r,[k])]
 | (q,x)::t=>if q=r then(q,x ++ [k])::t else(q,x)::mR r k t
def oc(p:gx->Bool)(s:gx->fq)(cl:List gx):Nat->jz
 | 0=>[]
 | n+1=>if p (gt cl (n:Int))=true then mR (s (gt cl (n:Int))) n (oc p s cl n)else oc p s cl n
theorem yy{p:gx->Bool}{cl:List gx}{k:Int}:∀ {n:Nat},k∈jx p cl n↔(0<=k/\k<n)/\p (gt cl k)=true
 | 0=>by simp[jx];omega
 | n+1=>by
  rw[jx]
  by_cases h:p (gt cl (n:Int))=true
  .rw[if_pos h,List.mem_append,yy,List.mem_singleton];constructor
   .grind
   .grind
  .rw[if_neg h,yy];constructor
   .grind
   .grind
theorem Ap(p:gx->Bool)(cl:List gx):∀n:Nat,(jx p cl n).Pairwise (· < ·)
 | 0=>.nil
 | n+1=>by
  rw[jx]
  by_cases h:p (gt cl (n:Int))=true
  .rw[if_pos h,bG]
   exact⟨Ap p cl n,List.pairwise_singleton _ _,λa d b c=>by
    rw[List.mem_singleton]at c;have:=(yy.1 d).1
    omega⟩
  .rw[if_neg h];exact Ap p cl n
def sH(r:fq):jz->List Int
 | []=>[]
 | (q,x)::t=>if q=r then x else sH r t
theorem P5{r q:fq}{k:Int}:∀ {G:jz},q∈(mR r k G).map (·.1)↔q=r\/q∈G.map (·.1)
 | []=>by simp[mR]
 | (a,x)::t=>by
  rw[mR]
  by_cases h:a=r
  .grind
  .rw[if_neg h,List.map_cons,aw,P5,List.map_cons,aw];constructor
   .grind
   .grind
theorem T8{r:fq}{k:Int}:∀ {G:jz},(G.map (·.1)).Nodup->((mR r k G).map (·.1)).Nodup
 | [],_=>by simp[mR]
 | (a,x)::t,h=>by
  rw[List.map_cons,cV]at h;rw[mR]
  by_cases e:a=r
  .grind
  .rw[if_neg e,List.map_cons,cV];refine⟨λb=>?_,T8 h.2⟩;rcases P5.1 b with h1|h1
   .exact e h1
   .exact h.1 h1
theorem V9{r q:fq}{k:Int}:∀ {G:jz},sH q (mR r k G)=if q=r then sH q G ++ [k]else sH q G
 | []=>by
  by_cases h:q=r
  .subst h;simp[mR,sH]
  .rw[if_neg h];simp[mR,sH,cF h]
 | (a,x)::t=>by
  rw[mR]
  by_cases e:a=r
  .subst e;rw[if_pos rfl]
   by_cases h:q=a
   .subst h;simp[sH]
   .rw[if_neg h];simp[sH,cF h]
  .rw[if_neg e,sH,sH,V9]
   by_cases h:a=q
   .grind
   .grind
theorem V'{q:fq}{x:List Int}:∀ {G:jz},(G.map (·.1)).Nodup->((q,x)∈G↔q∈G.map (·.1)/\x=sH q G)
 | [],_=>by simp
 | (a,y)::t,h=>by
  rw[List.map_cons,cV]at h;rw[aw,V' h.2,List.map_cons,aw,sH]
  by_cases e:a=q
  .grind
  .grind
section
variable{p:gx->Bool}{s:gx->fq}{cl:List gx}
theorem Ed:∀n:Nat,((oc p s cl n).map (·.1)).Nodup
 | 0=>.nil
 | n+1=>by
  rw[oc];split
  .exact T8 (Ed n)
  .exact Ed n
theorem Ud{q:fq}:∀n:Nat,sH q (oc p s cl n)=jx (λc=>p c&&decide (s c=q)) cl n
 | 0=>rfl
 | n+1=>by
  rw[oc,jx,<-Ud n]
  by_cases h:p (gt cl (n:Int))=true
  .rw[if_pos h,V9]
   by_cases e:q=s (gt cl (n:Int))
   .grind
   .grind
  .grind
theorem KG{q:fq}:∀ {n:Nat},q∈(oc p s cl n).map (·.1)↔∃k:Int,(0<=k/\k<n)/\p (gt cl k)=true/\s (gt cl k)=q
 | 0=>by
  constructor
  .intro h;simp[oc]at h
  .grind
 | n+1=>by
  rw[oc]
  by_cases h:p (gt cl (n:Int))=true
  .rw[if_pos h,P5,KG];constructor
   .grind
   .grind
  .rw[if_neg h,KG];constructor
   .grind
   .grind
theorem N0{q:fq}{x:List Int}{n:Nat}(h:(q,x)∈oc p s cl n):x=jx (λc=>p c&&decide (s c=q)) cl n/\x≠[]:=by
 have h1:=(V' (Ed n)).1 h;rw[Ud]at h1;refine⟨h1.2,λe=>?_⟩;obtain⟨k,d,b,a⟩:=KG.1 h1.1;have:k∈x:=by rw[h1.2];exact yy.2 ⟨d,by simp[b,a]⟩
 rw[e]at this;cases this
end
def gw(cl:List gx)(i:Int):jz:=oc (λc=>jZ c i) (λc=>kb c i) cl cl.length
theorem wm{cl:List gx}{i:Int}{q:fq}:q∈(gw cl i).map (·.1)↔q∈sd cl i:=by
 unfold gw;rw[KG,uA];constructor
 .rintro⟨k,h1,b,a⟩;exact⟨_,fM h1.1 h1.2,b,a⟩
 .rintro⟨c,h1,b,a⟩;obtain⟨k,k0,k1,rfl⟩:=w6.1 h1;exact⟨k,⟨k0,k1⟩,b,a⟩
theorem N1{cl:List gx}{i:Int}:(gw cl i).length=0↔sd cl i = []:=by
 rw[az];constructor
 .intro h;refine aR.2 λq b=>?_;have:=wm.2 b;rw[h]at this;cases this
 .intro h
  cases e:gw cl i with
  | nil=>rfl
  | cons a t=>
   have:a.1∈sd cl i:=wm.1 (by rw[e];simp);rw[h]at this;cases this
theorem KJ{cl:List gx}{i:Int}:1<(gw cl i).length↔l4 (sd cl i)=true:=by
 have f:((gw cl i).map (·.1)).Nodup:=Ed _;constructor
 .intro h
  cases c:l4 (sd cl i)with
  | true=>rfl
  | false=>
   have c:=Kd.1 c
   match e:gw cl i,h with
   | a::b::t,_=>
    rw[e]at f;have k:a.1∈sd cl i:=wm.1 (by rw[e];simp);have j:b.1∈sd cl i:=wm.1 (by rw[e];simp);simp only[List.map_cons,cV,aw,not_or]at f;exact absurd ((c _ k).trans (c _ j).symm) f.1.1
 .intro h;unfold l4 at h;rw[List.any_eq_true]at h;obtain⟨r,d,h1⟩:=h;have h1:r≠pv (sd cl i):=by simpa using h1
  have g:pv (sd cl i)∈sd cl i:=KB λe=>by rw[e]at d;cases d
  have a:=wm.2 d;have b:=wm.2 g
  match e:gw cl i with
  | []=>rw[e]at a;cases a
  | [x]=>
   rw[e]at a b;simp only[List.map_cons,List.map_nil,List.mem_singleton]at a b;exact absurd (a.trans b.symm) h1
  | x::y::t=>simp
theorem acb{cl:List gx}{i:Int}{x:fq×List Int}(h:gw cl i = [x]):x.1=pv (sd cl i):=by
 have h1:x.1∈sd cl i:=wm.1 (by rw[h];simp)
 have a:l4 (sd cl i)=false:=by
  cases e:l4 (sd cl i)with
  | false=>rfl
  | true=>
   have:=KJ.2 e;rw[h]at this;simp at this
 exact Kd.1 a _ h1
theorem ad8{a b:List fq}(h:∀r,r∈a↔r∈b):lx a=lx b:=by
 unfold lx;have c:∀n,n∈(a.filter λr=>decide (r.1≠2)).map (λr=>r.2)↔n∈(b.filter λr=>decide (r.1≠2)).map (λr=>r.2):=λn=>by simp_all
 obtain⟨A,g⟩:∃A,(a.filter λr=>decide (r.1≠2)).map (λr=>r.2)=A:=⟨_,rfl⟩;obtain⟨B,f⟩:∃B,(b.filter λr=>decide (r.1≠2)).map (λr=>r.2)=B:=⟨_,rfl⟩;rw[g,f]at c ⊢
 by_cases e:A = []
 .have:B = []:=aR.2 λn d=>by grind
  rw[e,this]
 .have i:B≠[]:=λq=>e (aR.2 λn d=>by grind);exact Int.le_antisymm (FA ((c _).2 (Cv i))) (FA ((c _).1 (Cv e)))
theorem Gi:∀ {a b:List Int},a.Pairwise (· < ·)->b.Pairwise (· < ·)->(∀k,k∈a↔k∈b)->a=b
 | [],[],_,_,_=>rfl
 | [],y::t,_,_,h=>by have:=(h y).2 (by simp);cases this
 | x::t,[],_,_,h=>by have:=(h x).1 (by simp);cases this
 | x::s,y::t,ha,hb,h=>by
  rw[a8]at ha hb
  have e:x=y:=by
   rcases aw.1 ((h x).1 (by simp))with e|e
   .exact e
   .rcases aw.1 ((h y).2 (by simp))with c|c
    .exact c.symm
    .grind
  subst e;congr 1;refine Gi ha.2 hb.2 λk=>?_;have:=h k;rw[aw,aw]at this;constructor
  .grind
  .grind
end Go.Proofs.YtmehofoficaelaaGreatDoor
namespace Go.Proofs.YtmehofoficaelaaGreatDoor
open Go Go.AL Classical
def KS:KK:=.ints [.i64,.i64]
def kJ(r:fq):Value:=.agg #[.int .i64 r.1,.int .i64 r.2]
def oI(v:Nat)(x:List Int):D:=.fm v (x.length-1) 1 0 x.length
def pI(x:List Int):Ob:=.row 3 (x.length-1) (cl f1 x)
def il(Q:Nat->Nat):Nat->jz->List (Value×D)
 | _,[]=>[]
 | i,(q,x)::t=>(kJ q,oI (Q i) x)::il Q (i+1) t
def mS(r:fq):jz->Option (Nat×List Int)
 | []=>none
 | (q,x)::t=>if q=r then some (0,x)else(mS r t).map λp=>(p.1+1,p.2)
theorem VP(a b:fq):mJ (kJ a) (kJ b)=decide (a=b):=by
 obtain⟨f,e⟩:=a;obtain⟨d,b2⟩:=b;unfold kJ mJ
 by_cases h1:f=d
 .by_cases c:e=b2
  .simp_all
  .simp[c]
 .simp[h1]
theorem P0(Q:Nat->Nat)(r:fq):∀(G:jz) (i j:Nat),w5 (kJ r) (il Q i G) j=(mS r G).map λp=>(j+p.1,oI (Q (i+p.1)) p.2)
 | [],_,_=>rfl
 | (q,x)::t,i,j=>by
  rw[il,w5,VP,mS]
  by_cases h:q=r
  .subst h;simp
  .rw[if_neg (by simpa using cF h),if_neg h,P0 Q r t (i+1) (j+1)]
   cases mS r t with
   | none=>rfl
   | some p=>simp[aU,c8 1]
theorem P3(Q:Nat->Nat)(r:fq)(d:D):∀(G:jz) (i:Nat),lI (il Q i G) (kJ r) d=match mS r G with
  | some p=>(il Q i G).set p.1 (kJ r,d)
  | none=>il Q i G ++ [(kJ r,d)]
 | [],_=>rfl
 | (q,x)::t,i=>by
  rw[il,lI,VP,mS]
  by_cases h:q=r
  .subst h;simp
  .rw[if_neg (by simpa using cF h),if_neg h,P3 Q r d t (i+1)]
   cases mS r t with
   | none=>rfl
   | some p=>simp
theorem xW{r:fq}{k:Int}:∀ {G:jz} {t:Nat} {x:List Int},mS r G=some (t,x)->G[t]? = some (r,x)/\mR r k G=G.set t (r,x ++ [k])
 | [],_,_,h=>by cases h
 | (q,y)::g,t,x,h=>by
  rw[mS]at h;rw[mR]
  by_cases e:q=r
  .grind
  .rw[if_neg e]at h ⊢
   cases a:mS r g with
   | none=>rw[a]at h;cases h
   | some p=>
    rw[a]at h;cases h;obtain⟨h1,b⟩:=xW (k:=k) (t:=p.1) (x:=p.2) a;exact⟨by simpa using h1,by rw[b];simp⟩
theorem T9{r:fq}{k:Int}:∀ {G:jz},mS r G=none->mR r k G=G ++ [(r,[k])]
 | [],_=>rfl
 | (q,y)::g,h=>by
  rw[mS]at h;rw[mR]
  by_cases e:q=r
  .grind
  .rw[if_neg e]at h ⊢
   cases a:mS r g with
   | none=>rw[T9 a];rfl
   | some p=>rw[a]at h;cases h
@[simp] theorem zo(Q:Nat->Nat):∀(G:jz) (i:Nat),(il Q i G).length=G.length
 | [],_=>rfl
 | (q,x)::t,i=>by rw[il,aG,zo Q t,aG]
theorem wi(Q:Nat->Nat):∀(G:jz) (i t:Nat),(il Q i G)[t]? = (G[t]?).map λx=>(kJ x.1,oI (Q (i+t)) x.2)
 | [],_,_=>rfl
 | (q,x)::g,i,0=>rfl
 | (q,x)::g,i,t+1=>by rw[il,cU,cU,wi Q g (i+1) t,aU,c8 1]
theorem Tn{Q Q':Nat->Nat}:∀ {G:jz} {i:Nat},(∀t,t<G.length->Q (i+t)=Q' (i+t))->il Q i G=il Q' i G
 | [],_,_=>rfl
 | (q,x)::g,i,h=>by
  have h0:=h 0 (by simp);rw[cd]at h0
  rw[il,il,h0,Tn (Q:=Q) (Q':=Q') λt a=>by
   have:=h (t+1) (by simp;omega);rw[show i+(t+1)=i+1+t by omega]at this
   exact this]
theorem To(Q:Nat->Nat){r:fq}{y:List Int}:∀(G:jz) (i t:Nat),t<G.length->il Q i (G.set t (r,y))=(il Q i G).set t (kJ r,oI (Q (i+t)) y)
 | [],_,_,h=>by simp at h
 | (q,x)::g,i,0,_=>rfl
 | (q,x)::g,i,t+1,h=>by rw[List.set_cons_succ,il,il,List.set_cons_succ,To Q g (i+1) t (by simpa using h),show i+1+t=i+(t+1)by omega]
theorem Tp(Q:Nat->Nat){r:fq}{y:List Int}:∀(G:jz) (i:Nat),il Q i (G ++ [(r,y)])=il Q i G ++ [(kJ r,oI (Q (i+G.length)) y)]
 | [],_=>rfl
 | (q,x)::g,i=>by rw[bP,il,il,Tp Q g (i+1),bP,aG,show i+1+g.length=i+(g.length+1)by omega]
structure lY(H:U)(ck sr n:Nat)(M:Nat->jz)(ow:Nat->Nat×Nat×Nat)(P:Nat->Nat)(Q:Nat->Nat->Nat):Prop where
 fc:ow ck=(0,0,0)
 fs:ow sr=(1,0,0)
 row:H[sr]? = some (.row 170 0 ((List.range n).map λj=>D.fV (P j)))
 mp:∀j,j<n->H[P j]? = some (.map KS (il (Q j) 0 (M j)))/\ow (P j)=(2,j,0)
 ls:∀j,j<n->∀t x,(M j)[t]? = some x->H[Q j t]? = some (pI x.2)/\ow (Q j t)=(3,j,t)
section
variable{H H':U}{ck sr n:Nat}{M:Nat->jz}{ow:Nat->Nat×Nat×Nat}{P:Nat->Nat}{Q:Nat->Nat->Nat}
theorem lY.mono(h:lY H ck sr n M ow P Q)(b:∀v o,H[v]? = some o->v≠ck->H'[v]? = some o):lY H' ck sr n M ow P Q:=by
 have ne:∀v,ow v≠(0,0,0)->v≠ck:=λv f e=>f (by rw[e];exact h.fc);refine⟨h.fc,h.fs,b _ _ h.row (ne _ (by rw[h.fs];simp)),λj c=>?_,λj c t x d=>?_⟩
 .obtain⟨h1,a⟩:=h.mp j c;exact⟨b _ _ h1 (ne _ (by rw[a];simp)),a⟩
 .obtain⟨h1,a⟩:=h.ls j c t x d;exact⟨b _ _ h1 (ne _ (by rw[a];simp)),a⟩
def uJ(M:Nat->jz)(j:Nat)(G:jz):Nat->jz:=λi=>if i=j then G else M i
theorem lY.old(h:lY H ck sr n M ow P Q){j t:Nat}{r:fq}{x:List Int}{k:Int}(g:j<n)(z:mS r (M j)=some (t,x))
  (h1:H'[P j]? = some (.map KS ((il (Q j) 0 (M j)).set t (kJ r,oI (Q j t) (x ++ [k]))))) (A:H'[Q j t]? = some (pI (x ++ [k])))
  (f:∀v o,H[v]? = some o->v≠P j->v≠Q j t->ow v≠(0,0,0)->H'[v]? = some o):lY H' ck sr n (uJ M j (mR r k (M j))) ow P Q:=by
 obtain⟨m,l⟩:=xW (k:=k) z;have q:t<(M j).length:=(ae.1 m).1;have lt:=(h.ls j g t _ m).2;have d:=(h.mp j g).2;have ne:∀v w,ow v≠ow w->v≠w:=λv w s e=>s (by rw[e]);refine⟨h.fc,h.fs,f _ _ h.row (ne _ _ (by rw[h.fs,d];simp)) (ne _ _ (by rw[h.fs,lt];simp)) (by rw[h.fs];simp),λi hi=>?_,λi hi u y b=>?_⟩
 .obtain⟨c,a⟩:=h.mp i hi;refine⟨?_,a⟩;unfold uJ
  by_cases e:i=j
  .subst e;rw[if_pos rfl,h1,l,To _ _ _ _ q,aL]
  .grind
 .unfold uJ at b
  by_cases e:i=j
  .subst e;rw[if_pos rfl,l,bK]at b
   by_cases p:t=u
   .grind
   .rw[if_neg p]at b;obtain⟨c,a⟩:=h.ls i hi u y b;exact⟨f _ _ c (ne _ _ (by rw[a,d];simp)) (ne _ _ (by rw[a,lt];simp[cF p])) (by rw[a];simp),a⟩
  .rw[if_neg e]at b;obtain⟨c,a⟩:=h.ls i hi u y b;exact⟨f _ _ c (ne _ _ (by rw[a,d];simp)) (ne _ _ (by rw[a,lt];simp[e])) (by rw[a];simp),a⟩
theorem lY.new(h:lY H ck sr n M ow P Q){j v:Nat}{r:fq}{k:Int}(z:j<n)(t:mS r (M j)=none)(C:ck<v)(q:H.length<=v)
  (h1:H'[P j]? = some (.map KS (il (Q j) 0 (M j) ++ [(kJ r,oI v [k])]))) (E:H'[v]? = some (pI [k]))
  (f:∀w o,H[w]? = some o->w≠P j->ow w≠(0,0,0)->H'[w]? = some o) :
  ∃b Q',lY H' ck sr n (uJ M j (mR r k (M j))) b P Q'/\∀w,w≠v->b w=ow w:=by
 have B:=T9 (k:=k) t;have d:=(h.mp j z).2;have ne:∀v w,ow v≠ow w->v≠w:=λv w q e=>q (by rw[e]);have lv:∀w o,H[w]? = some o->w≠v:=λw o p=>by grind
 let b:Nat->Nat×Nat×Nat:=λw=>if w=v then(3,j,(M j).length)else ow w
 let Q':Nat->Nat->Nat:=λi u=>if i=j/\u=(M j).length then v else Q i u
 have hP:∀i,i<n->P i≠v:=λi hi=>lv _ _ (h.mp i hi).1;have A:∀i u x,i<n->(M i)[u]? = some x->Q i u≠v:=λi u x hi s=>lv _ _ (h.ls i hi u x s).1;have hs:sr≠v:=lv _ _ h.row;refine⟨b,Q',⟨?_,?_,f _ _ h.row (ne _ _ (by rw[h.fs,d];simp)) (by rw[h.fs];simp),λi hi=>?_,λi hi u y c=>?_⟩,λw p=>if_neg p⟩
 .show(if ck=v then _ else _)=_;rw[if_neg (by omega)];exact h.fc
 .show(if sr=v then _ else _)=_;rw[if_neg hs];exact h.fs
 .obtain⟨m,a⟩:=h.mp i hi;refine⟨?_,?_⟩
  .unfold uJ
   by_cases e:i=j
   .subst e;rw[if_pos rfl,h1,B,Tp,aL];have l:il (Q' i) 0 (M i)=il (Q i) 0 (M i):=Tn λu D=>by grind
    have g:Q' i (M i).length=v:=by grind
    rw[l,g]
   .rw[if_neg e];have l:Q' i=Q i:=funext λu=>by grind
    rw[l];exact f _ _ m (ne _ _ (by rw[a,d];simp[e])) (by rw[a];simp)
  .grind
 .unfold uJ at c
  by_cases e:i=j/\u=(M j).length
  .grind
  .have c:(M i)[u]? = some y:=by grind
   obtain⟨m,a⟩:=h.ls i hi u y c;have g:Q' i u=Q i u:=by grind
   rw[g];refine⟨f _ _ m (ne _ _ (by rw[a,d];simp)) (by rw[a];simp),?_⟩;show(if Q i u=v then _ else _)=_;rw[if_neg (A i u y hi c)];exact a
